/-
  Layer 17, plainly: a child; a hall's children, by rising numbers.
-/
import Derived.Test.YtjglpmaedphbnaaBeat0
namespace Go.Proofs.Ytjglpmaedphbnaa
open Go

structure Ch where
  every : Int
  epoch : Int
  state : Int
  parent : Int
  asked : Int
abbrev chCells (c : Ch) : List Value := [.int .i64 c.every, .int .i64 c.epoch, .int .i64 c.state, .int .i64 c.parent, .int .i64 c.asked]
structure OkC (c : Ch) : Prop where
  every : 1 ≤ c.every ∧ c.every ≤ 1000
  epoch : 0 ≤ c.epoch ∧ c.epoch ≤ 1099511627776
  state : c.state = 0 ∨ c.state = 1 ∨ c.state = 2
  asked : 0 ≤ c.asked ∧ c.asked ≤ 1099511627776

def askB (c : Ch) (p now : Int) : Bool := decide (0 ≤ p) && isTime now && decide (c.epoch ≠ 1099511627776)
def askV (c : Ch) (p now : Int) : Int := if askB c p now then c.epoch + 1 else 0
def askE (c : Ch) (p now : Int) : Int := if askB c p now then 0 else 1
def askC (c : Ch) (p now : Int) : Ch := if askB c p now then ⟨c.every, c.epoch + 1, 1, p, now⟩ else c
def againB (c : Ch) (now : Int) : Bool := decide (c.state = 1) && isTime now && decide (c.every ≤ now - c.asked)
def againC (c : Ch) (now : Int) : Ch := if againB c now then ⟨c.every, c.epoch, c.state, c.parent, now⟩ else c
def welE (c : Ch) (fr ep : Int) : Int := if c.state = 1 ∧ fr = c.parent then (if ep < c.epoch then 11 else if c.epoch < ep then 8 else 0) else 10
def welC (c : Ch) (fr ep : Int) : Ch := if welE c fr ep = 0 then ⟨c.every, c.epoch, 2, c.parent, c.asked⟩ else c
def loseB (c : Ch) : Bool := !decide (c.state = 0)
def loseC (c : Ch) : Ch := ⟨c.every, c.epoch, 0, 0, c.asked⟩

theorem OkC.ask {c : Ch} (h : OkC c) (p now : Int) : OkC (askC c p now) := by
  unfold askC
  split
  · rename_i hb
    simp only [askB, Bool.and_eq_true, decide_eq_true_eq, isTime_iff] at hb
    exact ⟨h.every, by have := h.epoch; simp; omega, .inr (.inl rfl), hb.1.2⟩
  · exact h
theorem OkC.again {c : Ch} (h : OkC c) (now : Int) : OkC (againC c now) := by
  unfold againC
  split
  · rename_i hb
    simp only [againB, Bool.and_eq_true, decide_eq_true_eq, isTime_iff] at hb
    exact ⟨h.every, h.epoch, h.state, hb.1.2⟩
  · exact h
theorem OkC.wel {c : Ch} (h : OkC c) (fr ep : Int) : OkC (welC c fr ep) := by
  unfold welC
  split
  · exact ⟨h.every, h.epoch, .inr (.inr rfl), h.asked⟩
  · exact h
theorem OkC.lose {c : Ch} (h : OkC c) : OkC (loseC c) := ⟨h.every, h.epoch, .inl rfl, h.asked⟩

/-! halls -/
structure OkH (R : BM) : Prop where
  ok : OkB R
  pos : ∀ x ∈ R, 1 ≤ x.2
def epB (R : BM) (k : Int) : Int := (gB R k).getD 0
def putB (R : BM) (k e : Int) : BM := if (gB R k).isSome then setB R k e else insB R k e
def openE (R : BM) (k e : Int) : Int := if 0 ≤ k ∧ 1 ≤ e ∧ e ≤ 1099511627776 then (if e < epB R k then 11 else 0) else 1
def openB (R : BM) (k e : Int) : Bool := decide (openE R k e = 0) && !decide (e = epB R k)
def openR (R : BM) (k e : Int) : BM := if openE R k e = 0 then putB R k e else R
theorem OkH.nil : OkH [] := ⟨.nil, by simp⟩
theorem OkH.open {R : BM} (h : OkH R) (k e : Int) : OkH (openR R k e) := by
  unfold openR
  split
  · rename_i h0
    have hb : 0 ≤ k ∧ 1 ≤ e ∧ e ≤ 1099511627776 := by
      unfold openE at h0
      split at h0
      · assumption
      · cases h0
    have ht : isTime e = true := isTime_iff.2 (by omega)
    unfold putB
    cases hg : gB R k with
    | some u =>
      simp only [Option.isSome_some, if_true]
      refine ⟨h.ok.set hb.1 ht, fun x hx => ?_⟩
      rcases mem_set hx with rfl | hx
      · exact hb.2.1
      · exact h.pos x hx
    | none =>
      simp only [Option.isSome_none, Bool.false_eq_true, if_false]
      refine ⟨h.ok.ins hg hb.1 ht, fun x hx => ?_⟩
      rcases mem_ins.1 hx with rfl | hx
      · exact hb.2.1
      · exact h.pos x hx
  · exact h
theorem OkH.del {R : BM} (h : OkH R) (k : Int) : OkH (delB R k) := ⟨h.ok.del k, fun x hx => h.pos x ((del_subB R k).subset hx)⟩
theorem put_len (R : BM) (k e : Int) : (putB R k e).length ≤ R.length + 1 := by
  unfold putB; split
  · rw [set_len]; omega
  · rw [ins_len]; omega
theorem open_len (R : BM) (k e : Int) : (openR R k e).length ≤ R.length + 1 := by
  unfold openR; split
  · exact put_len R k e
  · omega
theorem RepB.putR {R : BM} {L : ML Int} {ck : Nat} (h : RepB R L ck) (k e : Int) : RepB (putB R k e) (putM L ck k (.int .i64 e)) (clkM L ck k) := by
  unfold putB
  cases hg : gB R k with
  | some u => exact h.set e hg
  | none => exact h.ins e hg
theorem del_noneB {R : BM} {k : Int} (hn : gB R k = none) : delB R k = R := by
  have h := gB_none.1 hn
  clear hn
  induction R with
  | nil => rfl
  | cons y R ih => simp at h; simp [delB, h.1]; exact ih (by simpa using h.2)
theorem ins_del {R : BM} (ho : OkB R) (k e : Int) : insB (delB R k) k e = putB R k e := by
  have hs := ho.srt
  clear ho
  unfold putB
  induction R with
  | nil => rfl
  | cons x R ih =>
    rw [List.pairwise_cons] at hs
    simp only [delB, gB]
    by_cases e1 : k = x.1
    · subst e1
      simp only [if_true, Option.isSome_some, setB]
      cases R with
      | nil => rfl
      | cons y R =>
        have := hs.1 y (by simp)
        simp only [insB]
        rw [if_neg (by omega)]
    · simp only [if_neg e1, insB]
      have ih := ih hs.2
      by_cases e2 : x.1 < k
      · rw [if_pos e2]
        cases hg : (gB R k).isSome <;> simp only [hg, if_true, Bool.false_eq_true, if_false] at ih ⊢
        · rw [ih, if_pos e2]
        · simp only [setB, if_neg e1, ih]
      · rw [if_neg e2]
        have hn : gB R k = none := by
          rw [gB_none]
          intro h
          obtain ⟨y, hy, rfl⟩ := List.mem_map.1 h
          have := hs.1 y hy
          omega
        have hd : delB R k = R := del_noneB hn
        rw [hn, hd]
        simp only [Option.isSome_none, Bool.false_eq_true, if_false, if_neg e2]
theorem filter_del {R : BM} (ho : OkB R) (k : Int) : (R.filter fun x => !decide (x.1 = k)) = delB R k := by
  have hk := ho.keys
  clear ho
  induction R with
  | nil => rfl
  | cons x R ih =>
    simp only [List.map_cons, List.nodup_cons] at hk
    simp only [delB]
    by_cases e : k = x.1
    · subst e
      simp only [if_true, List.filter_cons, decide_true, Bool.not_true, Bool.false_eq_true, if_false]
      rw [List.filter_eq_self]
      intro y hy
      have : y.1 ≠ x.1 := fun e => hk.1 (e ▸ List.mem_map.2 ⟨y, hy, rfl⟩)
      simp [this]
    · have e' : ¬ x.1 = k := fun h => e h.symm
      simp only [if_neg e, List.filter_cons, e', decide_false, Bool.not_false, if_true, ih hk.2]
theorem del_lt {R : BM} {k : Int} : (delB R k).length < R.length ↔ (gB R k).isSome = true := by
  induction R with
  | nil => simp [delB, gB]
  | cons x R ih =>
    simp only [delB, gB]
    split
    · simp
    · rw [List.length_cons, List.length_cons, ← ih]; omega
theorem epB_pos {R : BM} (h : OkH R) {k : Int} : 0 < epB R k ↔ (gB R k).isSome = true := by
  unfold epB
  cases hg : gB R k with
  | none => simp
  | some t => have := h.pos _ (gB_mem hg); simp; omega
theorem gB_put {R : BM} {k e k' : Int} : gB (putB R k e) k' = if k' = k then some e else gB R k' := by
  unfold putB
  cases hg : gB R k with
  | some u => simp only [Option.isSome_some, if_true]; exact gB_set hg
  | none => simp only [Option.isSome_none, Bool.false_eq_true, if_false]; exact gB_ins hg
theorem epB_open {R : BM} {k e : Int} : epB (openR R k e) k = if openE R k e = 0 then e else epB R k := by
  unfold openR
  split
  · simp [epB, gB_put]
  · rfl
end Go.Proofs.Ytjglpmaedphbnaa
