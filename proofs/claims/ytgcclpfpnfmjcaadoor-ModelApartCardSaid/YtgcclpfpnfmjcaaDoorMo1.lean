/-
  Layer 22, plainly: the numbers that a device was given; holes.
-/
import Derived.Test.YtgcclpfpnfmjcaaDoorMo0
namespace Go.Proofs.YtgcclpfpnfmjcaaDoor
open Go

/-- an origin's map: the origin, the map's block, what it holds -/
abbrev In4 := Int × Nat × ML Int × Nat
def inn (I : List In4) : List Blk := I.map fun q => (q.2.1, mapO (Value.int .i64) q.2.2.1 q.2.2.2)
theorem inn_app (A B : List In4) : inn (A ++ B) = inn A ++ inn B := by simp [inn]
structure NumOk (l : List Se) (n d : Int) (L : ML Int) (I : List In4) : Prop where
  keys : (I.map (·.1)).Nodup
  get : ∀ q ∈ I, getM L q.1 = some (.map (some q.2.1))
  non : ∀ o, o ∉ I.map (·.1) → getM L o = none
  wf : ∀ q ∈ I, WfM q.2.2.1 q.2.2.2
  has : ∀ q ∈ I, ∀ s, getM q.2.2.1 s = if hadB l n d q.1 s then some (.bool true) else none
  ex : ∀ q ∈ I, ∃ s, hadB l n d q.1 s = true
  all : ∀ o s, hadB l n d o s = true → o ∈ I.map (·.1)
def Num (l : List Se) (n d : Int) (mo : Nat) (c : List Blk) : Prop := ∃ L ck I, WfM L ck ∧ NumOk l n d L I ∧ c = (mo, mapO (Value.int .i64) L ck) :: inn I

def isBy (x : Se) (n d : Int) : Bool := decide (x.n = n) && decide (x.d = d)
theorem had_snoc (l : List Se) (x : Se) (n d o s : Int) : hadB (l ++ [x]) n d o s = (hadB l n d o s || (isBy x n d && (decide (x.v.o = o) && decide (x.v.s = s)))) := by
  simp [hadB, isBy, Bool.and_assoc]
theorem had_skip {l : List Se} {x : Se} {n d : Int} (h : isBy x n d = false) (o s : Int) : hadB (l ++ [x]) n d o s = hadB l n d o s := by rw [had_snoc, h]; simp
theorem NumOk.nil {n d : Int} : NumOk [] n d [] [] := ⟨by simp, by simp, fun o _ => rfl, by simp, by simp, by simp, by simp [hadB]⟩
theorem NumOk.skip {l : List Se} {n d : Int} {L : ML Int} {I : List In4} (h : NumOk l n d L I) {x : Se} (hx : isBy x n d = false) : NumOk (l ++ [x]) n d L I :=
  ⟨h.keys, h.get, h.non, h.wf, fun q hq s => by rw [h.has q hq, had_skip hx], fun q hq => by obtain ⟨s, hs⟩ := h.ex q hq; exact ⟨s, by rw [had_skip hx]; exact hs⟩, fun o s hs => h.all o s (by rw [had_skip hx] at hs; exact hs)⟩
theorem getB_put {L : ML Int} {ck : Nat} {s s' : Int} {b : Bool} (h : getM L s' = if b then some (.bool true) else none) : getM (putM L ck s (.bool true)) s' = if (b || decide (s = s')) then some (.bool true) else none := by
  rw [get_put, h]
  by_cases e : s' = s
  · subst e; simp
  · have : ¬ s = s' := fun h => e h.symm
    simp [e, this]
theorem NumOk.hit {l : List Se} {n d : Int} {L : ML Int} {A B : List In4} {q : In4} (h : NumOk l n d L (A ++ q :: B)) {x : Se} (hx : isBy x n d = true) (ho : q.1 = x.v.o) :
    NumOk (l ++ [x]) n d L (A ++ (q.1, q.2.1, putM q.2.2.1 q.2.2.2 x.v.s (.bool true), clkM q.2.2.1 q.2.2.2 x.v.s) :: B) := by
  have hk : (A ++ (q.1, q.2.1, putM q.2.2.1 q.2.2.2 x.v.s (.bool true), clkM q.2.2.1 q.2.2.2 x.v.s) :: B).map (·.1) = (A ++ q :: B).map (·.1) := by simp
  have hne : ∀ r ∈ A ++ B, r.1 ≠ x.v.o := fun r hr e => by
    have := h.keys
    rw [List.map_append, List.map_cons] at this
    have := List.perm_middle.nodup_iff.1 this
    rw [← List.map_append, List.nodup_cons] at this
    exact this.1 (List.mem_map.2 ⟨r, hr, by rw [e, ho]⟩)
  have hmem : ∀ r, r ∈ A ++ (q.1, q.2.1, putM q.2.2.1 q.2.2.2 x.v.s (.bool true), clkM q.2.2.1 q.2.2.2 x.v.s) :: B → r = (q.1, q.2.1, putM q.2.2.1 q.2.2.2 x.v.s (.bool true), clkM q.2.2.1 q.2.2.2 x.v.s) ∨ (r ∈ A ++ B ∧ r ∈ A ++ q :: B) := fun r hr => by
    simp only [List.mem_append, List.mem_cons] at hr ⊢
    rcases hr with h1 | h1 | h1 <;> simp [h1]
  have hq : q ∈ A ++ q :: B := by simp
  refine ⟨by rw [hk]; exact h.keys, fun r hr => ?_, fun o ho' => h.non o (by rw [← hk]; exact ho'), fun r hr => ?_, fun r hr s => ?_, fun r hr => ?_, fun o s hs => ?_⟩
  · rcases hmem r hr with rfl | ⟨-, h1⟩
    · exact h.get q hq
    · exact h.get r h1
  · rcases hmem r hr with rfl | ⟨-, h1⟩
    · exact (h.wf q hq).put _ _
    · exact h.wf r h1
  · rcases hmem r hr with rfl | ⟨h0, h1⟩
    · rw [had_snoc, hx, ho]
      simp only [decide_true, Bool.true_and]
      rw [← ho]
      exact getB_put (h.has q hq s)
    · rw [h.has r h1, had_snoc, decide_eq_false (fun e => hne r h0 e.symm)]; simp
  · rcases hmem r hr with rfl | ⟨h0, h1⟩
    · exact ⟨x.v.s, by rw [had_snoc, hx, ho]; simp⟩
    · obtain ⟨s, hs⟩ := h.ex r h1; exact ⟨s, by rw [had_snoc, hs]; rfl⟩
  · rw [hk]
    rw [had_snoc, Bool.or_eq_true] at hs
    rcases hs with hs | hs
    · exact h.all o s hs
    · simp only [Bool.and_eq_true, decide_eq_true_eq] at hs
      rw [← hs.2.1, ← ho]; exact List.mem_map.2 ⟨q, hq, rfl⟩
theorem NumOk.new {l : List Se} {n d : Int} {L : ML Int} {ck : Nat} {I : List In4} (h : NumOk l n d L I) {x : Se} (hx : isBy x n d = true) (ho : x.v.o ∉ I.map (·.1)) (b : Nat) :
    NumOk (l ++ [x]) n d (putM L ck x.v.o (.map (some b))) (I ++ [(x.v.o, b, putM [] 0 x.v.s (.bool true), clkM [] 0 x.v.s)]) := by
  have hno : ∀ s, hadB l n d x.v.o s = false := fun s => by
    cases hs : hadB l n d x.v.o s with
    | false => rfl
    | true => exact absurd (h.all _ _ hs) ho
  have hne : ∀ r ∈ I, r.1 ≠ x.v.o := fun r hr e => ho (by rw [← e]; exact List.mem_map.2 ⟨r, hr, rfl⟩)
  refine ⟨?_, fun r hr => ?_, fun o ho' => ?_, fun r hr => ?_, fun r hr s => ?_, fun r hr => ?_, fun o s hs => ?_⟩
  · rw [List.map_append]
    refine List.nodup_append.2 ⟨h.keys, by simp, fun a ha c hc e => ?_⟩
    simp at hc; subst e; subst hc; exact ho ha
  · rw [get_put]
    rcases List.mem_append.1 hr with hr | hr
    · rw [if_neg (hne r hr)]; exact h.get r hr
    · simp at hr; subst hr; simp
  · simp only [List.map_append, List.mem_append, List.map_cons, List.map_nil, List.mem_singleton, not_or] at ho'
    rw [get_put, if_neg ho'.2]; exact h.non o ho'.1
  · rcases List.mem_append.1 hr with hr | hr
    · exact h.wf r hr
    · simp at hr; subst hr; exact WfM.nil.put _ _
  · rcases List.mem_append.1 hr with hr | hr
    · rw [h.has r hr, had_snoc, decide_eq_false (fun e => hne r hr e.symm)]; simp
    · simp at hr; subst hr
      rw [had_snoc, hx, hno]
      exact getB_put (L := []) (b := false) rfl |>.trans (by simp)
  · rcases List.mem_append.1 hr with hr | hr
    · obtain ⟨s, hs⟩ := h.ex r hr; exact ⟨s, by rw [had_snoc, hs]; rfl⟩
    · simp at hr; subst hr; exact ⟨x.v.s, by rw [had_snoc, hx]; simp⟩
  · rw [List.map_append, List.mem_append]
    rw [had_snoc, Bool.or_eq_true] at hs
    rcases hs with hs | hs
    · exact .inl (h.all o s hs)
    · simp only [Bool.and_eq_true, decide_eq_true_eq] at hs
      right; simp [hs.2.1]

/-! the first number that is not had -/
structure IsFirst (h : Int → Bool) (m : Nat) : Prop where
  pos : 1 ≤ m
  no : h m = false
  below : ∀ j : Nat, 1 ≤ j → j < m → h j = true
theorem IsFirst.uniq {h : Int → Bool} {m m' : Nat} (a : IsFirst h m) (b : IsFirst h m') : m = m' := by
  rcases Nat.lt_trichotomy m m' with hl | hl | hl
  · have := b.below m a.pos hl; rw [a.no] at this; cases this
  · exact hl
  · have := a.below m' b.pos hl; rw [b.no] at this; cases this
theorem had_many {l : List Se} {n d o : Int} {m : Nat} (h : ∀ j : Nat, 1 ≤ j → j ≤ m → hadB l n d o j = true) : m ≤ l.length := by
  have h1 : ((List.range m).map fun j => ((j + 1 : Nat) : Int)).Nodup := by
    exact List.pairwise_map.2 (List.nodup_range.imp fun h e => h (by omega))
  have h2 : ∀ k ∈ (List.range m).map fun j => ((j + 1 : Nat) : Int), k ∈ l.map (·.v.s) := fun k hk => by
    obtain ⟨j, hj, rfl⟩ := List.mem_map.1 hk
    have := h (j + 1) (by omega) (by have := List.mem_range.1 hj; omega)
    obtain ⟨x, hx, hx2⟩ := List.any_eq_true.1 this
    simp only [Bool.and_eq_true, decide_eq_true_eq] at hx2
    exact List.mem_map.2 ⟨x, hx, hx2.2.2.2⟩
  have := h1.length_le_of_subset h2
  simpa using this
theorem first_ex (l : List Se) (n d o : Int) : ∃ m, IsFirst (hadB l n d o) m := by
  have key : ∀ k, (∀ j : Nat, 1 ≤ j → j < l.length + 2 - k → hadB l n d o j = true) → k ≤ l.length + 1 → ∃ m, IsFirst (hadB l n d o) m := by
    intro k
    induction k with
    | zero =>
      intro h _
      have := had_many (m := l.length + 1) fun j h1 h2 => h j h1 (by omega)
      omega
    | succ k ih =>
      intro h hk
      cases hh : hadB l n d o ((l.length + 2 - (k + 1) : Nat) : Int) with
      | false => exact ⟨l.length + 2 - (k + 1), by omega, hh, h⟩
      | true =>
        refine ih (fun j h1 h2 => ?_) (by omega)
        by_cases e : j = l.length + 2 - (k + 1)
        · rw [e]; exact hh
        · exact h j h1 (by omega)
  exact key (l.length + 1) (fun j h1 h2 => by omega) (Nat.le_refl _)
noncomputable def firstN (l : List Se) (n d o : Int) : Nat := Classical.choose (first_ex l n d o)
theorem firstN_is (l : List Se) (n d o : Int) : IsFirst (hadB l n d o) (firstN l n d o) := Classical.choose_spec (first_ex l n d o)
theorem firstN_eq {l : List Se} {n d o : Int} {m : Nat} (h : IsFirst (hadB l n d o) m) : firstN l n d o = m := (firstN_is l n d o).uniq h
/-- an origin with a hole: one of which a later number was given -/
noncomputable def holeF (l pre : List Se) (n d o : Int) : Option Int := if pre.any (fun x => isBy x n d && (decide (x.v.o = o) && decide ((firstN l n d o : Int) < x.v.s))) then some (firstN l n d o : Int) else none
theorem holeF_nil (l : List Se) (n d o : Int) : holeF l [] n d o = none := rfl
theorem holeF_snoc (l pre : List Se) (x : Se) (n d o : Int) : holeF l (pre ++ [x]) n d o = if isBy x n d && (decide (x.v.o = o) && decide ((firstN l n d o : Int) < x.v.s)) then some (firstN l n d o : Int) else holeF l pre n d o := by
  unfold holeF
  rw [List.any_append]
  cases h : pre.any (fun x => isBy x n d && (decide (x.v.o = o) && decide ((firstN l n d o : Int) < x.v.s))) <;> simp
end Go.Proofs.YtgcclpfpnfmjcaaDoor
