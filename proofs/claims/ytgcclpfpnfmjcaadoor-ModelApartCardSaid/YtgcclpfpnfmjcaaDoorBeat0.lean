/-
  Layer 15, plainly: who is watched since when, by rising ids.
-/
import Derived.Test.YtgcclpfpnfmjcaaDoorElem
namespace Go.Proofs.YtgcclpfpnfmjcaaDoor
open Go

abbrev BM := List (Int × Int)
def gB : BM → Int → Option Int
  | [], _ => none
  | x :: R, k => if k = x.1 then some x.2 else gB R k
def insB : BM → Int → Int → BM
  | [], k, t => [(k, t)]
  | x :: R, k, t => if x.1 < k then x :: insB R k t else (k, t) :: x :: R
def setB : BM → Int → Int → BM
  | [], _, _ => []
  | x :: R, k, t => if k = x.1 then (k, t) :: R else x :: setB R k t
def delB : BM → Int → BM
  | [], _ => []
  | x :: R, k => if k = x.1 then R else x :: delB R k
def isTime (now : Int) : Bool := decide (0 ≤ now ∧ now ≤ 1099511627776)
theorem isTime_iff {now : Int} : isTime now = true ↔ 0 ≤ now ∧ now ≤ 1099511627776 := by simp [isTime]
theorem isTime_not {now : Int} : isTime now = false ↔ now < 0 ∨ 1099511627776 < now := by simp [isTime]; omega

structure OkB (R : BM) : Prop where
  srt : R.Pairwise (fun a b => a.1 < b.1)
  tm : ∀ x ∈ R, 0 ≤ x.1 ∧ 0 ≤ x.2 ∧ x.2 ≤ 1099511627776

theorem gB_mem {R : BM} {k t : Int} (h : gB R k = some t) : (k, t) ∈ R := by
  induction R with
  | nil => cases h
  | cons x R ih =>
    simp only [gB] at h
    split at h
    · rename_i e; cases h; subst e; simp
    · exact List.mem_cons_of_mem _ (ih h)
theorem gB_none {R : BM} {k : Int} : gB R k = none ↔ k ∉ R.map (·.1) := by
  induction R with
  | nil => simp [gB]
  | cons x R ih => simp only [gB]; split <;> rename_i e <;> simp [e, ih]
theorem mem_ins {R : BM} {k t : Int} {x : Int × Int} : x ∈ insB R k t ↔ x = (k, t) ∨ x ∈ R := by
  induction R with
  | nil => simp [insB]
  | cons y R ih =>
    simp only [insB]
    split
    · simp only [List.mem_cons, ih]
      constructor
      · rintro (h | h | h) <;> simp [h]
      · rintro (h | h | h) <;> simp [h]
    · simp
theorem mem_set {R : BM} {k t : Int} {x : Int × Int} (h : x ∈ setB R k t) : x = (k, t) ∨ x ∈ R := by
  induction R with
  | nil => simp [setB] at h
  | cons y R ih =>
    simp only [setB] at h
    split at h
    · rcases List.mem_cons.1 h with h | h
      · exact .inl h
      · exact .inr (List.mem_cons_of_mem _ h)
    · rcases List.mem_cons.1 h with h | h
      · exact .inr (by simp [h])
      · rcases ih h with h | h
        · exact .inl h
        · exact .inr (List.mem_cons_of_mem _ h)
theorem set_fst (R : BM) (k t : Int) : (setB R k t).map (·.1) = R.map (·.1) := by
  induction R with
  | nil => rfl
  | cons x R ih => simp only [setB]; split <;> simp_all
theorem del_subB (R : BM) (k : Int) : (delB R k).Sublist R := by
  induction R with
  | nil => exact .slnil
  | cons x R ih =>
    simp only [delB]
    split
    · exact List.sublist_cons_self _ _
    · exact ih.cons_cons _
theorem ins_len (R : BM) (k t : Int) : (insB R k t).length = R.length + 1 := by
  induction R with
  | nil => rfl
  | cons x R ih => simp only [insB]; split <;> simp [ih]
theorem set_len (R : BM) (k t : Int) : (setB R k t).length = R.length := by
  have := congrArg List.length (set_fst R k t); simpa using this
theorem del_len (R : BM) (k : Int) : (delB R k).length ≤ R.length := (del_subB R k).length_le

theorem OkB.nil : OkB [] := ⟨.nil, by simp⟩
theorem OkB.ins {R : BM} (h : OkB R) {k t : Int} (hg : gB R k = none) (hk : 0 ≤ k) (ht : isTime t = true) : OkB (insB R k t) := by
  have ht' := isTime_iff.1 ht
  refine ⟨?_, fun x hx => ?_⟩
  · have hs := h.srt
    clear h
    induction R with
    | nil => simp [insB]
    | cons y R ih =>
      simp only [gB] at hg
      split at hg
      · cases hg
      rename_i e
      simp only [insB]
      rw [List.pairwise_cons] at hs
      split
      · rename_i hlt
        refine List.pairwise_cons.2 ⟨fun x hx => ?_, ih hg hs.2⟩
        rcases mem_ins.1 hx with rfl | hx
        · exact hlt
        · exact hs.1 x hx
      · rename_i hge
        refine List.pairwise_cons.2 ⟨fun x hx => ?_, List.pairwise_cons.2 hs⟩
        rcases List.mem_cons.1 hx with rfl | hx
        · simp; omega
        · have := hs.1 x hx; simp; omega
  · rcases mem_ins.1 hx with rfl | hx
    · exact ⟨hk, ht'⟩
    · exact h.tm x hx
theorem OkB.set {R : BM} (h : OkB R) {k t : Int} (hk : 0 ≤ k) (ht : isTime t = true) : OkB (setB R k t) := by
  have ht' := isTime_iff.1 ht
  refine ⟨?_, fun x hx => ?_⟩
  · have h1 : (R.map (·.1)).Pairwise (· < ·) := List.pairwise_map.2 h.srt
    rw [← set_fst R k t] at h1
    exact List.pairwise_map.1 h1
  · rcases mem_set hx with rfl | hx
    · exact ⟨hk, ht'⟩
    · exact h.tm x hx
theorem OkB.del {R : BM} (h : OkB R) (k : Int) : OkB (delB R k) := ⟨h.srt.sublist (del_subB R k), fun x hx => h.tm x ((del_subB R k).subset hx)⟩
theorem OkB.keys {R : BM} (h : OkB R) : (R.map (·.1)).Nodup := by
  have h1 : (R.map (·.1)).Pairwise (· < ·) := List.pairwise_map.2 h.srt
  exact h1.imp (fun h e => by omega)

theorem gB_ins {R : BM} {k t k' : Int} (h : gB R k = none) : gB (insB R k t) k' = if k' = k then some t else gB R k' := by
  induction R with
  | nil => simp [insB, gB]
  | cons x R ih =>
    simp only [gB] at h
    split at h
    · cases h
    rename_i e
    simp only [insB]
    split
    · simp only [gB, ih h]
      by_cases e1 : k' = x.1
      · have : ¬ k' = k := by omega
        simp [e1]; omega
      · simp [e1]
    · simp only [gB]
theorem gB_set {R : BM} {k t k' u : Int} (h : gB R k = some u) : gB (setB R k t) k' = if k' = k then some t else gB R k' := by
  induction R with
  | nil => cases h
  | cons x R ih =>
    simp only [gB] at h
    simp only [setB]
    split at h
    · rename_i e
      simp only [e, if_true, gB]
      by_cases e1 : k' = x.1 <;> simp [e1]
    · rename_i e
      simp only [if_neg e, gB, ih h]
      by_cases e1 : k' = x.1
      · simp [e1]; omega
      · simp [e1]
theorem gB_del {R : BM} (hn : OkB R) {k k' : Int} : gB (delB R k) k' = if k' = k then none else gB R k' := by
  have hk := hn.keys
  clear hn
  induction R with
  | nil => simp [delB, gB]
  | cons x R ih =>
    simp only [List.map_cons, List.nodup_cons] at hk
    simp only [delB]
    split
    · rename_i e
      by_cases e1 : k' = x.1
      · subst e; simp [e1]; exact gB_none.2 hk.1
      · simp [gB, e1, e]
    · rename_i e
      simp only [gB, ih hk.2]
      by_cases e1 : k' = x.1
      · simp [e1]; omega
      · simp [e1]
theorem gB_of_mem {R : BM} (hn : OkB R) {x : Int × Int} (h : x ∈ R) : gB R x.1 = some x.2 := by
  have hk := hn.keys
  clear hn
  induction R with
  | nil => cases h
  | cons y R ih =>
    simp only [List.map_cons, List.nodup_cons] at hk
    simp only [gB]
    rcases List.mem_cons.1 h with rfl | h
    · simp
    · have : x.1 ≠ y.1 := fun e => hk.1 (e ▸ List.mem_map.2 ⟨x, h, rfl⟩)
      rw [if_neg this]; exact ih h hk.2

/-- the map holds what the list says -/
structure RepB (R : BM) (L : ML Int) (ck : Nat) : Prop where
  wf : WfM L ck
  get : ∀ k, getM L k = (gB R k).map (Value.int .i64)
theorem RepB.nil {ck : Nat} : RepB [] [] ck := ⟨.nil, fun _ => rfl⟩
theorem RepB.ins {R : BM} {L : ML Int} {ck : Nat} (h : RepB R L ck) {k : Int} (t : Int) (hg : gB R k = none) : RepB (insB R k t) (putM L ck k (.int .i64 t)) (clkM L ck k) :=
  ⟨h.wf.put _ _, fun k' => by rw [get_put, gB_ins hg, h.get]; split <;> rfl⟩
theorem RepB.set {R : BM} {L : ML Int} {ck : Nat} (h : RepB R L ck) {k u : Int} (t : Int) (hg : gB R k = some u) : RepB (setB R k t) (putM L ck k (.int .i64 t)) (clkM L ck k) :=
  ⟨h.wf.put _ _, fun k' => by rw [get_put, gB_set hg, h.get]; split <;> rfl⟩
theorem RepB.del {R : BM} {L : ML Int} {ck : Nat} (h : RepB R L ck) (ho : OkB R) (k : Int) : RepB (delB R k) (delM L k) ck :=
  ⟨h.wf.del _, fun k' => by rw [get_del h.wf.keys, gB_del ho, h.get]; split <;> rfl⟩

/-! places -/
theorem gB_at {R : BM} {k : Int} {i : Nat} {x : Int × Int} (hb : ∀ j y, j < i → R[j]? = some y → y.1 ≠ k) (hx : R[i]? = some x) (e : x.1 = k) : gB R k = some x.2 := by
  induction R generalizing i with
  | nil => simp at hx
  | cons y R ih =>
    cases i with
    | zero => simp at hx; subst hx; simp [gB, e]
    | succ i =>
      have h0 := hb 0 y (by omega) rfl
      simp only [gB, if_neg (Ne.symm h0)]
      exact ih (i := i) (fun j z hj hz => hb (j + 1) z (by omega) (by simpa using hz)) (by simpa using hx)
theorem gB_no {R : BM} {k : Int} (hb : ∀ j y, j < R.length → R[j]? = some y → y.1 ≠ k) : gB R k = none := by
  rw [gB_none]
  intro h
  obtain ⟨x, hx, e⟩ := List.mem_map.1 h
  obtain ⟨j, hj, hj2⟩ := List.mem_iff_getElem.1 hx
  exact hb j x hj (by rw [← hj2]; simp [hj]) e
theorem set_at {R : BM} {k t : Int} {i : Nat} {x : Int × Int} (hb : ∀ j y, j < i → R[j]? = some y → y.1 ≠ k) (hx : R[i]? = some x) (e : x.1 = k) : setB R k t = R.set i (k, t) := by
  induction R generalizing i with
  | nil => simp at hx
  | cons y R ih =>
    cases i with
    | zero => simp at hx; subst hx; simp [setB, e]
    | succ i =>
      have h0 := hb 0 y (by omega) rfl
      simp only [setB, if_neg (Ne.symm h0), List.set_cons_succ]
      rw [ih (i := i) (fun j z hj hz => hb (j + 1) z (by omega) (by simpa using hz)) (by simpa using hx)]
theorem del_at {R : BM} {k : Int} {i : Nat} {x : Int × Int} (hb : ∀ j y, j < i → R[j]? = some y → y.1 ≠ k) (hx : R[i]? = some x) (e : x.1 = k) : delB R k = R.take i ++ R.drop (i + 1) := by
  induction R generalizing i with
  | nil => simp at hx
  | cons y R ih =>
    cases i with
    | zero => simp at hx; subst hx; simp [delB, e]
    | succ i =>
      have h0 := hb 0 y (by omega) rfl
      simp only [delB, if_neg (Ne.symm h0), List.take_succ_cons, List.drop_succ_cons, List.cons_append]
      rw [ih (i := i) (fun j z hj hz => hb (j + 1) z (by omega) (by simpa using hz)) (by simpa using hx)]
theorem ins_at {R : BM} {k t : Int} {i : Nat} (hb : ∀ j y, j < i → R[j]? = some y → y.1 < k) (hi : i ≤ R.length) (hx : ∀ x, R[i]? = some x → ¬ x.1 < k) : insB R k t = R.take i ++ (k, t) :: R.drop i := by
  induction R generalizing i with
  | nil => simp at hi; subst hi; simp [insB]
  | cons y R ih =>
    cases i with
    | zero => simp [insB, hx y rfl]
    | succ i =>
      have h0 := hb 0 y (by omega) rfl
      simp only [insB, if_pos h0, List.take_succ_cons, List.drop_succ_cons, List.cons_append]
      rw [ih (i := i) (fun j z hj hz => hb (j + 1) z (by omega) (by simpa using hz)) (by simpa using hi) (fun x hx' => hx x (by simpa using hx'))]

/-! the answers -/
def watchE (R : BM) (k now : Int) : Int := if isTime now && decide (0 ≤ k) then (if (gB R k).isSome then 9 else 0) else 1
def watchR (R : BM) (k now : Int) : BM := if watchE R k now = 0 then insB R k now else R
def heardE (R : BM) (k now : Int) : Int := if isTime now then (match gB R k with | none => 8 | some t => if now < t then 11 else 0) else 1
def heardR (R : BM) (k now : Int) : BM := if heardE R k now = 0 then setB R k now else R
def dueB (every last now : Int) : Bool := isTime now && (last == -1 || decide (every ≤ now - last))
def leftB (R : BM) (limit k now : Int) : Int × Bool := match gB R k with | none => (0, false) | some t => if isTime now then (max 0 (min (limit - (now - t)) limit), true) else (0, false)
def lateB (R : BM) (limit now : Int) : List Int := if isTime now then (R.filter fun x => decide (limit ≤ now - x.2)).map (·.1) else []
def idsB (R : BM) : List Int := R.map (·.1)

theorem OkB.watch {R : BM} (h : OkB R) (k now : Int) : OkB (watchR R k now) := by
  unfold watchR
  split
  · rename_i h0
    unfold watchE at h0
    split at h0
    · rename_i h1
      split at h0
      · cases h0
      · rename_i h2
        have h1 : isTime now = true ∧ 0 ≤ k := by simpa using h1
        exact h.ins (by simpa using h2) h1.2 h1.1
    · cases h0
  · exact h
theorem OkB.heard {R : BM} (h : OkB R) (k now : Int) : OkB (heardR R k now) := by
  unfold heardR
  split
  · rename_i h0
    unfold heardE at h0
    split at h0
    · rename_i h1
      split at h0
      · cases h0
      · rename_i t hg
        exact h.set (h.tm _ (gB_mem hg)).1 h1
    · cases h0
  · exact h
theorem watch_len (R : BM) (k now : Int) : (watchR R k now).length ≤ R.length + 1 := by unfold watchR; split <;> simp [ins_len]
theorem heard_len (R : BM) (k now : Int) : (heardR R k now).length ≤ R.length := by unfold heardR; split <;> simp [set_len]

/-- two rising lists of the same members are one -/
theorem rising_eq {a b : List Int} (ha : a.Pairwise (· < ·)) (hb : b.Pairwise (· ≤ ·)) (hp : b.Perm a) : b = a :=
  hp.eq_of_pairwise (fun x y _ _ h1 h2 => by omega) hb (ha.imp (fun h => by omega))
theorem sortI_pairwise (l : List Int) : (sortI l).Pairwise (· ≤ ·) := by
  have := List.pairwise_mergeSort (le := fun x y : Int => decide (x ≤ y)) (by intro a b c h1 h2; simp at *; omega) (by intro a b; simp; omega) l
  exact this.imp (fun h => by simpa using h)
theorem sortI_perm (l : List Int) : (sortI l).Perm l := List.mergeSort_perm _ _
/-- who is so, sorted -/
theorem such_eq {R : BM} {L : ML Int} {ck : Nat} (h : RepB R L ck) (ho : OkB R) (q : Int → Bool) {xs : List (Int × Value × Nat)} (hx : xs.Perm L) :
    sortI ((xs.filter fun x => match gB R x.1 with | some t => q t | none => false).map (·.1)) = (R.filter fun x => q x.2).map (·.1) := by
  have h1 : ((R.filter fun x => q x.2).map (·.1)).Pairwise (· < ·) := List.pairwise_map.2 (ho.srt.sublist List.filter_sublist)
  refine rising_eq h1 (sortI_pairwise _) ((sortI_perm _).trans ?_)
  have hk : (xs.map (·.1)).Nodup := (hx.map _).nodup_iff.2 h.wf.keys
  have n1 : ((xs.filter fun x => match gB R x.1 with | some t => q t | none => false).map (·.1)).Nodup := hk.sublist (List.filter_sublist.map _)
  have n2 : ((R.filter fun x => q x.2).map (·.1)).Nodup := ho.keys.sublist (List.filter_sublist.map _)
  refine (List.perm_ext_iff_of_nodup n1 n2).2 fun k => ?_
  simp only [List.mem_map, List.mem_filter]
  constructor
  · rintro ⟨x, ⟨hxm, hq⟩, rfl⟩
    cases hg : gB R x.1 with
    | none => simp [hg] at hq
    | some t => simp only [hg] at hq; exact ⟨(x.1, t), ⟨gB_mem hg, hq⟩, rfl⟩
  · rintro ⟨y, ⟨hy, hq⟩, rfl⟩
    have hg := gB_of_mem ho hy
    have hL : getM L y.1 = some (.int .i64 y.2) := by rw [h.get, hg]; rfl
    obtain ⟨b, hb⟩ := get_some_mem hL
    exact ⟨(y.1, .int .i64 y.2, b), ⟨hx.mem_iff.2 hb, by simp only [hg]; exact hq⟩, rfl⟩
end Go.Proofs.YtgcclpfpnfmjcaaDoor
