/-
  Layer 22, plainly: what devices may be given.
-/
import Derived.Test.YtgcclpfpnfmjcaaDoorEv0
import Derived.Test.YtgcclpfpnfmjcaaDoorBeat0
namespace Go.Proofs.YtgcclpfpnfmjcaaDoor
open Go

theorem snocInd {α : Type} {P : List α → Prop} (nil : P []) (snoc : ∀ l x, P l → P (l ++ [x])) (l : List α) : P l := by
  have : ∀ r : List α, P r.reverse := fun r => by
    induction r with
    | nil => exact nil
    | cons x r ih => rw [List.reverse_cons]; exact snoc _ _ ih
  simpa using this l.reverse
structure Se where
  n : Int
  d : Int
  v : Ev
deriving DecidableEq
abbrev seB (x : Se) : List Value := [.int .i64 x.n, .int .i64 x.d, .int .i64 x.v.o, .int .i64 x.v.s, sv x.v.t, sv x.v.l, .int .i64 x.v.e]
theorem seB_len (x : Se) : (seB x).length = 6 + 1 := rfl

/-- a slice that is read: its elements are laid by 'en' -/
def Rd {α : Type} (k : Nat) (en : α → List Value) (v : Value) (R : List α) (c : List Blk) : Prop :=
  ∃ a cap, v = .slice a R.length cap ∧ R.length ≤ cap ∧ (R = [] ∨ ∃ b o L U fz, a = some ⟨b, o, none⟩ ∧ (b, Obj.cells ⟨L⟩ U fz) ∈ c ∧ ∀ i x, R[i]? = some x → (L.drop (o + i * k)).take k = en x)
theorem Rd.nil {α : Type} {k : Nat} {en : α → List Value} {c : List Blk} : Rd k en (.slice none 0 0) ([] : List α) c := ⟨none, 0, rfl, Nat.le_refl _, .inl rfl⟩
theorem IsSl.rd {α : Type} {en : α → List Value} {E : TypeId} {k : Nat} (hk : ∀ x, (en x).length = k + 1) {R : List α} {v : Value} {row : List Blk} (h : IsSl E (k + 1) v (R.flatMap en) row) : Rd (k + 1) en v R row := by
  obtain ⟨a, cap, rfl, hc, hr⟩ := IsSl.elems hk h
  refine ⟨a, cap, rfl, hc, ?_⟩
  rcases hr with ⟨h0, -⟩ | ⟨b, sp, rfl, rfl, -⟩
  · exact .inl h0
  · refine .inr ⟨b, 0, _, _, _, rfl, List.mem_cons_self, fun i x hx => ?_⟩
    rw [Nat.zero_add]
    exact flat_take (k := k + 1) hk sp R i x hx
theorem Rd.mono {α : Type} {k : Nat} {en : α → List Value} {v : Value} {R : List α} {c c' : List Blk} (h : Rd k en v R c) (hs : ∀ p ∈ c, p ∈ c') : Rd k en v R c' := by
  obtain ⟨a, cap, e, hc, h⟩ := h
  exact ⟨a, cap, e, hc, h.imp id fun ⟨b, o, L, U, fz, e1, e2, e3⟩ => ⟨b, o, L, U, fz, e1, hs _ e2, e3⟩⟩
theorem rd_get {α : Type} {k : Nat} {en : α → List Value} {L : List Value} {m : Nat} {x : α} (h : (L.drop m).take k = en x) {j : Nat} (hj : j < k) : L[m + j]? = (en x)[j]? := by
  rw [← h, List.getElem?_take_of_lt hj, List.getElem?_drop]
/-- a cut of it -/
theorem Rd.cut {α : Type} {k : Nat} {en : α → List Value} {b o n cap : Nat} {R : List α} {c : List Blk} (h : Rd k en (.slice (some ⟨b, o, none⟩) n cap) R c) (i j : Nat) (hij : i ≤ j) (hj : j ≤ R.length) :
    Rd k en (.slice (some ⟨b, if cap = i then o else o + i * k, none⟩) (j - i) (cap - i)) ((R.drop i).take (j - i)) c := by
  obtain ⟨a, cap', e, hc, h⟩ := h
  simp only [Value.slice.injEq, ] at e
  obtain ⟨rfl, rfl, rfl⟩ := e
  have hlen : ((R.drop i).take (j - i)).length = j - i := by simp; omega
  refine ⟨_, _, by rw [hlen], by rw [hlen]; omega, ?_⟩
  by_cases h0 : j = i
  · left; subst h0; simp
  right
  rcases h with h | ⟨b', o', L, U, fz, e1, e2, e3⟩
  · subst h; simp at hj; omega
  · simp only [Option.some.injEq, Addr.mk.injEq] at e1
    obtain ⟨rfl, rfl, -⟩ := e1
    rw [if_neg (by omega)]
    refine ⟨b, _, L, U, fz, rfl, e2, fun m x hx => ?_⟩
    have hm : m < j - i := by have := (List.getElem?_eq_some_iff.1 hx).1; omega
    rw [List.getElem?_take_of_lt hm, List.getElem?_drop] at hx
    have := e3 (i + m) x hx
    rw [Nat.add_mul, ← Nat.add_assoc] at this
    exact this

/-! the last number of each origin -/
def lastO (l : List Ev) (k : Int) : Option Int := l.foldl (fun a e => if e.o = k then some e.s else a) none
theorem lastO_nil (k : Int) : lastO [] k = none := rfl
theorem lastO_snoc (l : List Ev) (e : Ev) (k : Int) : lastO (l ++ [e]) k = if e.o = k then some e.s else lastO l k := by simp [lastO]
theorem lastO_mem {l : List Ev} {k s : Int} (h : lastO l k = some s) : ∃ e ∈ l, e.o = k ∧ e.s = s := by
  induction l using snocInd with
  | nil => cases h
  | snoc l e ih =>
    rw [lastO_snoc] at h
    split at h
    · rename_i he; cases h; exact ⟨e, by simp, he, rfl⟩
    · obtain ⟨x, hx, h1⟩ := ih h; exact ⟨x, by simp [hx], h1⟩
theorem lastO_none {l : List Ev} {k : Int} : lastO l k = none ↔ ∀ e ∈ l, e.o ≠ k := by
  induction l using snocInd with
  | nil => simp [lastO]
  | snoc l e ih =>
    rw [lastO_snoc]
    split
    · rename_i he; simp only [reduceCtorEq, false_iff]; intro h; exact h e (by simp) he
    · rename_i he; rw [ih]; simp only [List.mem_append, List.mem_singleton]
      constructor
      · rintro h x (hx | rfl)
        · exact h x hx
        · exact he
      · exact fun h x hx => h x (.inl hx)

/-- a map of integers holds a function -/
structure RepF (f : Int → Option Int) (L : ML Int) (ck : Nat) : Prop where
  wf : WfM L ck
  get : ∀ k, getM L k = (f k).map (Value.int .i64)
theorem RepF.nil {ck : Nat} : RepF (fun _ => none) [] ck := ⟨.nil, fun _ => rfl⟩
theorem RepF.put {f : Int → Option Int} {L : ML Int} {ck : Nat} (h : RepF f L ck) (k v : Int) : RepF (fun k' => if k' = k then some v else f k') (putM L ck k (.int .i64 v)) (clkM L ck k) :=
  ⟨h.wf.put _ _, fun k' => by rw [get_put, h.get]; split <;> rfl⟩
theorem RepF.congr {f g : Int → Option Int} {L : ML Int} {ck : Nat} (h : RepF f L ck) (e : ∀ k, f k = g k) : RepF g L ck := ⟨h.wf, fun k => by rw [h.get, e]⟩
theorem RepF.getD {f : Int → Option Int} {L : ML Int} {ck : Nat} (h : RepF f L ck) (k : Int) : (getM L k).getD (.int .i64 0) = .int .i64 ((f k).getD 0) := by rw [h.get]; cases f k <;> rfl
theorem RepF.snoc {l : List Ev} {L : ML Int} {ck : Nat} (h : RepF (lastO l) L ck) (e : Ev) : RepF (lastO (l ++ [e])) (putM L ck e.o (.int .i64 e.s)) (clkM L ck e.o) :=
  (h.put e.o e.s).congr fun k => by rw [lastO_snoc]; by_cases hk : k = e.o
                                    · subst hk; simp
                                    · rw [if_neg hk, if_neg (fun e => hk e.symm)]

/-! could they be taken? -/
def okAt (pre : List Ev) (e : Ev) : Bool := rightE e && (!decide (e.e = 0) && decide (e.s = (lastO pre e.o).getD 0 + 1))
def ordF : List Ev → List Ev → Bool
  | _, [] => true
  | pre, e :: l => okAt pre e && ordF (pre ++ [e]) l
def ordB (l : List Ev) : Bool := ordF [] l
/-- numbers so far: no more than fits -/
def BdO (l : List Ev) : Prop := ∀ k s, lastO l k = some s → 1 ≤ s ∧ s ≤ 1099511627776
theorem BdO.snoc {l : List Ev} (h : BdO l) {e : Ev} (he : rightE e = true) : BdO (l ++ [e]) := fun k s hs => by
  rw [lastO_snoc] at hs
  split at hs
  · cases hs; exact (rightE_bd he).2.1
  · exact h k s hs
theorem BdO.getD {l : List Ev} (h : BdO l) (k : Int) : 0 ≤ (lastO l k).getD 0 ∧ (lastO l k).getD 0 ≤ 1099511627776 := by
  cases hk : lastO l k with
  | none => simp
  | some s => have := h k s hk; simp; omega

/-! marks -/
structure MarksOf (f : Int → Option Int) (R : BM) : Prop where
  srt : R.Pairwise (fun a b => a.1 < b.1)
  get : ∀ k, gB R k = f k
theorem gB_iff {R : BM} (hs : R.Pairwise (fun a b => a.1 < b.1)) {k t : Int} : gB R k = some t ↔ (k, t) ∈ R := by
  refine ⟨gB_mem, fun h => ?_⟩
  induction R with
  | nil => cases h
  | cons y R ih =>
    rw [List.pairwise_cons] at hs
    simp only [gB]
    rcases List.mem_cons.1 h with e | h
    · subst e; simp
    · have := hs.1 _ h
      simp only at this
      rw [if_neg (by omega)]
      exact ih hs.2 h
theorem MarksOf.uniq {f : Int → Option Int} {R R' : BM} (h : MarksOf f R) (h' : MarksOf f R') : R = R' := by
  have key : ∀ x : Int × Int, x ∈ R ↔ x ∈ R' := fun x => by
    rw [← gB_iff h.srt (k := x.1) (t := x.2), ← gB_iff h'.srt (k := x.1) (t := x.2), h.get, h'.get]
  have n1 : R.Nodup := h.srt.imp fun hlt e => by subst e; omega
  have n2 : R'.Nodup := h'.srt.imp fun hlt e => by subst e; omega
  exact ((List.perm_ext_iff_of_nodup n1 n2).2 key).eq_of_pairwise (fun x y _ _ h1 h2 => by omega) h.srt h'.srt
theorem MarksOf.congr {f g : Int → Option Int} {R : BM} (h : MarksOf f R) (e : ∀ k, f k = g k) : MarksOf g R := ⟨h.srt, fun k => by rw [h.get, e]⟩
theorem MarksOf.nil : MarksOf (fun _ => none) [] := ⟨.nil, fun _ => rfl⟩

abbrev mkB (x : Int × Int) : List Value := [.int .i64 x.1, .int .i64 x.2]
theorem mkB_len (x : Int × Int) : (mkB x).length = 1 + 1 := rfl

/-- R11.Mark, step by step -/
def stepM (m : Int × Int) (st : BM × Bool) (x : Int × Int) : BM × Bool :=
  let st1 := if !st.2 && decide (m.1 ≤ x.1) then (st.1 ++ [m], true) else st
  if x.1 = m.1 then st1 else (st1.1 ++ [x], st1.2)
def finM (m : Int × Int) (st : BM × Bool) : BM := if st.2 then st.1 else st.1 ++ [m]
def markB (R : BM) (m : Int × Int) : BM := finM m (R.foldl (stepM m) ([], false))
theorem foldM_eq (m : Int × Int) : ∀ (R : BM), R.Pairwise (fun a b => a.1 < b.1) →
    R.foldl (stepM m) ([], false) = (R.filter (fun x => decide (x.1 < m.1)) ++ (if R.any (fun x => decide (m.1 ≤ x.1)) then m :: R.filter (fun x => decide (m.1 < x.1)) else []), R.any (fun x => decide (m.1 ≤ x.1))) := by
  intro R
  induction R using snocInd with
  | nil => intro _; rfl
  | snoc R x ih =>
    intro hs
    obtain ⟨hs1, -, hs2⟩ := List.pairwise_append.1 hs
    have hs2 : ∀ a ∈ R, a.1 < x.1 := fun a ha => hs2 a ha x (by simp)
    rw [List.foldl_append, ih hs1]
    simp only [List.foldl_cons, List.foldl_nil, List.filter_append, List.any_append, List.any_cons, List.any_nil, Bool.or_false]
    cases hany : R.any (fun x => decide (m.1 ≤ x.1)) with
    | true =>
      obtain ⟨y, hy, hy2⟩ := List.any_eq_true.1 hany
      have h1 : m.1 ≤ y.1 := of_decide_eq_true hy2
      have h2 := hs2 y hy
      have e1 : ¬ x.1 = m.1 := by omega
      have e2 : ¬ x.1 < m.1 := by omega
      have e3 : m.1 < x.1 := by omega
      simp [stepM, e1, e2, e3]
    | false =>
      have hall : ∀ a ∈ R, ¬ m.1 ≤ a.1 := fun a ha hle => by
        have := List.any_eq_false.1 hany a ha
        simp at this; omega
      have ef : R.filter (fun x => decide (m.1 < x.1)) = [] := by
        rw [List.filter_eq_nil_iff]; intro a ha; have := hall a ha; simp; omega
      by_cases hx : m.1 ≤ x.1
      · by_cases hx2 : x.1 = m.1
        · have e2 : ¬ x.1 < m.1 := by omega
          have e3 : ¬ m.1 < x.1 := by omega
          simp [stepM, hx, hx2, ef]
        · have e2 : ¬ x.1 < m.1 := by omega
          have e3 : m.1 < x.1 := by omega
          simp [stepM, hx, hx2, e2, e3, ef]
      · have e1 : ¬ x.1 = m.1 := by omega
        have e2 : x.1 < m.1 := by omega
        simp [stepM, hx, e1, e2]
theorem markB_eq (m : Int × Int) {R : BM} (hs : R.Pairwise (fun a b => a.1 < b.1)) : markB R m = R.filter (fun x => decide (x.1 < m.1)) ++ m :: R.filter (fun x => decide (m.1 < x.1)) := by
  unfold markB finM
  rw [foldM_eq m R hs]
  cases hany : R.any (fun x => decide (m.1 ≤ x.1)) with
  | true => simp
  | false =>
    have ef : R.filter (fun x => decide (m.1 < x.1)) = [] := by
      rw [List.filter_eq_nil_iff]; intro a ha
      have := List.any_eq_false.1 hany a ha
      simp at this ⊢; omega
    simp [ef]
theorem MarksOf.mark {f : Int → Option Int} {R : BM} (h : MarksOf f R) (k t : Int) : MarksOf (fun k' => if k' = k then some t else f k') (markB R (k, t)) := by
  rw [markB_eq (k, t) h.srt]
  have hs : (R.filter (fun x => decide (x.1 < k)) ++ (k, t) :: R.filter (fun x => decide (k < x.1))).Pairwise (fun a b => a.1 < b.1) := by
    refine List.pairwise_append.2 ⟨h.srt.sublist List.filter_sublist, List.pairwise_cons.2 ⟨fun a ha => ?_, h.srt.sublist List.filter_sublist⟩, fun a ha b hb => ?_⟩
    · have := (List.mem_filter.1 ha).2; simpa using this
    · have h1 : a.1 < k := by simpa using (List.mem_filter.1 ha).2
      rcases List.mem_cons.1 hb with rfl | hb
      · exact h1
      · have h2 : k < b.1 := by simpa using (List.mem_filter.1 hb).2
        omega
  refine ⟨hs, fun k' => Option.ext fun s => ?_⟩
  rw [gB_iff hs]
  simp only [List.mem_append, List.mem_cons, List.mem_filter, decide_eq_true_eq, Prod.mk.injEq]
  by_cases e : k' = k
  · subst e; simp [eq_comm]
  · rw [if_neg e, ← h.get, gB_iff h.srt]
    constructor
    · rintro (⟨h1, -⟩ | ⟨h1, -⟩ | ⟨h1, -⟩)
      · exact h1
      · exact absurd h1 e
      · exact h1
    · intro h1
      rcases Int.lt_trichotomy k' k with h2 | h2 | h2
      · exact .inl ⟨h1, h2⟩
      · exact absurd h2 e
      · exact .inr (.inr ⟨h1, h2⟩)

/-! what is wrong first -/
abbrev Key3 := Int × Int × Int
def keyS (x : Se) : Key3 := (x.n, x.d, x.v.o)
def upM (a : Option Int) (s : Int) : Int := match a with | none => s | some m => max m s
def geM (a : Option Int) (s : Int) : Bool := match a with | none => false | some m => decide (s ≤ m)
def mostO (l : List Se) (k : Key3) : Option Int := l.foldl (fun a y => if keyS y = k then some (upM a y.v.s) else a) none
theorem mostO_snoc (l : List Se) (y : Se) (k : Key3) : mostO (l ++ [y]) k = if keyS y = k then some (upM (mostO l k) y.v.s) else mostO l k := by simp [mostO]
theorem mostO_any (l : List Se) (k : Key3) (s : Int) : geM (mostO l k) s = l.any (fun y => decide (keyS y = k) && decide (s ≤ y.v.s)) := by
  induction l using snocInd with
  | nil => rfl
  | snoc l y ih =>
    rw [mostO_snoc, List.any_append, ← ih]
    by_cases hk : keyS y = k
    · rw [if_pos hk]
      cases hm : mostO l k with
      | none =>
        show decide (s ≤ y.v.s) = _
        simp [hk, geM]
      | some m =>
        show decide (s ≤ max m y.v.s) = _
        rw [Bool.eq_iff_iff]; simp [hk, geM]; omega
    · rw [if_neg hk]; simp [hk]
theorem mostO_none {l : List Se} {k : Key3} : mostO l k = none ↔ ∀ y ∈ l, keyS y ≠ k := by
  induction l using snocInd with
  | nil => simp [mostO]
  | snoc l e ih =>
    rw [mostO_snoc]
    split
    · rename_i he; simp only [reduceCtorEq, false_iff]; intro h; exact h e (by simp) he
    · rename_i he; rw [ih]; simp only [List.mem_append, List.mem_singleton]
      constructor
      · rintro h x (hx | rfl)
        · exact h x hx
        · exact he
      · exact fun h x hx => h x (.inl hx)

def fromB (t : List Ev) (v : Ev) : Bool := t.any fun e => sameE e v && decide (v.e ≤ e.e)
def wrongAt (t : List Ev) (pre : List Se) (x : Se) : Bool :=
  decide (x.v.e < 1) || (pre.any (fun y => decide (keyS y = keyS x) && decide (x.v.s ≤ y.v.s)) || !fromB t x.v)
/-- the first place at which p holds of what stands before it and what stands there -/
def idxF {α : Type} (p : List α → α → Bool) : List α → List α → Int
  | _, [] => -1
  | pre, x :: l => if p pre x then (pre.length : Int) else idxF p (pre ++ [x]) l
def wrongI (t : List Ev) (l : List Se) : Int := idxF (wrongAt t) [] l

/-! what is missing -/
def hadB (l : List Se) (n d o s : Int) : Bool := l.any fun x => decide (x.n = n) && (decide (x.d = d) && (decide (x.v.o = o) && decide (x.v.s = s)))
def missB (t : List Ev) (l : List Se) (n d : Int) (f : Str) : List Ev := t.filter fun e => matchS f e.t && !hadB l n d e.o e.s
end Go.Proofs.YtgcclpfpnfmjcaaDoor
