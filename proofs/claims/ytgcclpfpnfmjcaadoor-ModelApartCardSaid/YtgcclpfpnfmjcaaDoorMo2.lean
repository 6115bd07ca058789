/-
  Layer 22, plainly: events that could be taken.
-/
import Derived.Test.YtgcclpfpnfmjcaaDoorMo1
namespace Go.Proofs.YtgcclpfpnfmjcaaDoor
open Go

/-- events in order, one by one -/
inductive Ord : List Ev → Prop
  | nil : Ord []
  | snoc {l e} : Ord l → okAt l e = true → Ord (l ++ [e])
theorem ordF_ord : ∀ (l pre : List Ev), Ord pre → ordF pre l = true → Ord (pre ++ l)
  | [], pre, h, _ => by simpa using h
  | e :: l, pre, h, ho => by
    simp only [ordF, Bool.and_eq_true] at ho
    have := ordF_ord l (pre ++ [e]) (h.snoc ho.1) ho.2
    simpa using this
theorem ord_of {l : List Ev} (h : ordB l = true) : Ord l := by simpa using ordF_ord l [] .nil h
theorem ordF_app : ∀ (l m pre : List Ev), ordF pre (l ++ m) = (ordF pre l && ordF (pre ++ l) m)
  | [], m, pre => by simp [ordF]
  | e :: l, m, pre => by simp [ordF, ordF_app l m (pre ++ [e]), Bool.and_assoc]
theorem ord_iff {l : List Ev} : ordB l = true ↔ Ord l := by
  refine ⟨ord_of, fun h => ?_⟩
  induction h with
  | nil => rfl
  | @snoc l e _ he ih =>
    unfold ordB at ih ⊢
    rw [ordF_app, ih]
    simp [ordF, he]
theorem Ord.pre {l m : List Ev} (h : Ord (l ++ m)) : Ord l := by
  rw [← ord_iff] at h ⊢
  unfold ordB at h ⊢
  rw [ordF_app, Bool.and_eq_true] at h
  exact h.1
theorem Ord.take {l : List Ev} (h : Ord l) (n : Nat) : Ord (l.take n) := by
  have := List.take_append_drop n l
  exact Ord.pre (m := l.drop n) (by rw [this]; exact h)
theorem okAt_iff {pre : List Ev} {e : Ev} : okAt pre e = true ↔ rightE e = true ∧ e.e ≠ 0 ∧ e.s = (lastO pre e.o).getD 0 + 1 := by simp [okAt]
theorem Ord.at {l : List Ev} (h : Ord l) {i : Nat} {e : Ev} (hx : l[i]? = some e) : okAt (l.take i) e = true := by
  have h1 := h.take (i + 1)
  rw [List.take_add_one, hx] at h1
  rw [← ord_iff] at h1
  unfold ordB at h1
  simp only [Option.toList] at h1
  rw [ordF_app, Bool.and_eq_true] at h1
  simpa [ordF] using h1.2
theorem Ord.right {l : List Ev} (h : Ord l) : ∀ e ∈ l, rightE e = true := fun e he => by
  obtain ⟨i, hi, hx⟩ := List.getElem_of_mem he
  exact (okAt_iff.1 (h.at (i := i) (by rw [List.getElem?_eq_getElem hi, hx]))).1
/-- the numbers of an origin are 1, 2, .. up to the last one, each once -/
theorem Ord.nums {l : List Ev} (h : Ord l) (o s : Int) : (∃ e ∈ l, e.o = o ∧ e.s = s) ↔ 1 ≤ s ∧ s ≤ (lastO l o).getD 0 := by
  induction h with
  | nil => simp [lastO]; omega
  | @snoc l e hl he ih =>
    obtain ⟨h1, -, h3⟩ := okAt_iff.1 he
    rw [lastO_snoc]
    have hle : 0 ≤ (lastO l o).getD 0 := by
      cases hk : lastO l o with
      | none => simp
      | some t =>
        obtain ⟨x, hx, -, rfl⟩ := lastO_mem hk
        have := (rightE_bd (hl.right x hx)).2.1
        simp; omega
    constructor
    · rintro ⟨x, hx, rfl, rfl⟩
      rcases List.mem_append.1 hx with hx | hx
      · have h4 := ih.1 ⟨x, hx, rfl, rfl⟩
        by_cases hk : e.o = x.o
        · rw [if_pos hk]
          rw [hk] at h3
          simp; omega
        · rw [if_neg hk]; exact h4
      · simp at hx; subst hx
        have := (rightE_bd h1).2.1
        rw [if_pos rfl]; simp; omega
    · intro h4
      by_cases hk : e.o = o
      · rw [if_pos hk] at h4
        rw [hk] at h3
        by_cases e5 : s = e.s
        · exact ⟨e, by simp, hk, e5.symm⟩
        · obtain ⟨x, hx, h6⟩ := ih.2 (by simp at h4; omega)
          exact ⟨x, by simp [hx], h6⟩
      · rw [if_neg hk] at h4
        obtain ⟨x, hx, h6⟩ := ih.2 h4
        exact ⟨x, by simp [hx], h6⟩
theorem Ord.new {l : List Ev} {i : Nat} {e : Ev} (h : Ord l) (hx : l[i]? = some e) : ∀ y ∈ l.take i, ¬ (y.o = e.o ∧ e.s ≤ y.s) := by
  intro y hy ⟨h1, h2⟩
  have h3 := (okAt_iff.1 (h.at hx)).2.2
  have h4 := ((h.take i).nums y.o y.s).1 ⟨y, hy, rfl, rfl⟩
  rw [h1] at h4
  omega

/-! who was given all -/
def allS (n d : Int) (l : List Ev) : List Se := l.map fun e => ⟨n, d, e⟩
theorem sameE_self (e : Ev) : sameE e e = true := by simp [sameE]
theorem had_all (l : List Ev) (n d o s : Int) : hadB (allS n d l) n d o s = l.any fun e => decide (e.o = o) && decide (e.s = s) := by
  simp [hadB, allS, List.any_map, Function.comp_def]
theorem fromB_mem {t : List Ev} {e : Ev} (h : e ∈ t) : fromB t e = true := List.any_eq_true.2 ⟨e, h, by simp [sameE_self]⟩
theorem wrong_all {t : List Ev} {n d : Int} (h : Ord t) {i : Nat} {e : Ev} (hx : t[i]? = some e) {t' : List Ev} (hm : e ∈ t') : wrongAt t' ((allS n d t).take i) ⟨n, d, e⟩ = false := by
  obtain ⟨h1, h2, h3⟩ := okAt_iff.1 (h.at hx)
  have h4 := (rightE_bd h1).2.2
  have h5 : ((allS n d t).take i).any (fun y => decide (keyS y = keyS ⟨n, d, e⟩) && decide (e.s ≤ y.v.s)) = false := by
    rw [List.any_eq_false]
    intro y hy
    rw [allS, ← List.map_take] at hy
    obtain ⟨z, hz, rfl⟩ := List.mem_map.1 hy
    have := h.new hx z hz
    simp only [keyS, Prod.mk.injEq, true_and, Bool.and_eq_true, decide_eq_true_eq]
    exact this
  simp only [wrongAt, h5, fromB_mem hm]
  simp; omega
theorem idxF_none {α : Type} (p : List α → α → Bool) : ∀ (l pre : List α), (∀ i x, l[i]? = some x → p (pre ++ l.take i) x = false) → idxF p pre l = -1
  | [], _, _ => rfl
  | x :: l, pre, h => by
    have h0 := h 0 x rfl
    simp only [List.take_zero, List.append_nil] at h0
    simp only [idxF, h0, Bool.false_eq_true, if_false]
    exact idxF_none p l (pre ++ [x]) fun i y hy => by
      have := h (i + 1) y (by simpa using hy)
      simpa using this
theorem idxF_some {α : Type} (p : List α → α → Bool) : ∀ (l pre : List α) (n : Nat) (x : α), l[n]? = some x → (∀ i y, i < n → l[i]? = some y → p (pre ++ l.take i) y = false) → p (pre ++ l.take n) x = true → idxF p pre l = pre.length + n
  | [], _, n, x, hx, _, _ => by simp at hx
  | y :: l, pre, 0, x, hx, _, hp => by
    simp at hx; subst hx
    simp only [List.take_zero, List.append_nil] at hp
    simp [idxF, hp]
  | y :: l, pre, n + 1, x, hx, h, hp => by
    have h0 := h 0 y (by omega) rfl
    simp only [List.take_zero, List.append_nil] at h0
    simp only [idxF, h0, Bool.false_eq_true, if_false]
    rw [idxF_some p l (pre ++ [y]) n x (by simpa using hx) (fun i z hi hz => by
      have := h (i + 1) z (by omega) (by simpa using hz)
      simpa using this) (by simpa using hp)]
    simp; omega
theorem wrongI_all {t : List Ev} (n d : Int) (h : Ord t) : wrongI t (allS n d t) = -1 :=
  idxF_none _ _ _ fun i x hx => by
    rw [allS, List.getElem?_map] at hx
    obtain ⟨e, he, rfl⟩ := Option.map_eq_some_iff.1 hx
    rw [List.nil_append]
    exact wrong_all h he (List.mem_of_getElem? he)
theorem missB_all {t : List Ev} (n d : Int) (f : Str) : missB t (allS n d t) n d f = [] := by
  unfold missB
  rw [List.filter_eq_nil_iff]
  intro e he
  have : hadB (allS n d t) n d e.o e.s = true := by rw [had_all]; exact List.any_eq_true.2 ⟨e, he, by simp⟩
  simp [this]
theorem holes_all {t : List Ev} (n d : Int) (h : Ord t) {R : BM} (hm : MarksOf (holeF (allS n d t) (allS n d t) n d) R) : R = [] := by
  refine hm.uniq ⟨by simp, fun k => ?_⟩
  unfold holeF
  rw [if_neg]
  · rfl
  · intro ha
    obtain ⟨x, hx, h2⟩ := List.any_eq_true.1 ha
    obtain ⟨e, he, rfl⟩ := List.mem_map.1 hx
    simp only [Bool.and_eq_true, decide_eq_true_eq] at h2
    obtain ⟨-, rfl, h4⟩ := h2
    have hf := firstN_is (allS n d t) n d e.o
    have h5 := hf.no
    have hpos := hf.pos
    rw [had_all, List.any_eq_false] at h5
    obtain ⟨y, hy, h6, h7⟩ := (h.nums e.o (firstN (allS n d t) n d e.o)).2 ⟨by omega, by
      have := (h.nums e.o e.s).1 ⟨e, he, rfl, rfl⟩; omega⟩
    exact h5 y hy (by simp [h6, h7])
theorem filt_rest : filtS [35] = true := by decide +kernel
theorem match_rest {s : Str} (h : rightS s = true) : matchS [35] s = true := by
  have e : levels [35] = [[35]] := by decide +kernel
  rw [matchS, filt_rest, h, e]
  cases levels s <;> rfl
theorem rightE_top {e : Ev} (h : rightE e = true) : rightS e.t = true := by
  simp only [rightE, Bool.and_eq_true] at h
  exact h.1.2
theorem missB_last {t : List Ev} (n d : Int) (h : Ord t) {m : Nat} {e : Ev} (hx : t[m]? = some e) (hlen : t.length = m + 1) : missB t ((allS n d t).take m) n d [35] = t.drop m := by
  have ed : t.drop m = [e] := by
    obtain ⟨hlt, he⟩ := List.getElem?_eq_some_iff.1 hx
    rw [List.drop_eq_getElem_cons hlt, he, List.drop_eq_nil_of_le (by omega)]
  have et : t = t.take m ++ [e] := by
    have := List.take_append_drop m t
    rw [ed] at this
    exact this.symm
  have es : (allS n d t).take m = allS n d (t.take m) := by simp [allS, List.map_take]
  rw [ed, es]
  have hnew := h.new hx
  have hr := (okAt_iff.1 (h.at hx)).1
  unfold missB
  rw [et, List.filter_append]
  have e1 : (t.take m).filter (fun x => matchS [35] x.t && !hadB (allS n d ((t.take m ++ [e]).take m)) n d x.o x.s) = [] := by
    rw [List.filter_eq_nil_iff]
    intro x hx'
    have e2 : (t.take m ++ [e]).take m = t.take m := by rw [← et]
    rw [e2]
    have : hadB (allS n d (t.take m)) n d x.o x.s = true := by rw [had_all]; exact List.any_eq_true.2 ⟨x, hx', by simp⟩
    simp [this]
  have e2 : (t.take m ++ [e]).take m = t.take m := by rw [← et]
  rw [e2] at e1 ⊢
  rw [e1, List.nil_append]
  have e3 : hadB (allS n d (t.take m)) n d e.o e.s = false := by
    rw [had_all, List.any_eq_false]
    intro y hy hyy
    simp only [Bool.and_eq_true, decide_eq_true_eq] at hyy
    exact hnew y hy ⟨hyy.1, by omega⟩
  simp [e3, match_rest (rightE_top hr)]
theorem wrongI_last {t : List Ev} (n d : Int) (h : Ord t) {m : Nat} {e : Ev} (hx : t[m]? = some e) : wrongI (t.take m) (allS n d t) = m := by
  have := idxF_some (wrongAt (t.take m)) (allS n d t) [] m ⟨n, d, e⟩ (by rw [allS, List.getElem?_map, hx]; rfl) (fun i x hi hxi => by
    rw [allS, List.getElem?_map] at hxi
    obtain ⟨y, hy, rfl⟩ := Option.map_eq_some_iff.1 hxi
    rw [List.nil_append]
    exact wrong_all h hy (by rw [List.mem_take_iff_getElem]; obtain ⟨h1, h2⟩ := List.getElem?_eq_some_iff.1 hy; exact ⟨i, by omega, h2⟩)) (by
    have hnew := h.new hx
    have : fromB (t.take m) e = false := by
      unfold fromB
      rw [List.any_eq_false]
      intro y hy hyy
      simp only [sameE, Bool.and_eq_true, decide_eq_true_eq] at hyy
      exact hnew y hy ⟨hyy.1.1, by omega⟩
    simp [wrongAt, this])
  unfold wrongI
  rw [this]; simp

/-! marks of events that could be taken -/
def next1 (x : Int × Int) : Ev := ⟨x.1, x.2 + 1, [97], [], 1⟩
theorem right_a : rightS [97] = true := by decide +kernel
theorem lastO_le {l : List Ev} (h : Ord l) (o : Int) : (lastO l o).getD 0 ≤ l.length := by
  induction h with
  | nil => simp [lastO]
  | @snoc l e hl he ih =>
    rw [lastO_snoc]
    split
    · rename_i hk
      have := (okAt_iff.1 he).2.2
      rw [hk] at this
      simp; omega
    · simp; omega
theorem next_ok {l : List Ev} (h : Ord l) {x : Int × Int} (hx : lastO l x.1 = some x.2) (hl : l.length ≤ 1000) : Ord (l ++ [next1 x]) ∧ ¬ Ord (l ++ [next1 x] ++ [next1 x]) := by
  obtain ⟨e, he, h1, h2⟩ := lastO_mem hx
  have hb := rightE_bd (h.right e he)
  have hle := lastO_le h x.1
  rw [hx] at hle
  simp only [Option.getD_some] at hle
  constructor
  · refine h.snoc (okAt_iff.2 ⟨?_, by simp [next1], by simp [next1, hx]⟩)
    have g1 : inB x.1 0 1099511627776 = true := inB_iff.2 (by omega)
    have g2 : inB (x.2 + 1) 1 1099511627776 = true := inB_iff.2 (by omega)
    have g3 : inB 1 0 1000 = true := by decide
    simp [rightE, next1, right_a, g1, g2, g3]
  · intro h3
    have h4 := h3.at (i := (l ++ [next1 x]).length) (e := next1 x) (by simp)
    rw [List.take_left] at h4
    have := (okAt_iff.1 h4).2.2
    rw [lastO_snoc, if_pos rfl] at this
    simp [next1] at this
    omega
/-- how many there are of each origin, added up -/
def sumS : BM → Int
  | [] => 0
  | x :: R => x.2 + sumS R
theorem sumS_app (A B : BM) : sumS (A ++ B) = sumS A + sumS B := by
  induction A with
  | nil => simp [sumS]
  | cons x A ih => simp only [List.cons_append, sumS, ih]; omega
theorem sum_mark {f : Int → Option Int} {R : BM} (h : MarksOf f R) (k t : Int) : sumS (markB R (k, t)) = sumS R - (f k).getD 0 + t := by
  rw [markB_eq (k, t) h.srt, sumS_app, sumS]
  have hs := h.srt
  rw [← h.get]
  clear h
  induction R with
  | nil => simp [sumS, gB]
  | cons x R ih =>
    rw [List.pairwise_cons] at hs
    have ih := ih hs.2
    rcases Int.lt_trichotomy x.1 k with hl | hl | hl
    · have e1 : ¬ k < x.1 := by omega
      have e2 : ¬ k = x.1 := by omega
      simp only [List.filter_cons, hl, decide_true, if_true, e1, decide_false, Bool.false_eq_true, if_false, sumS, gB, e2] at ih ⊢
      omega
    · subst hl
      have e1 : ¬ x.1 < x.1 := by omega
      have e3 : R.filter (fun y => decide (y.1 < x.1)) = [] := by
        rw [List.filter_eq_nil_iff]; intro y hy; have := hs.1 y hy; simp; omega
      have e4 : R.filter (fun y => decide (x.1 < y.1)) = R := by
        rw [List.filter_eq_self]; intro y hy; have := hs.1 y hy; simp; omega
      simp only [List.filter_cons, e1, decide_false, Bool.false_eq_true, if_false, e3, e4, sumS, gB, if_true, Option.getD_some]
      omega
    · have e1 : ¬ x.1 < k := by omega
      have e2 : ¬ k = x.1 := by omega
      have e3 : R.filter (fun y => decide (y.1 < k)) = [] := by
        rw [List.filter_eq_nil_iff]; intro y hy; have := hs.1 y hy; simp; omega
      have e4 : R.filter (fun y => decide (k < y.1)) = R := by
        rw [List.filter_eq_self]; intro y hy; have := hs.1 y hy; simp; omega
      have e5 : gB R k = none := by
        rw [gB_none]; intro hm; obtain ⟨y, hy, rfl⟩ := List.mem_map.1 hm; have := hs.1 y hy; omega
      simp only [List.filter_cons, e1, hl, decide_false, decide_true, Bool.false_eq_true, if_false, if_true, e3, e4, sumS, gB, e2, e5, Option.getD_none]
      omega
theorem sum_ord {l : List Ev} (h : Ord l) : ∃ R, MarksOf (lastO l) R ∧ sumS R = l.length := by
  induction h with
  | nil => exact ⟨[], MarksOf.nil, rfl⟩
  | @snoc l e hl he ih =>
    obtain ⟨R, hm, hs⟩ := ih
    refine ⟨markB R (e.o, e.s), (hm.mark e.o e.s).congr fun k => ?_, ?_⟩
    · rw [lastO_snoc]
      by_cases hk : k = e.o
      · subst hk; simp
      · rw [if_neg hk, if_neg (fun e => hk e.symm)]
    · rw [sum_mark hm, hs, (okAt_iff.1 he).2.2]; simp; omega
/-- may marks be? -/
def sortedB (R : BM) : Bool := R.all (fun x => inB x.1 0 1099511627776 && inB x.2 1 1099511627776) && decide (R.Pairwise fun a b => a.1 < b.1) && decide (R.length ≤ 32)
end Go.Proofs.YtgcclpfpnfmjcaaDoor
