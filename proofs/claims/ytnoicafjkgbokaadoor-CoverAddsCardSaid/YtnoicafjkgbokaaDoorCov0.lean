/-
  The order of filters, and what covers what: the plain model.
-/
import Derived.Test.YtnoicafjkgbokaaDoorTop0
namespace Go.Proofs.YtnoicafjkgbokaaDoor
open Go

/-! the order of texts -/
theorem ltS_irr : ∀ (x : Str), ltS x x = false
  | [] => rfl
  | a :: x => by simp [ltS, ltS_irr x]
theorem ltS_tri : ∀ {x y : Str}, ltS x y = false → ltS y x = false → x = y
  | [], [], _, _ => rfl
  | [], _ :: _, h, _ => by simp [ltS] at h
  | _ :: _, [], _, h => by simp [ltS] at h
  | a :: x, b :: y, h1, h2 => by
    simp only [ltS, Bool.or_eq_false_iff, decide_eq_false_iff_not, Bool.and_eq_false_iff] at h1 h2
    have e : a = b := by
      have h3 : ¬ a.toNat < b.toNat := fun h => h1.1 (UInt8.lt_iff_toNat_lt.2 h)
      have h4 : ¬ b.toNat < a.toNat := fun h => h2.1 (UInt8.lt_iff_toNat_lt.2 h)
      exact UInt8.toNat_inj.1 (by omega)
    subst e
    have h3 : ltS x y = false := h1.2.resolve_left (fun h => h rfl)
    have h4 : ltS y x = false := h2.2.resolve_left (fun h => h rfl)
    rw [ltS_tri h3 h4]
theorem ltS_trans : ∀ {x y z : Str}, ltS x y = true → ltS y z = true → ltS x z = true
  | _, [], _, h, _ => by cases ‹Str› <;> simp [ltS] at h
  | _, _ :: _, [], _, h => by simp [ltS] at h
  | [], _ :: _, _ :: _, _, _ => by simp [ltS]
  | a :: x, b :: y, c :: z, h1, h2 => by
    simp only [ltS, Bool.or_eq_true, decide_eq_true_eq, Bool.and_eq_true] at h1 h2 ⊢
    rcases h1 with h1 | ⟨rfl, h1⟩
    · rcases h2 with h2 | ⟨rfl, h2⟩
      · exact .inl (UInt8.lt_trans h1 h2)
      · exact .inl h1
    · rcases h2 with h2 | ⟨rfl, h2⟩
      · exact .inl h2
      · exact .inr ⟨rfl, ltS_trans h1 h2⟩
theorem ltS_asym {x y : Str} (h : ltS x y = true) : ltS y x = false := by
  cases h2 : ltS y x with
  | false => rfl
  | true => have := ltS_trans h h2; rw [ltS_irr] at this; cases this

def cmpT (x y : Str) : Int := if ltS x y = true then -1 else if x = y then 0 else 1
/-- rows of texts: which one is ahead -/
def ltL : List Str → List Str → Bool
  | _, [] => false
  | [], _ :: _ => true
  | x :: a, y :: b => ltS x y || (decide (x = y) && ltL a b)
def cmpL : List Str → List Str → Int
  | [], [] => 0
  | [], _ :: _ => -1
  | _ :: _, [] => 1
  | x :: a, y :: b => if cmpT x y ≠ 0 then cmpT x y else cmpL a b
theorem ltL_irr : ∀ (x : List Str), ltL x x = false
  | [] => rfl
  | a :: x => by simp [ltL, ltS_irr, ltL_irr x]
theorem ltL_tri : ∀ {x y : List Str}, ltL x y = false → ltL y x = false → x = y
  | [], [], _, _ => rfl
  | [], _ :: _, h, _ => by simp [ltL] at h
  | _ :: _, [], _, h => by simp [ltL] at h
  | a :: x, b :: y, h1, h2 => by
    simp only [ltL, Bool.or_eq_false_iff, Bool.and_eq_false_iff, decide_eq_false_iff_not] at h1 h2
    obtain rfl := ltS_tri h1.1 h2.1
    rw [ltL_tri (h1.2.resolve_left (fun h => h rfl)) (h2.2.resolve_left (fun h => h rfl))]
theorem ltL_trans : ∀ {x y z : List Str}, ltL x y = true → ltL y z = true → ltL x z = true
  | x, [], _, h, _ => by cases x <;> simp [ltL] at h
  | _, _ :: _, [], _, h => by simp [ltL] at h
  | [], _ :: _, _ :: _, _, _ => by simp [ltL]
  | a :: x, b :: y, c :: z, h1, h2 => by
    simp only [ltL, Bool.or_eq_true, decide_eq_true_eq, Bool.and_eq_true] at h1 h2 ⊢
    rcases h1 with h1 | ⟨rfl, h1⟩
    · rcases h2 with h2 | ⟨rfl, h2⟩
      · exact .inl (ltS_trans h1 h2)
      · exact .inl h1
    · rcases h2 with h2 | ⟨rfl, h2⟩
      · exact .inl h2
      · exact .inr ⟨rfl, ltL_trans h1 h2⟩
theorem cmpL_lt : ∀ (x y : List Str), cmpL x y < 0 ↔ ltL x y = true
  | [], [] => by simp [cmpL, ltL]
  | [], _ :: _ => by simp [cmpL, ltL]
  | _ :: _, [] => by simp [cmpL, ltL]
  | a :: x, b :: y => by
    simp only [cmpL, ltL, Bool.or_eq_true, Bool.and_eq_true, decide_eq_true_eq]
    unfold cmpT
    by_cases h1 : ltS a b = true
    · simp [h1]
    · by_cases e : a = b
      · subst e
        simp [ltS_irr, cmpL_lt x y]
      · simp [h1, e]
/-- the text of levels -/
def unl : List Str → Str
  | [] => []
  | [x] => x
  | x :: y :: l => x ++ 47 :: unl (y :: l)
theorem unl_levels : ∀ (s : Str), unl (levels s) = s
  | [] => rfl
  | c :: s => by
    have ih := unl_levels s
    simp only [levels]
    split
    · rename_i h
      subst h
      cases h2 : levels s with
      | nil => exact absurd h2 (levels_ne s)
      | cons x l => rw [h2] at ih; simp [unl, ih]
    · cases h2 : levels s with
      | nil => exact absurd h2 (levels_ne s)
      | cons x l =>
        rw [h2] at ih
        cases l with
        | nil => simp [unl] at ih ⊢; exact ih
        | cons y l => simp [unl] at ih ⊢; exact ih
theorem levels_inj {a b : Str} (h : levels a = levels b) : a = b := by rw [← unl_levels a, h, unl_levels]
/-- one filter is ahead of another one -/
def lessS (a b : Str) : Bool := ltL (levels a) (levels b)
theorem lessS_irr (a : Str) : lessS a a = false := ltL_irr _
theorem lessS_trans {a b c : Str} (h1 : lessS a b = true) (h2 : lessS b c = true) : lessS a c = true := ltL_trans h1 h2
theorem lessS_tri {a b : Str} (h1 : lessS a b = false) (h2 : lessS b a = false) : a = b := levels_inj (ltL_tri h1 h2)
theorem lessS_asym {a b : Str} (h : lessS a b = true) : lessS b a = false := by
  cases h2 : lessS b a with
  | false => rfl
  | true => have := lessS_trans h h2; rw [lessS_irr] at this; cases this

/-! what covers what -/
def covL : Bool → List Str → List Str → Bool
  | z, a, b => match a with
    | [] => (match b with
      | [] => true
      | _ :: _ => false)
    | x :: a' => decide (x = [35]) || (match b with
      | [] => false
      | y :: b' => if y = [35] then z && decide (x :: a' = [[43], [35]]) else (decide (x = [43]) || decide (x = y)) && covL false a' b')
def coversS (a b : Str) : Bool := filtS a && filtS b && covL true (levels a) (levels b)

/-- the rows that a filter's levels let by, of some length -/
def rowO : List Str → Nat → Option (List Str)
  | [], 0 => some []
  | [], _ + 1 => none
  | x :: l, n => if x = [35] then some (List.replicate n [43]) else match n with
    | 0 => none
    | n + 1 => (rowO l n).map (x :: ·)
theorem rowO_h (l : List Str) (n : Nat) : rowO ([35] :: l) n = some (List.replicate n [43]) := by cases n <;> simp [rowO]
theorem rowO_z {x : Str} (l : List Str) (h : x ≠ [35]) : rowO (x :: l) 0 = none := by simp [rowO, h]
theorem rowO_s {x : Str} (l : List Str) (n : Nat) (h : x ≠ [35]) : rowO (x :: l) (n + 1) = (rowO l n).map (x :: ·) := by simp [rowO, h]
theorem rowO_len : ∀ {l : List Str} {n : Nat} {r : List Str}, rowO l n = some r → r.length = n
  | [], 0, r, h => by simp [rowO] at h; simp [h]
  | [], n + 1, r, h => by simp [rowO] at h
  | x :: l, n, r, h => by
    simp only [rowO] at h
    split at h
    · simp at h; rw [← h]; simp
    · cases n with
      | zero => simp at h
      | succ n =>
        simp only [Option.map_eq_some_iff] at h
        obtain ⟨r', h1, rfl⟩ := h
        simp [rowO_len h1]
theorem rowO_row : ∀ (l : List Str) (n : Nat), filtL l = true → l ≠ [] → rowO l n = if (rowL l n).2 then some (rowL l n).1 else none
  | [], _, _, h => absurd rfl h
  | [x], n, hf, _ => by
    unfold rowL
    simp only [List.getLast?_singleton, List.length_singleton]
    by_cases hx : x = [35]
    · subst hx
      simp [rowO]
    · simp only [rowO, if_neg hx]
      cases n with
      | zero => simp
      | succ n =>
        cases n with
        | zero => simp [rowO]
        | succ n => simp [rowO]
  | x :: y :: l, n, hf, _ => by
    have hf' : filtL (y :: l) = true := by simp only [filtL, Bool.and_eq_true] at hf; exact hf.2
    have hx : x ≠ [35] := fun e => by
      have := filtL_rest hf (i := 0) (by simp [e])
      simp at this
    cases n with
    | zero =>
      rw [rowO_z _ hx]
      have : (rowL (x :: y :: l) 0).2 = false := by
        unfold rowL
        rw [List.getLast?_cons_cons]
        split
        · split <;> simp
        · rfl
      simp [this]
    | succ n =>
      have ih := rowO_row (y :: l) n hf' (by simp)
      have e : rowL (x :: y :: l) (n + 1) = (x :: (rowL (y :: l) n).1, (rowL (y :: l) n).2) := by
        unfold rowL
        rw [List.getLast?_cons_cons]
        split
        · split
          · simp only [List.length_cons, Nat.add_sub_cancel, Prod.mk.injEq]
            refine ⟨?_, ?_⟩
            · rw [show l.length + 1 = (l.length) + 1 from rfl, List.take_succ_cons, List.cons_append]
              congr 2
              rw [show n + 1 - (l.length + 1) = n - l.length from by omega]
            · rw [decide_eq_decide]; omega
          · simp
        · simp
      rw [e, rowO_s _ _ hx, ih]
      cases (rowL (y :: l) n).2 <;> simp
/-- there is a row -/
theorem rowO_ex : ∀ (l : List Str), filtL l = true → ∃ n r, rowO l n = some r ∧ n ≤ l.length ∧ (l ≠ [] → l.head? ≠ some [35] → 1 ≤ n) ∧ (l.head? = some [35] → n = 1)
  | [], _ => ⟨0, [], rfl, Nat.le_refl _, fun h => absurd rfl h, fun h => by simp at h⟩
  | x :: l, hf => by
    by_cases hx : x = [35]
    · subst hx
      exact ⟨1, _, rowO_h _ _, by simp, fun _ h => by simp at h, fun _ => rfl⟩
    · have hf' : filtL l = true := by
        cases l with
        | nil => rfl
        | cons y l => simp only [filtL, Bool.and_eq_true] at hf; exact hf.2
      obtain ⟨n, r, h1, h2, -⟩ := rowO_ex l hf'
      exact ⟨n + 1, x :: r, by simp [rowO, hx, h1], by simp; omega, fun _ _ => by omega, fun h => by simp at h; exact absurd h hx⟩
theorem rowO_rep (n : Nat) (y : List Str) : rowOk (List.replicate n [43]) y = true := rowOk_rep n y
theorem rowOk_trans : ∀ {x y z : List Str}, x.length = y.length → rowOk x y = true → rowOk y z = true → y.length = z.length → rowOk x z = true
  | [], _, _, _, _, _, _ => by simp [rowOk]
  | _ :: _, [], _, h, _, _, _ => by simp at h
  | _ :: _, _ :: _, [], _, _, _, h => by simp at h
  | a :: x, b :: y, c :: z, h1, h2, h3, h4 => by
    simp only [rowOk, Bool.and_eq_true, Bool.or_eq_true, decide_eq_true_eq] at h2 h3 ⊢
    simp at h1 h4
    refine ⟨?_, rowOk_trans h1 h2.2 h3.2 h4⟩
    rcases h2.1 with h | h
    · exact .inl h
    · rcases h3.1 with h' | h'
      · exact .inl (h.trans h')
      · exact .inr (h.trans h')
/-- by rows: of lengths from lo to hi -/
def CovX (lo hi : Nat) (a b : List Str) : Prop := ∀ n y, lo ≤ n → n ≤ hi → rowO b n = some y → ∃ x, rowO a n = some x ∧ rowOk x y = true
theorem CovX.trans {lo hi : Nat} {a b c : List Str} (h1 : CovX lo hi a b) (h2 : CovX lo hi b c) : CovX lo hi a c := fun n z hl hh hz => by
  obtain ⟨y, hy, h3⟩ := h2 n z hl hh hz
  obtain ⟨x, hx, h4⟩ := h1 n y hl hh hy
  exact ⟨x, hx, rowOk_trans ((rowO_len hx).trans (rowO_len hy).symm) h4 h3 ((rowO_len hy).trans (rowO_len hz).symm)⟩
theorem filtL_tl {x : Str} {l : List Str} (h : filtL (x :: l) = true) : filtL l = true := by
  cases l with
  | nil => rfl
  | cons y l => simp only [filtL, Bool.and_eq_true] at h; exact h.2
theorem filtL_hash {l : List Str} (h : filtL ([35] :: l) = true) : l = [] := by
  have := filtL_rest h (i := 0) rfl
  simp at this; exact this.symm ▸ rfl
theorem covL_iff : ∀ (a b : List Str) (z : Bool) (hi : Nat), filtL a = true → filtL b = true → b.length ≤ hi → (z = true → b ≠ [] ∧ 2 ≤ hi) → (covL z a b = true ↔ CovX (if z then 1 else 0) hi a b)
  | [], [], z, hi, _, _, _, hz => by
    cases z with
    | true => exact absurd rfl (hz rfl).1
    | false => exact ⟨fun _ n y _ _ h => ⟨y, h, by
        cases n with
        | zero => simp [rowO] at h; subst h; rfl
        | succ n => simp [rowO] at h⟩, fun _ => rfl⟩
  | [], y :: b, z, hi, _, hb, hl, hz => by
    have e : covL z [] (y :: b) = false := rfl
    rw [e]
    constructor
    · intro h; cases h
    · intro h
      obtain ⟨n, r, h1, h2, h3, h4⟩ := rowO_ex (y :: b) hb
      have hn : 1 ≤ n := by
        by_cases hy : y = [35]
        · have := h4 (by simp [hy]); omega
        · exact h3 (by simp) (by simpa using hy)
      obtain ⟨x, hx, -⟩ := h n r (by split <;> omega) (by omega) h1
      cases n with
      | zero => omega
      | succ n => simp [rowO] at hx
  | x :: a, [], z, hi, _, _, _, hz => by
    have hz' : z = false := by
      cases z with
      | true => exact absurd rfl (hz rfl).1
      | false => rfl
    subst hz'
    by_cases hx : x = [35]
    · subst hx
      simp only [covL, decide_true, Bool.true_or, true_iff]
      intro n y _ _ h
      exact ⟨_, rowO_h _ _, rowOk_rep _ _⟩
    · simp only [covL, decide_eq_false hx, Bool.false_or]
      constructor
      · intro h; cases h
      · intro h
        obtain ⟨x', hx', -⟩ := h 0 [] (by simp) (Nat.zero_le _) rfl
        simp [rowO, hx] at hx'
  | x :: a, y :: b, z, hi, ha, hb, hl, hz => by
    by_cases hx : x = [35]
    · subst hx
      simp only [covL, decide_true, Bool.true_or, true_iff]
      intro n y _ _ h
      exact ⟨_, rowO_h _ _, rowOk_rep _ _⟩
    simp only [covL, decide_eq_false hx, Bool.false_or]
    by_cases hy : y = [35]
    · subst hy
      have hb' := filtL_hash hb
      subst hb'
      rw [if_pos rfl]
      simp only [List.length_singleton] at hl
      cases z with
      | false =>
        simp only [Bool.false_and]
        constructor
        · intro h; cases h
        · intro h
          obtain ⟨x', hx', -⟩ := h 0 [] (by simp) (Nat.zero_le _) (by simp [rowO])
          simp [rowO, hx] at hx'
      | true =>
        have h2 := (hz rfl).2
        simp only [Bool.true_and, decide_eq_true_eq, if_true]
        constructor
        · intro h
          simp only [List.cons.injEq] at h
          obtain ⟨rfl, rfl⟩ := h
          intro n y h1 _ hy
          simp only [rowO, if_true, Option.some.injEq] at hy
          subst hy
          cases n with
          | zero => omega
          | succ n => exact ⟨_, by simp [rowO]; rfl, by simp [List.replicate_succ, rowOk, rowOk_rep]⟩
        · intro h
          obtain ⟨x1, hx1, ho1⟩ := h 1 [[43]] (Nat.le_refl _) (by omega) (by simp [rowO])
          simp only [rowO, if_neg hx, Option.map_eq_some_iff] at hx1
          obtain ⟨r, hr, rfl⟩ := hx1
          simp only [rowOk, Bool.or_self, Bool.and_eq_true, decide_eq_true_eq] at ho1
          obtain ⟨x2, hx2, -⟩ := h 2 [[43], [43]] (by omega) h2 (by simp [rowO, List.replicate])
          simp only [rowO, if_neg hx, Option.map_eq_some_iff] at hx2
          obtain ⟨r2, hr2, -⟩ := hx2
          cases a with
          | nil => simp [rowO] at hr2
          | cons w a =>
            by_cases hw : w = [35]
            · subst hw
              rw [ho1.1, filtL_hash (filtL_tl ha)]
            · simp [rowO, hw] at hr
    · rw [if_neg hy]
      have hl' : b.length ≤ hi - 1 := by simp at hl; omega
      have ih := covL_iff a b false (hi - 1) (filtL_tl ha) (filtL_tl hb) hl' (fun h => by cases h)
      rw [Bool.and_eq_true, ih]
      simp only [List.length_cons] at hl
      constructor
      · rintro ⟨h1, h2⟩ n w hn hn2 hw
        cases n with
        | zero => simp [rowO, hy] at hw
        | succ n =>
          simp only [rowO, if_neg hy, Option.map_eq_some_iff] at hw
          obtain ⟨w', hw', rfl⟩ := hw
          obtain ⟨v, hv, ho⟩ := h2 n w' (by simp) (by omega) hw'
          exact ⟨x :: v, by simp [rowO, hx, hv], by simp only [rowOk, h1, ho, Bool.and_self]⟩
      · intro h
        have key : ∀ n w, n ≤ hi - 1 → rowO b n = some w → ∃ v, rowO a n = some v ∧ (decide (x = [43]) || decide (x = y)) = true ∧ rowOk v w = true := fun n w hn hw => by
          obtain ⟨v, hv, ho⟩ := h (n + 1) (y :: w) (by split <;> omega) (by omega) (by simp [rowO, hy, hw])
          simp only [rowO, if_neg hx, Option.map_eq_some_iff] at hv
          obtain ⟨v', hv', rfl⟩ := hv
          simp only [rowOk, Bool.and_eq_true] at ho
          exact ⟨v', hv', ho.1, ho.2⟩
        obtain ⟨n, r, h1, h2, -⟩ := rowO_ex b (filtL_tl hb)
        obtain ⟨-, -, h3, -⟩ := key n r (by omega) h1
        refine ⟨h3, fun n w _ hn hw => ?_⟩
        obtain ⟨v, hv, -, ho⟩ := key n w hn hw
        exact ⟨v, hv, ho⟩
theorem filtS_L {s : Str} (h : filtS s = true) : (levels s).length ≤ 8 ∧ filtL (levels s) = true := by simpa [filtS] using h
theorem coversS_iff {a b : Str} (ha : filtS a = true) (hb : filtS b = true) : coversS a b = true ↔ CovX 1 8 (levels a) (levels b) := by
  have h1 := filtS_L ha
  have h2 := filtS_L hb
  rw [coversS, ha, hb]
  exact covL_iff _ _ true 8 h1.2 h2.2 h2.1 fun _ => ⟨levels_ne b, by omega⟩
theorem coversS_filt {a b : Str} (h : coversS a b = true) : filtS a = true ∧ filtS b = true := by
  simp only [coversS, Bool.and_eq_true] at h; exact h.1
theorem rowOk_refl : ∀ (x : List Str), rowOk x x = true
  | [] => rfl
  | a :: x => by simp [rowOk, rowOk_refl x]
theorem coversS_refl {a : Str} (h : filtS a = true) : coversS a a = true := (coversS_iff h h).2 fun _ y _ _ hy => ⟨y, hy, rowOk_refl y⟩
theorem coversS_trans {a b c : Str} (h1 : coversS a b = true) (h2 : coversS b c = true) : coversS a c = true := by
  obtain ⟨ha, hb⟩ := coversS_filt h1
  have hc := (coversS_filt h2).2
  exact (coversS_iff ha hc).2 (((coversS_iff ha hb).1 h1).trans ((coversS_iff hb hc).1 h2))
theorem matchS_iff {f t : Str} (hf : filtS f = true) (ht : rightS t = true) : matchS f t = true ↔ ∃ x, rowO (levels f) (levels t).length = some x ∧ rowOk x (levels t) = true := by
  rw [matchS, hf, ht, matchL_row _ _ (filtS_L hf).2 (levels_ne f), rowO_row _ _ (filtS_L hf).2 (levels_ne f)]
  cases (rowL (levels f) (levels t).length).2 <;> simp
theorem matchS_filt {f t : Str} (h : matchS f t = true) : filtS f = true ∧ rightS t = true := by
  simp only [matchS, Bool.and_eq_true] at h; exact h.1
theorem rightS_len {t : Str} (h : rightS t = true) : 1 ≤ (levels t).length ∧ (levels t).length ≤ 8 := by
  simp only [rightS, Bool.and_eq_true, decide_eq_true_eq] at h
  exact ⟨List.length_pos_iff.2 (levels_ne t), h.1⟩
/-- what covers lets by -/
theorem cov_match {g f t : Str} (h : coversS g f = true) (hm : matchS f t = true) : matchS g t = true := by
  obtain ⟨hg, hf⟩ := coversS_filt h
  have ht := (matchS_filt hm).2
  obtain ⟨y, hy, ho⟩ := (matchS_iff hf ht).1 hm
  obtain ⟨x, hx, ho2⟩ := (coversS_iff hg hf).1 h _ y (rightS_len ht).1 (rightS_len ht).2 hy
  exact (matchS_iff hg ht).2 ⟨x, hx, rowOk_trans ((rowO_len hx).trans (rowO_len hy).symm) ho2 ho (rowO_len hy)⟩
theorem names_filt : ∀ {l : List Str}, l.all nameS = true → filtL l = true
  | [], _ => rfl
  | [x], h => by simp at h; simp [filtL, h]
  | x :: y :: l, h => by
    simp only [List.all_cons, Bool.and_eq_true] at h
    simp only [filtL, h.1, Bool.true_or, Bool.true_and]
    exact names_filt (by simp [h.2])
theorem names_row : ∀ {l : List Str} {n : Nat}, l.all nameS = true → rowO l n = if n = l.length then some l else none
  | [], 0, _ => rfl
  | [], n + 1, _ => by simp [rowO]
  | x :: l, n, h => by
    simp only [List.all_cons, Bool.and_eq_true] at h
    have hx : x ≠ [35] := fun e => by rw [e, not_name_rest] at h; cases h.1
    cases n with
    | zero => rw [rowO_z _ hx]; simp
    | succ n =>
      rw [rowO_s _ _ hx]
      simp only [names_row h.2, List.length_cons, Nat.add_right_cancel_iff]
      split <;> simp
theorem right_filt {t : Str} (h : rightS t = true) : filtS t = true := by
  simp only [rightS, Bool.and_eq_true, decide_eq_true_eq] at h
  simp [filtS, h.1, names_filt h.2]
/-- at a topic: to let by is to cover -/
theorem match_cov {g t : Str} (ht : rightS t = true) : matchS g t = coversS g t := by
  have hn : (levels t).all nameS = true := by simp only [rightS, Bool.and_eq_true] at ht; exact ht.2
  cases hg : filtS g with
  | false => simp [matchS, coversS, hg]
  | true =>
    rw [Bool.eq_iff_iff, matchS_iff hg ht, coversS_iff hg (right_filt ht)]
    constructor
    · rintro ⟨x, hx, ho⟩ n y _ _ hy
      rw [names_row hn] at hy
      split at hy
      · rename_i e; subst e; simp at hy; subst hy; exact ⟨x, hx, ho⟩
      · cases hy
    · intro h
      exact h _ (levels t) (rightS_len ht).1 (rightS_len ht).2 (by rw [names_row hn]; simp)
end Go.Proofs.YtnoicafjkgbokaaDoor
