/-
  Topics and filters: the plain model.
-/
import Derived.Test.YtnoicafjkgbokaaDoorStr
namespace Go.Proofs.YtnoicafjkgbokaaDoor
open Go

abbrev strs (l : List Str) : List Value := l.map sv
theorem strs_flat (l : List Str) : strs l = l.flatMap fun x => [sv x] := by
  induction l with
  | nil => rfl
  | cons x l ih => rw [List.flatMap_cons, ← ih]; rfl
theorem IsSl.strsE {E : TypeId} {R : List Str} {v : Value} {row : List Blk} (h : IsSl E 1 v (strs R) row) :
    ∃ a cap, v = .slice a R.length cap ∧ R.length ≤ cap ∧ ((R = [] ∧ row = [] ∧ a = none ∧ cap = 0) ∨ ∃ b sp, a = some ⟨b, 0, none⟩ ∧ row = [(b, .cells ⟨strs R ++ sp⟩ E (0, 0))] ∧ (strs R ++ sp).length = cap) := by
  rw [strs_flat] at h
  obtain ⟨a, cap, e, hc, hr⟩ := IsSl.elems (k := 0) (fun _ => rfl) h
  refine ⟨a, cap, e, hc, hr.imp id ?_⟩
  rintro ⟨b, sp, e1, e2, e3⟩
  exact ⟨b, sp, e1, by rw [strs_flat]; exact e2, by rw [strs_flat]; omega⟩
theorem strs_get {l : List Str} {sp : List Value} {i : Nat} {x : Str} (h : l[i]? = some x) : (strs l ++ sp)[i]? = some (sv x) := by
  have hlt : i < l.length := (List.getElem?_eq_some_iff.1 h).1
  rw [List.getElem?_append_left (by simpa using hlt)]
  simp [h]
theorem strs_len (l : List Str) : (strs l).length = l.length := by simp [strs]

/-- the levels of a text -/
def levels : Str → List Str
  | [] => [[]]
  | c :: s => if c = 47 then [] :: levels s else
    match levels s with
    | [] => [[c]]
    | l :: ls => (c :: l) :: ls
theorem levels_ne (s : Str) : levels s ≠ [] := by
  cases s with
  | nil => simp [levels]
  | cons c s => simp only [levels]; split; · simp
                split <;> simp
theorem levels_none : ∀ {a : Str}, (47 : UInt8) ∉ a → levels a = [a]
  | [], _ => rfl
  | c :: a, h => by
    have h1 : c ≠ 47 := fun e => h (by simp [e])
    have h2 : (47 : UInt8) ∉ a := fun hm => h (List.mem_cons_of_mem _ hm)
    simp only [levels, if_neg h1, levels_none h2]
theorem levels_cut : ∀ {a : Str} (b : Str), (47 : UInt8) ∉ a → levels (a ++ 47 :: b) = a :: levels b
  | [], b, _ => by simp [levels]
  | c :: a, b, h => by
    have h1 : c ≠ 47 := fun e => h (by simp [e])
    have h2 : (47 : UInt8) ∉ a := fun hm => h (List.mem_cons_of_mem _ hm)
    simp only [List.cons_append, levels, if_neg h1, levels_cut b h2]
theorem levels_len : ∀ (s : Str), (levels s).length ≤ s.length + 1
  | [] => by simp [levels]
  | c :: s => by
    have := levels_len s
    simp only [levels]
    split
    · simp; omega
    · split
      · simp
      · rename_i h; rw [h] at this; simp at this ⊢; omega

/-- a letter of a name -/
def okN (n : Int) : Bool := (decide (97 ≤ n) && decide (n ≤ 122)) || (decide (48 ≤ n) && decide (n ≤ 57)) || decide (n = 45) || decide (n = 95)
def nameS (s : Str) : Bool := s.all (fun c => okN c.toNat) && decide (s ≠ []) && decide (s.length ≤ 16)
def rightS (s : Str) : Bool := decide ((levels s).length ≤ 8) && (levels s).all nameS
/-- may levels be a filter's? -/
def filtL : List Str → Bool
  | [] => true
  | [x] => nameS x || decide (x = [43]) || decide (x = [35])
  | x :: xs => (nameS x || decide (x = [43])) && filtL xs
def filtS (s : Str) : Bool := decide ((levels s).length ≤ 8) && filtL (levels s)
/-- do levels let others by? -/
def matchL : List Str → List Str → Bool
  | [], [] => true
  | [], _ :: _ => false
  | x :: f, t => decide (x = [35]) || (match t with
    | [] => false
    | y :: t => (decide (x = [43]) || decide (x = y)) && matchL f t)
def matchS (f t : Str) : Bool := filtS f && rightS t && matchL (levels f) (levels t)

theorem okN_ge {n : Int} (h : 128 ≤ n) : okN n = false := by
  simp only [okN, Bool.or_eq_false_iff, Bool.and_eq_false_iff, decide_eq_false_iff_not]
  omega
theorem not_name_rest : nameS [35] = false := by decide
theorem not_name_one : nameS [43] = false := by decide

/-- a place in levels of which a filter's may not be -/
def badAt (l : List Str) (i : Nat) (x : Str) : Bool := !nameS x && (!decide (x = [43]) && (!decide (x = [35]) || !decide (i + 1 = l.length)))
theorem badAt_succ (x : Str) (l : List Str) (i : Nat) (z : Str) : badAt (x :: l) (i + 1) z = badAt l i z := by simp [badAt]
theorem filtL_iff : ∀ (l : List Str), filtL l = true ↔ ∀ i x, l[i]? = some x → badAt l i x = false
  | [] => by simp [filtL]
  | [x] => by
    simp only [filtL]
    constructor
    · intro h i y hy
      cases i with
      | zero =>
        simp at hy; subst hy
        simp only [badAt]
        cases h1 : nameS x <;> cases h2 : decide (x = [43]) <;> cases h3 : decide (x = [35]) <;> simp_all
      | succ i => simp at hy
    · intro h
      have := h 0 x rfl
      simp only [badAt] at this
      cases h1 : nameS x <;> cases h2 : decide (x = [43]) <;> cases h3 : decide (x = [35]) <;> simp_all
  | x :: y :: l => by
    simp only [filtL, Bool.and_eq_true]
    rw [filtL_iff (y :: l)]
    constructor
    · rintro ⟨h1, h2⟩ i z hz
      cases i with
      | zero =>
        simp at hz; subst hz
        simp only [badAt]
        cases h1' : nameS x <;> cases h2' : decide (x = [43]) <;> simp_all
      | succ i =>
        rw [badAt_succ]
        exact h2 i z (by simpa using hz)
    · intro h
      constructor
      · have := h 0 x rfl
        simp only [badAt, List.length_cons] at this
        cases h1' : nameS x <;> cases h2' : decide (x = [43]) <;> simp_all
      · intro i z hz
        have := h (i + 1) z (by simpa using hz)
        rwa [badAt_succ] at this
/-- '#' stands last -/
theorem filtL_rest {l : List Str} (h : filtL l = true) {i : Nat} (hi : l[i]? = some [35]) : i + 1 = l.length := by
  have := (filtL_iff l).1 h i _ hi
  simp only [badAt, not_name_rest] at this
  simpa using this

/-! the row of a filter -/
def rowL (l : List Str) (n : Nat) : List Str × Bool :=
  match l.getLast? with
  | some x => if x = [35] then (l.take (l.length - 1) ++ List.replicate (n - (l.length - 1)) [43], decide (l.length - 1 ≤ n)) else (l, decide (l.length = n))
  | none => (l, false)
def rowOk : List Str → List Str → Bool
  | x :: f, y :: t => (decide (x = [43]) || decide (x = y)) && rowOk f t
  | _, _ => true
theorem rowOk_rep : ∀ (n : Nat) (t : List Str), rowOk (List.replicate n [43]) t = true
  | 0, t => by simp [rowOk]
  | n + 1, [] => by simp [List.replicate_succ, rowOk]
  | n + 1, y :: t => by simp [List.replicate_succ, rowOk, rowOk_rep n t]
theorem matchL_row : ∀ (l t : List Str), filtL l = true → l ≠ [] → matchL l t = ((rowL l t.length).2 && rowOk (rowL l t.length).1 t)
  | [], t, _, h => absurd rfl h
  | [x], t, hf, _ => by
    unfold rowL
    simp only [List.getLast?_singleton, List.length_singleton]
    by_cases hx : x = [35]
    · subst hx
      simp [matchL, rowOk_rep]
    · cases t with
      | nil => simp [matchL, hx]
      | cons y t =>
        cases t with
        | nil => simp [matchL, hx, rowOk]
        | cons z t => simp [matchL, hx]
  | x :: y :: l, t, hf, _ => by
    have hf' : filtL (y :: l) = true := by simp only [filtL, Bool.and_eq_true] at hf; exact hf.2
    have hx : x ≠ [35] := fun e => by
      have := filtL_rest hf (i := 0) (by simp [e])
      simp at this
    cases t with
    | nil =>
      simp only [matchL, hx, decide_false, Bool.false_or]
      have : (rowL (x :: y :: l) 0).2 = false := by
        unfold rowL
        rw [List.getLast?_cons_cons]
        split
        · split <;> simp
        · rfl
      simp [this]
    | cons z t =>
      have ih := matchL_row (y :: l) t hf' (by simp)
      show (decide (x = [35]) || ((decide (x = [43]) || decide (x = z)) && matchL (y :: l) t)) = _
      rw [ih, decide_eq_false hx, Bool.false_or]
      have e : rowL (x :: y :: l) (z :: t).length = (x :: (rowL (y :: l) t.length).1, (rowL (y :: l) t.length).2) := by
        unfold rowL
        rw [List.getLast?_cons_cons]
        split
        · split
          · simp only [List.length_cons, Nat.add_sub_cancel, Prod.mk.injEq]
            refine ⟨?_, ?_⟩
            · rw [show l.length + 1 = (l.length) + 1 from rfl, List.take_succ_cons, List.cons_append]
              congr 2
              rw [show t.length + 1 - (l.length + 1) = t.length - l.length from by omega]
            · rw [decide_eq_decide]; omega
          · simp
        · simp
      rw [e]
      simp only [rowOk]
      cases (rowL (y :: l) t.length).2 <;> simp
theorem rowL_len {l : List Str} {n : Nat} (h : (rowL l n).2 = true) : (rowL l n).1.length = n := by
  unfold rowL at h ⊢
  split at h <;> rename_i hx
  · split at h
    · rename_i hx2
      simp only [hx2, if_true, decide_eq_true_eq] at h ⊢
      simp; omega
    · rename_i hx2
      simp only [hx2, if_false, decide_eq_true_eq] at h ⊢
      exact h
  · cases h
end Go.Proofs.YtnoicafjkgbokaaDoor
