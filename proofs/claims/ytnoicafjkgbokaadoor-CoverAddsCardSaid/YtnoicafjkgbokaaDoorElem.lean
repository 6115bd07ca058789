/-
  Slices of elements: lists of whatever is laid in cells. More rules for maps.
-/
import Derived.Test.YtnoicafjkgbokaaDoorSort
namespace Go.Proofs.YtnoicafjkgbokaaDoor
open Go

theorem IsSl.elems {α : Type} {en : α → List Value} {E : TypeId} {k : Nat} (hk : ∀ x, (en x).length = k + 1) {R : List α} {v : Value} {row : List Blk} (h : IsSl E (k + 1) v (R.flatMap en) row) :
    ∃ a cap, v = .slice a R.length cap ∧ R.length ≤ cap ∧ ((R = [] ∧ row = [] ∧ a = none ∧ cap = 0) ∨ ∃ b sp, a = some ⟨b, 0, none⟩ ∧ row = [(b, .cells ⟨R.flatMap en ++ sp⟩ E (0, 0))] ∧ (R.flatMap en ++ sp).length = cap * (k + 1)) := by
  have hlen : ∀ R : List α, (R.flatMap en).length = R.length * (k + 1) := by
    intro R
    induction R with
    | nil => simp
    | cons x R ih => simp only [List.flatMap_cons, List.length_append, hk, ih, List.length_cons, Nat.succ_mul]; omega
  generalize hl : R.flatMap en = l at h
  cases h with
  | nil =>
    have := hlen R
    rw [hl] at this
    have h0 : R.length = 0 := by
      have h1 : R.length * (k + 1) = 0 := by simpa using this.symm
      rcases Nat.mul_eq_zero.1 h1 with h1 | h1
      · exact h1
      · omega
    have hR : R = [] := List.length_eq_zero_iff.1 h0
    subst hR
    exact ⟨none, 0, rfl, by simp, .inl ⟨rfl, rfl, rfl, rfl⟩⟩
  | @row b n c l sp h1 h2 h3 =>
    subst hl
    rw [hlen] at h1
    have hn : R.length = n := Nat.eq_of_mul_eq_mul_right (Nat.succ_pos k) h1
    subst hn
    exact ⟨_, c, rfl, h3, .inr ⟨b, sp, rfl, rfl, h2⟩⟩

theorem flat_len {α : Type} {en : α → List Value} {k : Nat} (hk : ∀ x, (en x).length = k) (R : List α) : (R.flatMap en).length = R.length * k := by
  induction R with
  | nil => simp
  | cons x R ih => simp only [List.flatMap_cons, List.length_append, hk, ih, List.length_cons, Nat.succ_mul]; omega

theorem flat_get {α : Type} {en : α → List Value} {k : Nat} (hk : ∀ x, (en x).length = k) (sp : List Value) : ∀ (R : List α) (i j : Nat) (x : α), R[i]? = some x → j < k → (R.flatMap en ++ sp)[i * k + j]? = (en x)[j]?
  | [], i, j, x, h, _ => by simp at h
  | y :: R, 0, j, x, h, hj => by
    simp only [List.getElem?_cons_zero, Option.some.injEq] at h
    subst h
    rw [List.flatMap_cons, List.append_assoc, Nat.zero_mul, Nat.zero_add, List.getElem?_append_left (by rw [hk]; exact hj)]
  | y :: R, i + 1, j, x, h, hj => by
    simp only [List.getElem?_cons_succ] at h
    rw [List.flatMap_cons, List.append_assoc, List.getElem?_append_right (by rw [hk, Nat.succ_mul]; omega), hk]
    rw [show (i + 1) * k + j - k = i * k + j from by rw [Nat.succ_mul]; omega]
    exact flat_get hk sp R i j x h hj

theorem flat_take {α : Type} {en : α → List Value} {k : Nat} (hk : ∀ x, (en x).length = k) (sp : List Value) (R : List α) (i : Nat) (x : α) (h : R[i]? = some x) : ((R.flatMap en ++ sp).drop (i * k)).take k = en x := by
  induction R generalizing i with
  | nil => simp at h
  | cons y R ih =>
    cases i with
    | zero =>
      simp only [List.getElem?_cons_zero, Option.some.injEq] at h
      subst h
      simp [hk]
    | succ i =>
      simp only [List.getElem?_cons_succ] at h
      rw [List.flatMap_cons, List.append_assoc, List.drop_append, List.drop_eq_nil_of_le (by rw [hk, Nat.succ_mul]; omega), hk]
      rw [show (i + 1) * k - k = i * k from by rw [Nat.succ_mul]; omega]
      simpa using ih i h

theorem flat_sub {α : Type} {en : α → List Value} {k : Nat} (hk : ∀ x, (en x).length = k) (sp : List Value) (R : List α) (i j : Nat) (hij : i ≤ j) (hj : j ≤ R.length) : ((R.flatMap en ++ sp).drop (i * k)).take ((j - i) * k) = ((R.drop i).take (j - i)).flatMap en := by
  have hR : R.flatMap en = (R.take i).flatMap en ++ (R.drop i).flatMap en := by rw [← List.flatMap_append, List.take_append_drop]
  have h1 : ((R.take i).flatMap en).length = i * k := by rw [flat_len hk, List.length_take, Nat.min_eq_left (by omega)]
  rw [hR, List.append_assoc, ← h1, List.drop_left]
  have hD : (R.drop i).flatMap en = ((R.drop i).take (j - i)).flatMap en ++ ((R.drop i).drop (j - i)).flatMap en := by rw [← List.flatMap_append, List.take_append_drop]
  have h2 : (((R.drop i).take (j - i)).flatMap en).length = (j - i) * k := by rw [flat_len hk, List.length_take, List.length_drop, Nat.min_eq_left (by omega)]
  rw [hD, List.append_assoc, ← h2, List.take_left]
theorem flat_cut {α : Type} {en : α → List Value} {k : Nat} (hk : ∀ x, (en x).length = k) (sp : List Value) (R : List α) (i j cap : Nat) (hij : i ≤ j) (hj : j ≤ R.length) (hc : R.length ≤ cap) :
    ((R.flatMap en ++ sp).drop (if cap = i then 0 else 0 + i * k)).take ((j - i) * k) = ((R.drop i).take (j - i)).flatMap en ∧ (if cap = i then 0 else 0 + i * k) + (j - i) * k ≤ (R.flatMap en ++ sp).length := by
  by_cases h : cap = i
  · have : j - i = 0 := by omega
    simp [h, this]
  · rw [if_neg h, Nat.zero_add]
    refine ⟨flat_sub hk sp R i j hij hj, ?_⟩
    rw [← Nat.add_mul, List.length_append, flat_len hk]
    have := Nat.mul_le_mul_right k (show i + (j - i) ≤ R.length by omega)
    omega
theorem flat_cv {α : Type} {en : α → List Value} (h : ∀ x, (en x).all cellV = true) (R : List α) : ∀ v ∈ R.flatMap en, cellV v = true := by
  intro v hv
  obtain ⟨x, _, hx⟩ := List.mem_flatMap.1 hv
  exact List.all_eq_true.1 (h x) v hx
theorem flat_set {α : Type} {en : α → List Value} {k : Nat} (hk : ∀ x, (en x).length = k) (sp : List Value) {x y : α} {v : Value} {j : Nat} (hj : j < k) (hy : en y = (en x).set j v) : ∀ (R : List α) (i : Nat), R[i]? = some x → (R.flatMap en ++ sp).set (i * k + j) v = (R.set i y).flatMap en ++ sp
  | [], i, h => by simp at h
  | z :: R, 0, h => by
    simp only [List.getElem?_cons_zero, Option.some.injEq] at h
    subst h
    rw [List.flatMap_cons, List.append_assoc, Nat.zero_mul, Nat.zero_add, List.set_append_left _ _ (by rw [hk]; exact hj), List.set_cons_zero, List.flatMap_cons, hy, List.append_assoc]
  | z :: R, i + 1, h => by
    simp only [List.getElem?_cons_succ] at h
    rw [List.flatMap_cons, List.append_assoc, List.set_append_right _ _ (by rw [hk, Nat.succ_mul]; omega), hk, show (i + 1) * k + j - k = i * k + j from by rw [Nat.succ_mul]; omega, flat_set hk sp hj hy R i h, List.set_cons_succ, List.flatMap_cons, List.append_assoc]
theorem below_succ {α : Type} {R : List α} {p : α → Prop} {i : Nat} {x : α} (h : ∀ j y, j < i → R[j]? = some y → p y) (hx : R[i]? = some x) (hp : p x) : ∀ j y, j < i + 1 → R[j]? = some y → p y := fun j y hj hy => by
  rcases Nat.lt_succ_iff_lt_or_eq.1 hj with h1 | rfl
  · exact h j y h1 hy
  · rw [hx] at hy; cases hy; exact hp
theorem ints_flat (zs : List Int) : ints zs = zs.flatMap fun x => [Value.int .i64 x] := by
  induction zs with
  | nil => rfl
  | cons x zs ih => simp [ints] at ih ⊢; exact ih
theorem IsSl.intsE {E : TypeId} {R : List Int} {v : Value} {row : List Blk} (h : IsSl E 1 v (ints R) row) :
    ∃ a cap, v = .slice a R.length cap ∧ R.length ≤ cap ∧ ((R = [] ∧ row = [] ∧ a = none ∧ cap = 0) ∨ ∃ b sp, a = some ⟨b, 0, none⟩ ∧ row = [(b, .cells ⟨ints R ++ sp⟩ E (0, 0))] ∧ (ints R ++ sp).length = cap) := by
  rw [ints_flat] at h
  obtain ⟨a, cap, h1, h2, h3⟩ := IsSl.elems (k := 0) (fun _ => rfl) h
  refine ⟨a, cap, h1, h2, ?_⟩
  rw [ints_flat]
  simpa using h3
theorem ints_get {zs : List Int} {sp : List Value} {i : Nat} {x : Int} (h : zs[i]? = some x) : (ints zs ++ sp)[i]? = some (.int .i64 x) := by
  have hlt := (List.getElem?_eq_some_iff.1 h).1
  rw [List.getElem?_append_left (by simpa [ints] using hlt)]
  simp [ints, h]
theorem ints_len (zs : List Int) : (ints zs).length = zs.length := by simp [ints]

section
variable {P : Program} {r : Option Nat} {Q : Exit → Fr → Hp → Prop} {f : Fr} {h h' : Hp} {d : Option Tmp} {ty : TypeId} {p : String} {af : Array Edge} {gd : Option (Nat × Bool)} {S : Hp} {SL : List Blk}
variable {κ : Type} [DecidableEq κ] {ek : κ → Value} {T K V : TypeId} {m : Nat} {L : ML κ} {ck : Nat} {k : κ} {x y z : Operand} {sz by_ : Nat} {zv v : Value}

theorem S0.lookupS [hh : Has S m (mapO ek L ck)] [u : Und P T (.map K V)] [mk : MKey P K ek] [i : Inf P V sz by_ zv] (hx : ev f x = some (.map (some m))) (hy : ev f y = some (ek k)) (hg : getM L k = some v) : S0 P f S.flatten ⟨d, .lookup T x y false, ty, p, af, gd⟩ v := by
  have := S0.lookup (P := P) (d := d) (ty := ty) (p := p) (af := af) (gd := gd) (hh := hh) (u := u) (mk := mk) (i := i) hx hy
  rw [hg] at this; exact this
theorem S0.lookupZ [hh : Has S m (mapO ek L ck)] [u : Und P T (.map K V)] [mk : MKey P K ek] [i : Inf P V sz by_ zv] (hx : ev f x = some (.map (some m))) (hy : ev f y = some (ek k)) (hg : getM L k = none) : S0 P f S.flatten ⟨d, .lookup T x y false, ty, p, af, gd⟩ zv := by
  have := S0.lookup (P := P) (d := d) (ty := ty) (p := p) (af := af) (gd := gd) (hh := hh) (u := u) (mk := mk) (i := i) hx hy
  rw [hg] at this; exact this
theorem S0.lookupV [hh : Has S m (mapO ek L ck)] [u : Und P T (.map K V)] [mk : MKey P K ek] [i : Inf P V sz by_ zv] (hx : ev f x = some (.map (some m))) (hy : ev f y = some (ek k)) (hg : (getM L k).getD zv = v) : S0 P f S.flatten ⟨d, .lookup T x y false, ty, p, af, gd⟩ v := by
  have := S0.lookup (P := P) (d := d) (ty := ty) (p := p) (af := af) (gd := gd) (hh := hh) (u := u) (mk := mk) (i := i) hx hy
  rw [hg] at this; exact this
theorem S0.lookup2S [hh : Has S m (mapO ek L ck)] [u : Und P T (.map K V)] [mk : MKey P K ek] [i : Inf P V sz by_ zv] (hx : ev f x = some (.map (some m))) (hy : ev f y = some (ek k)) (hg : getM L k = some v) : S0 P f S.flatten ⟨d, .lookup T x y true, ty, p, af, gd⟩ (.tuple ⟨[v, .bool true]⟩) := by
  have := S0.lookup2 (P := P) (d := d) (ty := ty) (p := p) (af := af) (gd := gd) (hh := hh) (u := u) (mk := mk) (i := i) hx hy
  rw [hg] at this; exact this
theorem S0.lookup2Z [hh : Has S m (mapO ek L ck)] [u : Und P T (.map K V)] [mk : MKey P K ek] [i : Inf P V sz by_ zv] (hx : ev f x = some (.map (some m))) (hy : ev f y = some (ek k)) (hg : getM L k = none) : S0 P f S.flatten ⟨d, .lookup T x y true, ty, p, af, gd⟩ (.tuple ⟨[zv, .bool false]⟩) := by
  have := S0.lookup2 (P := P) (d := d) (ty := ty) (p := p) (af := af) (gd := gd) (hh := hh) (u := u) (mk := mk) (i := i) hx hy
  rw [hg] at this; exact this

theorem IsSl.cv {E : TypeId} {k : Nat} {v : Value} {l : List Value} {c : List Blk} (h : IsSl E k v l c) : cellV v = true := by cases h <;> rfl
/-- 'append(x, a, b ..)': the values lie in a new row of their own -/
theorem S1.appendL {E E2 U T2 : TypeId} {c : List Blk} {hr : Hp} {l ws : List Value} {m cp b' k : Nat} {fz : Nat × Nat} [kk : Und P T (.slice E)] [k2 : Und P T2 (.slice E2)] [ki : Inf P E (k + 1) by_ zv]
    (hx : ev f x = some v) (hs : IsSl E (k + 1) v l c) (hy : ev f y = some (.slice (some ⟨b', 0, none⟩) m cp)) [hh : Has h b' (.cells ⟨ws⟩ U fz)] (hm : ws.length = m * (k + 1))
    (hp : h.flatten.Perm (c ++ hr.flatten)) (hcv : ws.all cellV = true) (hz : zv.cells.size = k + 1) (hroom : l.length + ws.length ≤ 1000000000) (hb : by_ ≤ 100000 := by decide) :
    S1 P r ⟨d, .call ⟨.builtin .append, #[x, y], #[T, T2]⟩, ty, p, af, gd⟩ f h (fun v' h' => ∃ c', IsSl E (k + 1) v' (l ++ ws) c' ∧ h' = c' :: hr) := by
  have h1 := S1.append (P := P) (r := r) (d := d) (ty := ty) (p := p) (af := af) (gd := gd) (T := T) (T2 := T2) (E2 := E2) (kk := kk) (k2 := k2) (ki := ki) hx hs hy (ws := ws) (m := m) (.inr ⟨b', 0, cp, ws, U, fz, rfl, hh.mem, by omega, by rw [List.drop_zero, ← hm, List.take_length]⟩) hp (List.all_eq_true.1 hcv) hz ⟨by
    have := Nat.mul_le_mul hroom hb
    omega, by omega⟩
  exact ⟨fun E' R a w next Q hxx st kont => h1.run E' R a w next Q hxx st fun v h' w' hpost st' => by
    obtain ⟨c', h2, -, h3⟩ := hpost
    exact kont v h' w' ⟨c', h2, h3⟩ st'⟩
/-- 'append(x, y..)': y a cut of a row -/
theorem S1.appendS {E E2 U T2 : TypeId} {c : List Blk} {hr : Hp} {l l' ws : List Value} {m cp b' o' k : Nat} {fz : Nat × Nat} [kk : Und P T (.slice E)] [k2 : Und P T2 (.slice E2)] [ki : Inf P E (k + 1) by_ zv]
    (hx : ev f x = some v) (hs : IsSl E (k + 1) v l c) (hy : ev f y = some (.slice (some ⟨b', o', none⟩) m cp)) [hh : Has h b' (.cells ⟨l'⟩ U fz)] (hle : o' + m * (k + 1) ≤ l'.length) (hw : (l'.drop o').take (m * (k + 1)) = ws)
    (hp : h.flatten.Perm (c ++ hr.flatten)) (hcv : ∀ v ∈ ws, cellV v = true) (hz : zv.cells.size = k + 1) (hroom : l.length + ws.length ≤ 1000000000) (hb : by_ ≤ 100000 := by decide) :
    S1 P r ⟨d, .call ⟨.builtin .append, #[x, y], #[T, T2]⟩, ty, p, af, gd⟩ f h (fun v' h' => ∃ c', IsSl E (k + 1) v' (l ++ ws) c' ∧ h' = c' :: hr) := by
  have h1 := S1.append (P := P) (r := r) (d := d) (ty := ty) (p := p) (af := af) (gd := gd) (T := T) (T2 := T2) (E2 := E2) (kk := kk) (k2 := k2) (ki := ki) hx hs hy (ws := ws) (m := m) (.inr ⟨b', o', cp, l', U, fz, rfl, hh.mem, hle, hw⟩) hp hcv hz ⟨by
    have := Nat.mul_le_mul hroom hb
    omega, by omega⟩
  exact ⟨fun E' R a w next Q hxx st kont => h1.run E' R a w next Q hxx st fun v h' w' hpost st' => by
    obtain ⟨c', h2, -, h3⟩ := hpost
    exact kont v h' w' ⟨c', h2, h3⟩ st'⟩
theorem S1.appendN {E E2 T2 : TypeId} {c : List Blk} {hr : Hp} {l : List Value} {cp k : Nat} [kk : Und P T (.slice E)] [k2 : Und P T2 (.slice E2)] [ki : Inf P E (k + 1) by_ zv]
    (hx : ev f x = some v) (hs : IsSl E (k + 1) v l c) (hy : ev f y = some (.slice none 0 cp))
    (hp : h.flatten.Perm (c ++ hr.flatten)) (hz : zv.cells.size = k + 1) (hroom : l.length ≤ 1000000000) (hb : by_ ≤ 100000 := by decide) :
    S1 P r ⟨d, .call ⟨.builtin .append, #[x, y], #[T, T2]⟩, ty, p, af, gd⟩ f h (fun v' h' => ∃ c', IsSl E (k + 1) v' l c' ∧ h' = c' :: hr) := by
  have h1 := S1.append (P := P) (r := r) (d := d) (ty := ty) (p := p) (af := af) (gd := gd) (T := T) (T2 := T2) (E2 := E2) (kk := kk) (k2 := k2) (ki := ki) hx hs hy (ws := []) (m := 0) (.inl ⟨cp, rfl, rfl, rfl⟩) hp (by simp) hz ⟨by
    have := Nat.mul_le_mul hroom hb
    simp; omega, by simp; omega⟩
  exact ⟨fun E' R a w next Q hxx st kont => h1.run E' R a w next Q hxx st fun v h' w' hpost st' => by
    obtain ⟨c', h2, -, h3⟩ := hpost
    rw [List.append_nil] at h2
    exact kont v h' w' ⟨c', h2, h3⟩ st'⟩
theorem S1.storeI {b off : Nat} {l l' : List Value} {U : TypeId} {z : Value} {h' : Hp} [hh : Has h b (.cells ⟨l⟩ U (0, 0))] [i : Inf P T 1 by_ z] (hx : ev f x = some (.pointer (some ⟨b, off, none⟩))) (hy : ev f y = some v) (hv : cellV v = true) (hs : l.set off v = l') (hlt : off < l.length) [hu : Upd h b (.cells ⟨l⟩ U (0, 0)) (.cells ⟨l'⟩ U (0, 0)) h'] :
    S1 P r ⟨d, .store T x y, ty, p, af, gd⟩ f h (is undef h') :=
  have : SetL l off v l' := ⟨hs, hlt⟩
  S1.store hx hy hv

theorem S0.indexN {E : TypeId} {b n c i k : Nat} [kk : Und P T (.slice E)] [ki : Inf P E k by_ zv] (hx : ev f x = some (.slice (some ⟨b, 0, none⟩) n c)) (hy : ev f y = some (.int .i64 (i : Int))) (hi : i < n) :
    S0 P f SL ⟨d, .indexAddr T x y, ty, p, af, gd⟩ (.pointer (some ⟨b, i * k, none⟩)) := by
  have := S0.indexAddr (P := P) (SL := SL) (d := d) (ty := ty) (p := p) (af := af) (gd := gd) (kk := kk) (ki := ki) hx hy (by omega)
  simpa using this
theorem S0.index1 {E : TypeId} {b n c i : Nat} [kk : Und P T (.slice E)] [ki : Inf P E 1 by_ zv] (hx : ev f x = some (.slice (some ⟨b, 0, none⟩) n c)) (hy : ev f y = some (.int .i64 (i : Int))) (hi : i < n) :
    S0 P f SL ⟨d, .indexAddr T x y, ty, p, af, gd⟩ (.pointer (some ⟨b, i, none⟩)) := by
  have := S0.indexAddr (P := P) (SL := SL) (d := d) (ty := ty) (p := p) (af := af) (gd := gd) (kk := kk) (ki := ki) hx hy (by omega)
  simpa using this

theorem S0.indexO {E : TypeId} {b o n c i k : Nat} [kk : Und P T (.slice E)] [ki : Inf P E k by_ zv] (hx : ev f x = some (.slice (some ⟨b, o, none⟩) n c)) (hy : ev f y = some (.int .i64 (i : Int))) (hi : i < n) :
    S0 P f SL ⟨d, .indexAddr T x y, ty, p, af, gd⟩ (.pointer (some ⟨b, o + i * k, none⟩)) := by
  have := S0.indexAddr (P := P) (SL := SL) (d := d) (ty := ty) (p := p) (af := af) (gd := gd) (kk := kk) (ki := ki) hx hy (by omega)
  simpa using this
theorem S0.indexO1 {E : TypeId} {b o n c i : Nat} [kk : Und P T (.slice E)] [ki : Inf P E 1 by_ zv] (hx : ev f x = some (.slice (some ⟨b, o, none⟩) n c)) (hy : ev f y = some (.int .i64 (i : Int))) (hi : i < n) :
    S0 P f SL ⟨d, .indexAddr T x y, ty, p, af, gd⟩ (.pointer (some ⟨b, o + i, none⟩)) := by
  have := S0.indexAddr (P := P) (SL := SL) (d := d) (ty := ty) (p := p) (af := af) (gd := gd) (kk := kk) (ki := ki) hx hy (by omega)
  simpa using this

/-- a struct stored -/
theorem S1.storeA {b off n : Nat} {l l' vs : List Value} {U : TypeId} {z : Value} {h' : Hp} [hh : Has h b (.cells ⟨l⟩ U (0, 0))] [i : Inf P T n by_ z] (hx : ev f x = some (.pointer (some ⟨b, off, none⟩))) (hy : ev f y = some (.agg ⟨vs⟩)) (hv : vs.all cellV = true) [hl : LenIs vs n] [hs : SetR l off vs l'] [hu : Upd h b (.cells ⟨l⟩ U (0, 0)) (.cells ⟨l'⟩ U (0, 0)) h'] :
    S1 P r ⟨d, .store T x y, ty, p, af, gd⟩ f h (is undef h') :=
  S1.ofSkip (by intro c; simp) fun E R ρ w k st => by
    have hrun := run_storeCells (P := P) (U := U) vs w off 0 l (st.has (k := hh)) (by have := hs.eq.2; omega) (List.all_eq_true.1 hv)
    refine ⟨_, ?_, st.upd (k := hu)⟩
    have e1 := hs.eq.1
    rw [Nat.add_zero, ← e1] at hrun
    simp only [execOp, k _ _ hx, k _ _ hy, Instr.storeAt, Instr.sureAddr, storeVar, Sem.run_bind, Sem.run_pure, Result.andThen_ok, run_sizeOf (k := i), Value.cells]
    simp [hl.eq, hrun]
theorem take3_of {L : List Value} {m : Nat} {a b c : Value} (h0 : L[m]? = some a) (h1 : L[m + 1]? = some b) (h2 : L[m + 2]? = some c) : (L.drop m).take 3 = [a, b, c] := by
  apply List.ext_getElem?
  intro i
  match i with
  | 0 => simpa using h0
  | 1 => simpa using h1
  | 2 => simpa using h2
  | i + 3 => simp; omega
theorem take2_of {L : List Value} {m : Nat} {a b : Value} (h0 : L[m]? = some a) (h1 : L[m + 1]? = some b) : (L.drop m).take 2 = [a, b] := by
  apply List.ext_getElem?
  intro i
  match i with
  | 0 => simpa using h0
  | 1 => simpa using h1
  | i + 2 => simp; omega

/-! min, max of integers -/
theorem S0.min2 {x y : Operand} {q : IntKind} {a b c : Int} {T1 T2 : TypeId} (hx : ev f x = some (.int q a)) (hy : ev f y = some (.int q b)) (hc : (if b < a then b else a) = c) : S0 P f SL ⟨d, .call ⟨.builtin .min, #[x, y], #[T1, T2]⟩, ty, p, af, gd⟩ (.int q c) :=
  S0.pure (by intro c; simp) (by intro c hc; simp at hc; exact ⟨_, by rw [← hc]⟩) fun ρ w k' => by
    subst hc
    simp [execOp, resolve, invoke, builtin, Builtin.min_, Builtin.min2, k' _ _ hx, k' _ _ hy]
theorem S0.max2 {x y : Operand} {q : IntKind} {a b c : Int} {T1 T2 : TypeId} (hx : ev f x = some (.int q a)) (hy : ev f y = some (.int q b)) (hc : (if b > a then b else a) = c) : S0 P f SL ⟨d, .call ⟨.builtin .max, #[x, y], #[T1, T2]⟩, ty, p, af, gd⟩ (.int q c) :=
  S0.pure (by intro c; simp) (by intro c hc; simp at hc; exact ⟨_, by rw [← hc]⟩) fun ρ w k' => by
    subst hc
    simp [execOp, resolve, invoke, builtin, Builtin.max_, Builtin.max2, k' _ _ hx, k' _ _ hy]
end
end Go.Proofs.YtnoicafjkgbokaaDoor
