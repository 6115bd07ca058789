/-
  Slices that are read: cuts of rows among them.
-/
import Derived.Test.YtnoicafjkgbokaaDoorTop0
namespace Go.Proofs.YtnoicafjkgbokaaDoor
open Go

/-- a slice that is read: its elements are laid by 'en' -/
def Rd {α : Type} (k : Nat) (en : α → List Value) (v : Value) (R : List α) (c : List Blk) : Prop :=
  ∃ a cap, v = .slice a R.length cap ∧ R.length ≤ cap ∧ (R = [] ∨ ∃ b o L U fz, a = some ⟨b, o, none⟩ ∧ (b, Obj.cells ⟨L⟩ U fz) ∈ c ∧ ∀ i x, R[i]? = some x → (L.drop (o + i * k)).take k = en x)
theorem Rd.nil {α : Type} {k : Nat} {en : α → List Value} {c : List Blk} : Rd k en (.slice none 0 0) ([] : List α) c := ⟨none, 0, rfl, Nat.le_refl _, .inl rfl⟩
theorem IsSl.rd {α : Type} {en : α → List Value} {E : TypeId} {k : Nat} (hk : ∀ x, (en x).length = k + 1) {R : List α} {v : Value} {row : List Blk} (h : IsSl E (k + 1) v (R.flatMap en) row) : Rd (k + 1) en v R row := by
  obtain ⟨a, cap, rfl, hc, hr⟩ := IsSl.elems hk h
  refine ⟨a, cap, rfl, hc, ?_⟩
  rcases hr with ⟨h0, -⟩ | ⟨b, sp, rfl, rfl, -⟩
  · exact .inl h0
  · refine .inr ⟨b, 0, _, _, _, rfl, List.mem_cons_self, fun i x hx => ?_⟩
    rw [Nat.zero_add]
    exact flat_take (k := k + 1) hk sp R i x hx
theorem Rd.mono {α : Type} {k : Nat} {en : α → List Value} {v : Value} {R : List α} {c c' : List Blk} (h : Rd k en v R c) (hs : ∀ p ∈ c, p ∈ c') : Rd k en v R c' := by
  obtain ⟨a, cap, e, hc, h⟩ := h
  exact ⟨a, cap, e, hc, h.imp id fun ⟨b, o, L, U, fz, e1, e2, e3⟩ => ⟨b, o, L, U, fz, e1, hs _ e2, e3⟩⟩
theorem rd_get {α : Type} {k : Nat} {en : α → List Value} {L : List Value} {m : Nat} {x : α} (h : (L.drop m).take k = en x) {j : Nat} (hj : j < k) : L[m + j]? = (en x)[j]? := by
  rw [← h, List.getElem?_take_of_lt hj, List.getElem?_drop]
section
variable {P : Program} {f : Fr} {d : Option Tmp} {ty : TypeId} {p : String} {af : Array Edge} {gd : Option (Nat × Bool)} {SL : List Blk} {T E : TypeId} {x : Operand} {k by_ : Nat} {zv : Value}
/-- a cut of a slice, whatever its base -/
theorem S0.sliceG {a : Option Addr} {n c : Nat} {lo hi : Option Operand} {i j : Nat} [kk : Und P T (.slice E)] [ki : Inf P E k by_ zv] (hx : ev f x = some (.slice a n c))
    (hlo : match lo with | none => i = 0 | some y => ev f y = some (.int .i64 i)) (hhi : match hi with | none => j = n | some y => ev f y = some (.int .i64 j)) (hij : i ≤ j ∧ j ≤ c) :
    S0 P f SL ⟨d, .slice T x lo hi none, ty, p, af, gd⟩ (.slice (if c = i then a else a.map (·.add (i * k))) (j - i) (c - i)) :=
  S0.pure (by intro c; simp) (by intro c; simp) fun ρ w k' => by
    obtain ⟨h1, h2⟩ := hij
    have e1 : ∀ (bd : BoundsCode) (m : Nat), j ≤ m → (Instr.sliceBound (.int .i64 j) m bd).run P w = .ok j w := fun bd m hm => by
      simp only [Instr.sliceBound, asIntOf, Sem.run_bind, Sem.run_pure, Result.andThen_ok]
      rw [if_pos ⟨by omega, by omega⟩]; simp
    have e2 : ∀ (bd : BoundsCode) (m : Nat), i ≤ m → (Instr.sliceBound (.int .i64 i) m bd).run P w = .ok i w := fun bd m hm => by
      simp only [Instr.sliceBound, asIntOf, Sem.run_bind, Sem.run_pure, Result.andThen_ok]
      rw [if_pos ⟨by omega, by omega⟩]; simp
    have eb : (Instr.sliceBounds true n c (lo.map ρ) (hi.map ρ) none).run P w = .ok (i, j, c) w := by
      cases lo with
      | none => cases hi with
        | none => simp only at hlo hhi; subst hlo hhi; simp [Instr.sliceBounds]
        | some yh => simp only at hlo hhi; subst hlo; simp [Instr.sliceBounds, k' _ _ hhi, e1 _ c h2]
      | some yl => cases hi with
        | none => simp only at hlo hhi; subst hhi; simp [Instr.sliceBounds, k' _ _ hlo, e2 _ j h1]
        | some yh => simp only at hlo hhi; simp [Instr.sliceBounds, k' _ _ hlo, k' _ _ hhi, e1 _ c h2, e2 _ j h1]
    simp only [execOp, k' _ _ hx, Instr.sliceAt, Sem.run_bind, run_underlying kk.eq, Result.andThen_ok, Instr.slice, Option.map_none, eb, run_sizeOf (k := ki), Sem.run_pure]
end
theorem Rd.cutG {α : Type} {k : Nat} {en : α → List Value} {a : Option Addr} {n cap : Nat} {R : List α} {c : List Blk} (h : Rd k en (.slice a n cap) R c) (i j : Nat) (hij : i ≤ j) (hj : j ≤ R.length) :
    n = R.length ∧ n ≤ cap ∧ Rd k en (.slice (if cap = i then a else a.map (·.add (i * k))) (j - i) (cap - i)) ((R.drop i).take (j - i)) c := by
  obtain ⟨a', cap', e, hc, h⟩ := h
  simp only [Value.slice.injEq] at e
  obtain ⟨rfl, rfl, rfl⟩ := e
  have hlen : ((R.drop i).take (j - i)).length = j - i := by simp; omega
  refine ⟨rfl, hc, _, _, by rw [hlen], by rw [hlen]; omega, ?_⟩
  by_cases h0 : j = i
  · left; subst h0; simp
  right
  rcases h with h | ⟨b', o', L, U, fz, rfl, e2, e3⟩
  · subst h; simp at hj; omega
  · rw [if_neg (by omega)]
    refine ⟨b', o' + i * k, L, U, fz, ?_, e2, fun m x hx => ?_⟩
    · simp only [Option.map_some, Addr.add]
      split <;> simp_all
    · have hm : m < j - i := by have := (List.getElem?_eq_some_iff.1 hx).1; omega
      rw [List.getElem?_take_of_lt hm, List.getElem?_drop] at hx
      have := e3 (i + m) x hx
      rw [Nat.add_mul, ← Nat.add_assoc] at this
      exact this
/-- texts that are read -/
abbrev RdS (v : Value) (R : List Str) (c : List Blk) : Prop := Rd 1 (fun x : Str => [sv x]) v R c
theorem IsSl.rdS {E : TypeId} {R : List Str} {v : Value} {row : List Blk} (h : IsSl E 1 v (strs R) row) : RdS v R row := by
  rw [strs_flat] at h
  exact IsSl.rd (k := 0) (fun _ => rfl) h
theorem rdS_get {L : List Value} {o i : Nat} {x : Str} (h : (L.drop (o + i * 1)).take 1 = [sv x]) : L[o + i]? = some (sv x) := by
  have := rd_get (en := fun x : Str => [sv x]) h (j := 0) (by omega)
  simpa using this
theorem rdS_hd {L : List Value} {o : Nat} {x : Str} {l : List Str} (h : ∀ i y, (x :: l)[i]? = some y → (L.drop (o + i * 1)).take 1 = [sv y]) : L[o]? = some (sv x) := rdS_get (i := 0) (h 0 x rfl)
/-- without its first one -/
theorem RdS.tail {a : Option Addr} {n cap : Nat} {x : Str} {R : List Str} {c : List Blk} (h : RdS (.slice a n cap) (x :: R) c) : RdS (.slice (if cap = 1 then a else a.map (·.add (1 * 1))) (n - 1) (cap - 1)) R c := by
  obtain ⟨e, -, h2⟩ := h.cutG 1 (x :: R).length (by simp) (Nat.le_refl _)
  have e2 : ((x :: R).drop 1).take ((x :: R).length - 1) = R := by simp
  rw [e2, ← e] at h2
  exact h2
end Go.Proofs.YtnoicafjkgbokaaDoor
