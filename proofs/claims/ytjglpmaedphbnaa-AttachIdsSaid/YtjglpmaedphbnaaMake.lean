/-
  make([]T, n): elements of one cell.
-/
import Derived.Test.YtjglpmaedphbnaaElem
namespace Go.Proofs.Ytjglpmaedphbnaa
open Go

section
variable {P : Program} {r : Option Nat} {f : Fr} {h : Hp} {d : Option Tmp} {ty : TypeId} {p : String} {af : Array Edge} {gd : Option (Nat × Bool)}
theorem S1.makeSlice1 {T E x y by_ z v0} {n : Nat} [ku : Und P T (.slice E)] [ki : Inf P E 1 by_ z] [kz : CellsL z [v0]] (hx : ev f x = some (.int .i64 (n : Int))) (hy : ev f y = some (.int .i64 (n : Int))) (hn : 0 < n ∧ n ≤ 1000000) (hb : by_ ≤ 100000 := by decide) :
    S1 P r ⟨d, .makeSlice T x y, ty, p, af, gd⟩ f h (newv (fun b => .slice (some ⟨b, 0, none⟩) n n) (.cells ⟨List.replicate n v0⟩ E (0, 0)) h) :=
  S1.ofRun (by intro c; simp) fun E' R ρ w k st => by
    have hw : IntKind.i64.wrap (n : Int) = n := wrap_i64 (by omega)
    have hmul : by_ * n ≤ 281474976710656 := by
      have := Nat.mul_le_mul hb hn.2
      omega
    have hz : ((Array.range (n * 1)).map (z.cells[· % z.cells.size]!)) = ⟨List.replicate n v0⟩ := by
      rw [kz.eq]
      apply Array.ext
      · simp
      · intro i h1 h2
        simp [Nat.mod_one]
    refine ⟨_, _, _, ?_, ⟨w.heap.size, rfl, rfl⟩, st.new _⟩
    have hti := ki.eq
    cases hi : P.info? E with
    | none => rw [hi] at hti; cases hti
    | some i =>
      rw [hi] at hti
      simp only [Option.map_some, Option.some.injEq, Prod.mk.injEq] at hti
      have hl : (decide ((n : Int) < 0) || decide ((by_ : Int) * n > 2 ^ 48)) = false := by
        have h2 := Int.ofNat_le.2 hmul
        rw [Int.natCast_mul] at h2
        have h3 : ¬ ((by_ : Int) * n > 2 ^ 48) := by omega
        rw [decide_eq_false (by omega : ¬ (n : Int) < 0), decide_eq_false h3]; rfl
      have hroom : ((if n * by_ > roomBytes then mark .noRoom else pure () : Sem Unit)).run P w = .ok () w := by split <;> rfl
      simp only [execOp, k _ _ hx, k _ _ hy, Instr.makeSlice, Sem.run_bind, run_underlying ku.eq, Result.andThen_ok, asInt, Sem.run_pure, run_ti hi, hti.2.1]
      have ha : ∀ w : World, (asIntOf (Value.int .i64 (n : Int))).run P w = .ok (.i64, (n : Int)) w := fun w => rfl
      simp only [ha, Result.andThen_ok, hw]
      have hl2 : (decide ((n : Int) < 0) || decide ((by_ : Int) * n > 2 ^ 48) || decide ((n : Int) < 0) || decide ((n : Int) > n)) = false := by
        rw [hl, decide_eq_false (by omega : ¬ (n : Int) < 0), decide_eq_false (by omega : ¬ (n : Int) > n)]; rfl
      rw [hl2]
      simp only [Bool.false_eq_true, if_false, Sem.run_bind, askRoom, Int.toNat_natCast, hroom, Result.andThen_ok, run_sizeOf (k := ki)]
      rw [if_neg (by omega : ¬ n * 1 = 0)]
      simp only [Sem.run_bind, run_zeroV (k := ki), Result.andThen_ok, Sem.run_pure, hz]
      simp [newRow]
end
end Go.Proofs.Ytjglpmaedphbnaa
