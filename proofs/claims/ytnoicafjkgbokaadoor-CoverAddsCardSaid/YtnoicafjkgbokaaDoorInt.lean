/-
  More rules for integers: division, bits.
-/
import Derived.Test.YtnoicafjkgbokaaDoorElem
namespace Go.Proofs.YtnoicafjkgbokaaDoor
open Go

def bitsI (op : BinOp) (k : IntKind) (x y : Int) : Option Int :=
  let a := BitVec.ofInt k.bits x
  let b := BitVec.ofInt k.bits y
  match op with
  | .and => some (k.wrap (a &&& b).toNat)
  | .or => some (k.wrap (a ||| b).toNat)
  | .xor => some (k.wrap (a ^^^ b).toNat)
  | _ => none
theorem mask_i64 {x y z : Int} (h : bitsI .and .i64 x y = some z) (hy : 0 ≤ y ∧ y ≤ 9223372036854775807) : 0 ≤ z ∧ z ≤ y := by
  simp only [bitsI, Option.some.injEq] at h
  have h1 : (BitVec.ofInt IntKind.i64.bits x &&& BitVec.ofInt IntKind.i64.bits y).toNat ≤ (BitVec.ofInt IntKind.i64.bits y).toNat := by
    rw [BitVec.toNat_and]; exact Nat.and_le_right
  have h2 : (BitVec.ofInt IntKind.i64.bits y).toNat = y.toNat := by
    rw [BitVec.toNat_ofInt]
    have : ((2 ^ IntKind.i64.bits : Nat) : Int) = 18446744073709551616 := by decide
    rw [this, Int.emod_eq_of_lt hy.1 (by omega)]
  rw [h2] at h1
  rw [wrap_i64 (by omega)] at h
  omega

section
variable {P : Program} {r : Option Nat} {Q : Exit → Fr → Hp → Prop} {f : Fr} {h h' : Hp} {d : Option Tmp} {ty : TypeId} {p : String} {af : Array Edge} {gd : Option (Nat × Bool)} {S : Hp} {SL : List Blk}
theorem S0.bits {x y k m n op T U z} (hx : ev f x = some (.int k m)) (hy : ev f y = some (.int k n)) (hb : bitsI op k m n = some z) : S0 P f SL ⟨d, .binOp op T x y U, ty, p, af, gd⟩ (.int k z) :=
  S0.pure (by intro c; simp) (by intro c; simp) fun ρ w k' => by
    cases op <;> simp only [bitsI, Option.some.injEq, reduceCtorEq] at hb <;> subst hb <;> simp [execOp, k' _ _ hx, k' _ _ hy, eqGuard, binOp, Op.intBits]
theorem S0.rem {x y k m n T U} (hx : ev f x = some (.int k m)) (hy : ev f y = some (.int k n)) (hn : n ≠ 0) : S0 P f SL ⟨d, .binOp .rem T x y U, ty, p, af, gd⟩ (.int k (m.tmod n)) :=
  S0.pure (by intro c; simp) (by intro c; simp) fun ρ w k' => by simp [execOp, k' _ _ hx, k' _ _ hy, eqGuard, binOp, Op.intDiv, hn]
theorem S0.quo {x y k m n T U z} (hx : ev f x = some (.int k m)) (hy : ev f y = some (.int k n)) (hn : n ≠ 0) (hz : k.wrap (m.tdiv n) = z) : S0 P f SL ⟨d, .binOp .quo T x y U, ty, p, af, gd⟩ (.int k z) :=
  S0.pure (by intro c; simp) (by intro c; simp) fun ρ w k' => by subst hz; simp [execOp, k' _ _ hx, k' _ _ hy, eqGuard, binOp, Op.intDiv, hn]
end
end Go.Proofs.YtnoicafjkgbokaaDoor
