/-
  Events, plainly.
-/
import Derived.Test.YtgcclpfpnfmjcaaDoorTop0
namespace Go.Proofs.YtgcclpfpnfmjcaaDoor
open Go

structure Ev where
  o : Int
  s : Int
  t : Str
  l : Str
  e : Int
deriving DecidableEq
abbrev evB (x : Ev) : List Value := [.int .i64 x.o, .int .i64 x.s, sv x.t, sv x.l, .int .i64 x.e]
theorem evB_len (x : Ev) : (evB x).length = 4 + 1 := rfl
structure EvOk (x : Ev) : Prop where
  o : -9223372036854775808 ≤ x.o ∧ x.o ≤ 9223372036854775807
  s : -9223372036854775808 ≤ x.s ∧ x.s ≤ 9223372036854775807
  e : -9223372036854775808 ≤ x.e ∧ x.e ≤ 9223372036854775807
  t : x.t.length ≤ 120
  l : x.l.length ≤ 120

def inB (n a b : Int) : Bool := decide (a ≤ n) && decide (n ≤ b)
def rightE (x : Ev) : Bool := inB x.o 0 1099511627776 && inB x.s 1 1099511627776 && inB x.e 0 1000 && rightS x.t && decide (x.l.length ≤ 64)
def sameE (a b : Ev) : Bool := decide (a.o = b.o) && (decide (a.s = b.s) && (decide (a.t = b.t) && decide (a.l = b.l)))
theorem inB_iff {n a b : Int} : inB n a b = true ↔ a ≤ n ∧ n ≤ b := by simp [inB]
theorem rightE_bd {x : Ev} (h : rightE x = true) : (0 ≤ x.o ∧ x.o ≤ 1099511627776) ∧ (1 ≤ x.s ∧ x.s ≤ 1099511627776) ∧ (0 ≤ x.e ∧ x.e ≤ 1000) := by
  simp only [rightE, Bool.and_eq_true, inB_iff] at h
  exact ⟨h.1.1.1.1, h.1.1.1.2, h.1.1.2⟩
end Go.Proofs.YtgcclpfpnfmjcaaDoor
