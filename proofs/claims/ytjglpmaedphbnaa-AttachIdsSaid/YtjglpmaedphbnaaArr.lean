/-
  Arrays.
-/
import Derived.Test.YtjglpmaedphbnaaElem
namespace Go.Proofs.Ytjglpmaedphbnaa
open Go

class BuildK (k : Nat) (ps : List (Nat × Value)) (l : List Value) (l' : outParam (List Value)) : Prop where
  eq : Instr.fill (fun i => some (i * k, k)) ⟨l⟩ ps = some ⟨l'⟩
instance {k l} : BuildK k [] l l := ⟨rfl⟩
instance {i v u ps l l1 l'} [k1 : CellsL v [u]] [k2 : SetR l i [u] l1] [k3 : BuildK 1 ps l1 l'] : BuildK 1 ((i, v) :: ps) l l' := ⟨by
  simp only [Instr.fill, k1.eq]
  simp only [List.size_toArray, List.length_cons, List.length_nil, Nat.zero_add, ne_eq, not_true_eq_false, decide_false, Bool.false_or, decide_eq_true_eq]
  have h2 := k2.eq
  simp only [List.length_cons, List.length_nil, Nat.zero_add] at h2
  rw [if_neg (by have := h2.2; omega)]
  have := k3.eq
  rw [h2.1] at this
  rw [← this]
  congr 1
  rw [← Array.foldl_toList]
  have := foldl_sets (i * 1) [u] 0 l (by have := h2.2; simp; omega)
  simpa using this⟩

section
variable {P : Program} {r : Option Nat} {Q : Exit → Fr → Hp → Prop} {f : Fr} {h h' : Hp} {d : Option Tmp} {ty : TypeId} {p : String} {af : Array Edge} {gd : Option (Nat × Bool)} {S : Hp} {SL : List Blk}
theorem S0.buildArr {T E ps vs n sz by_ z zl l k bk zk} [kz : Inf P T sz by_ z] [ku : Und P T (.array n E)] [ke : Inf P E k bk zk] (hv : evs f (ps.toList.map (·.2)) = some vs) {qs : List (Nat × Value)} (hq : (ps.toList.map (·.1)).zip vs = qs) [kzl : CellsL z zl] [kb : BuildK k qs zl l] : S0 P f SL ⟨d, .build T ps, ty, p, af, gd⟩ (.agg ⟨l⟩) :=
  S0.pure (by intro c; simp) (by intro c; simp) fun ρ w k' => by
    have he := evps k' hv
    rw [hq] at he
    have hb := kb.eq
    simp only [execOp, Instr.build, Sem.run_bind, run_zeroV (k := kz), Result.andThen_ok, run_underlying ku.eq, run_sizeOf (k := ke), he, kzl.eq]
    rw [hb]
    simp
theorem S0.indexArr {T E x y b o n i k bk zk} [ku : Und P T (.array n E)] [ke : Inf P E k bk zk] (hx : ev f x = some (.pointer (some ⟨b, o, none⟩))) (hy : ev f y = some (.int .i64 i)) (hi : 0 ≤ i ∧ i < n) :
    S0 P f SL ⟨d, .indexAddr T x y, ty, p, af, gd⟩ (.pointer (some ⟨b, o + i.toNat * k, none⟩)) :=
  S0.pure (by intro c; simp) (by intro c; simp) fun ρ w k' => by
    simp only [execOp, k' _ _ hx, k' _ _ hy, Instr.indexAt, asIntOf, Sem.run_bind, Sem.run_pure, Result.andThen_ok, run_underlying ku.eq, Instr.sureAddr]
    rw [if_pos hi]
    simp only [Sem.run_bind, run_sizeOf (k := ke), Result.andThen_ok, Sem.run_pure, Addr.add]
    split <;> simp_all
end
end Go.Proofs.Ytjglpmaedphbnaa
