import Derived.Test.YtgcclpfpnfmjcaaDoorRef3
import Derived.Test.YtgcclpfpnfmjcaaDoorEv0
namespace Go.Proofs.YtgcclpfpnfmjcaaDoor
open Go

theorem within_spec (n a b : Int) : FN Tryd.prog 45 [.int .i64 n, .int .i64 a, .int .i64 b] [] (is (.bool (inB n a b)) []) := by
  refine FN.intro 15 [(0, .int .i64 n), (1, .int .i64 a), (2, .int .i64 b)] Tryd.func45 rfl (enters Tryd.func45 (by kernel_rfl) rfl) Tryd.ntmps45 rfl rfl ?_
  refine WP.seq <| WP.region <| v0 (S0.assign rfl) rfl <| vE <| WP.seq <| WP.region <| v0 (S0.move rfl) rfl <| v0 (S0.move rfl) rfl <| v0 (S0.cmp rfl rfl rfl) rfl <| v0 (S0.move rfl) rfl <| ?_
  first | refine csP (t := 10) rfl (fun hq0 => ?_) (fun hq0 => ?_) | refine csN (t := 10) rfl (fun hq0 => ?_) (fun hq0 => ?_) | refine cs (t := 10) rfl (fun hq0 => ?_) (fun hq0 => ?_)
  ·
    refine gT rfl <| v0 (S0.move rfl) rfl <| gT rfl <| v0 (S0.move rfl) rfl <| gT rfl <| v0 (S0.cmp rfl rfl rfl) rfl <| v0 (S0.pickT rfl rfl) rfl <| v0 (S0.assign rfl) rfl <| vE <| WP.ret <| ?_
    refine r1 rfl rfl ⟨?_, rfl⟩
    exact congrArg Value.bool (by simp [inB, *])
  ·
    refine gF rfl rfl <| gF rfl rfl <| gF rfl rfl <| v0 (S0.pickF rfl rfl) rfl <| v0 (S0.assign rfl) rfl <| vE <| WP.ret <| ?_
    refine r1 rfl rfl ⟨?_, rfl⟩
    exact congrArg Value.bool (by simp [inB, *])
theorem rin_spec (n a b : Int) : FN Tryd.prog 44 [.int .i64 n, .int .i64 a, .int .i64 b] [] (is (.bool (inB n a b)) []) := by
  refine FN.intro 15 [(0, .int .i64 n), (1, .int .i64 a), (2, .int .i64 b)] Tryd.func44 rfl (enters Tryd.func44 (by kernel_rfl) rfl) Tryd.ntmps44 rfl rfl ?_
  refine WP.seq <| WP.region <| v0 (S0.assign rfl) rfl <| vE <| WP.seq <| WP.region <| v0 (S0.move rfl) rfl <| v0 (S0.move rfl) rfl <| v0 (S0.cmp rfl rfl rfl) rfl <| v0 (S0.move rfl) rfl <| ?_
  first | refine csP (t := 10) rfl (fun hq0 => ?_) (fun hq0 => ?_) | refine csN (t := 10) rfl (fun hq0 => ?_) (fun hq0 => ?_) | refine cs (t := 10) rfl (fun hq0 => ?_) (fun hq0 => ?_)
  ·
    refine gT rfl <| v0 (S0.move rfl) rfl <| gT rfl <| v0 (S0.move rfl) rfl <| gT rfl <| v0 (S0.cmp rfl rfl rfl) rfl <| v0 (S0.pickT rfl rfl) rfl <| v0 (S0.assign rfl) rfl <| vE <| WP.ret <| ?_
    refine r1 rfl rfl ⟨?_, rfl⟩
    exact congrArg Value.bool (by simp [inB, *])
  ·
    refine gF rfl rfl <| gF rfl rfl <| gF rfl rfl <| v0 (S0.pickF rfl rfl) rfl <| v0 (S0.assign rfl) rfl <| vE <| WP.ret <| ?_
    refine r1 rfl rfl ⟨?_, rfl⟩
    exact congrArg Value.bool (by simp [inB, *])
-- auto
-- auto
-- auto
-- auto
theorem evRight_spec {x : Ev} (ht : x.t.length ≤ 120) : FN Tryd.prog 25 [.agg ⟨evB x⟩] [] (is (.bool (rightE x)) []) := by
  refine FN.intro 27 [(0, .agg ⟨evB x⟩)] Tryd.func25 rfl (enters Tryd.func25 (by kernel_rfl) rfl) Tryd.ntmps25 rfl rfl ?_
  refine WP.seq <| WP.region <| vn (S1.box rfl rfl) rfl fun b1 => v0 (S0.assign rfl) rfl <| vE <| WP.seq <| WP.region <| v0 (S0.fieldAddr rfl) rfl <| v0 (S0.load rfl rfl) rfl <| vcd (S1.callF rfl (within_spec _ _ _) take0) rfl <| v0 (S0.move rfl) rfl <| ?_
  first | refine csP (t := 6) rfl (fun hq0 => ?_) (fun hq0 => ?_) | refine csN (t := 6) rfl (fun hq0 => ?_) (fun hq0 => ?_) | refine cs (t := 6) rfl (fun hq0 => ?_) (fun hq0 => ?_)
  ·
    refine gT rfl <| v0 (S0.fieldAddr rfl) rfl <| gT rfl <| v0 (S0.load rfl rfl) rfl <| gT rfl <| vcd (S1.callF rfl (within_spec _ _ _) take0) rfl <| v0 (S0.pickT rfl rfl) rfl <| v0 (S0.move rfl) rfl <| ?_
    first | refine csP (t := 11) rfl (fun hq1 => ?_) (fun hq1 => ?_) | refine csN (t := 11) rfl (fun hq1 => ?_) (fun hq1 => ?_) | refine cs (t := 11) rfl (fun hq1 => ?_) (fun hq1 => ?_)
    ·
      refine gT rfl <| v0 (S0.fieldAddr rfl) rfl <| gT rfl <| v0 (S0.load rfl rfl) rfl <| gT rfl <| vcd (S1.callF rfl (within_spec _ _ _) take0) rfl <| v0 (S0.pickT rfl rfl) rfl <| v0 (S0.move rfl) rfl <| ?_
      first | refine csP (t := 16) rfl (fun hq2 => ?_) (fun hq2 => ?_) | refine csN (t := 16) rfl (fun hq2 => ?_) (fun hq2 => ?_) | refine cs (t := 16) rfl (fun hq2 => ?_) (fun hq2 => ?_)
      ·
        refine gT rfl <| v0 (S0.fieldAddr rfl) rfl <| gT rfl <| v0 (S0.load rfl rfl) rfl <| gT rfl <| vcd (S1.callF rfl (right_spec (by omega)) take0) rfl <| v0 (S0.pickT rfl rfl) rfl <| v0 (S0.move rfl) rfl <| ?_
        first | refine csP (t := 21) rfl (fun hq3 => ?_) (fun hq3 => ?_) | refine csN (t := 21) rfl (fun hq3 => ?_) (fun hq3 => ?_) | refine cs (t := 21) rfl (fun hq3 => ?_) (fun hq3 => ?_)
        ·
          refine gT rfl <| v0 (S0.fieldAddr rfl) rfl <| gT rfl <| v0 (S0.load rfl rfl) rfl <| gT rfl <| v0 (S0.lenSt rfl) rfl <| gT rfl <| v0 (S0.cmp rfl rfl rfl) rfl <| v0 (S0.pickT rfl rfl) rfl <| v0 (S0.assign rfl) rfl <| vE <| WP.ret <| ?_
          refine Leaves.drop take0 ?_
          refine r1 rfl rfl ⟨?_, rfl⟩
          exact congrArg Value.bool (by simp [rightE, *]; try omega)
        ·
          refine gF rfl rfl <| gF rfl rfl <| gF rfl rfl <| gF rfl rfl <| v0 (S0.pickF rfl rfl) rfl <| v0 (S0.assign rfl) rfl <| vE <| WP.ret <| ?_
          refine Leaves.drop take0 ?_
          refine r1 rfl rfl ⟨?_, rfl⟩
          exact congrArg Value.bool (by simp [rightE, *]; try omega)
      ·
        refine gF rfl rfl <| gF rfl rfl <| gF rfl rfl <| v0 (S0.pickF rfl rfl) rfl <| v0 (S0.move rfl) rfl <| gF rfl rfl <| gF rfl rfl <| gF rfl rfl <| gF rfl rfl <| v0 (S0.pickF rfl rfl) rfl <| v0 (S0.assign rfl) rfl <| vE <| WP.ret <| ?_
        refine Leaves.drop take0 ?_
        refine r1 rfl rfl ⟨?_, rfl⟩
        exact congrArg Value.bool (by simp [rightE, *]; try omega)
    ·
      refine gF rfl rfl <| gF rfl rfl <| gF rfl rfl <| v0 (S0.pickF rfl rfl) rfl <| v0 (S0.move rfl) rfl <| gF rfl rfl <| gF rfl rfl <| gF rfl rfl <| v0 (S0.pickF rfl rfl) rfl <| v0 (S0.move rfl) rfl <| gF rfl rfl <| gF rfl rfl <| gF rfl rfl <| gF rfl rfl <| v0 (S0.pickF rfl rfl) rfl <| v0 (S0.assign rfl) rfl <| vE <| WP.ret <| ?_
      refine Leaves.drop take0 ?_
      refine r1 rfl rfl ⟨?_, rfl⟩
      exact congrArg Value.bool (by simp [rightE, *]; try omega)
  ·
    refine gF rfl rfl <| gF rfl rfl <| gF rfl rfl <| v0 (S0.pickF rfl rfl) rfl <| v0 (S0.move rfl) rfl <| gF rfl rfl <| gF rfl rfl <| gF rfl rfl <| v0 (S0.pickF rfl rfl) rfl <| v0 (S0.move rfl) rfl <| gF rfl rfl <| gF rfl rfl <| gF rfl rfl <| v0 (S0.pickF rfl rfl) rfl <| v0 (S0.move rfl) rfl <| gF rfl rfl <| gF rfl rfl <| gF rfl rfl <| gF rfl rfl <| v0 (S0.pickF rfl rfl) rfl <| v0 (S0.assign rfl) rfl <| vE <| WP.ret <| ?_
    refine Leaves.drop take0 ?_
    refine r1 rfl rfl ⟨?_, rfl⟩
    exact congrArg Value.bool (by simp [rightE, *]; try omega)
theorem revRight_spec {x : Ev} (ht : x.t.length ≤ 120) : FN Tryd.prog 26 [.agg ⟨evB x⟩] [] (is (.bool (rightE x)) []) := by
  refine FN.intro 27 [(0, .agg ⟨evB x⟩)] Tryd.func26 rfl (enters Tryd.func26 (by kernel_rfl) rfl) Tryd.ntmps26 rfl rfl ?_
  refine WP.seq <| WP.region <| vn (S1.box rfl rfl) rfl fun b1 => v0 (S0.assign rfl) rfl <| vE <| WP.seq <| WP.region <| v0 (S0.fieldAddr rfl) rfl <| v0 (S0.load rfl rfl) rfl <| vcd (S1.callF rfl (rin_spec _ _ _) take0) rfl <| v0 (S0.move rfl) rfl <| ?_
  first | refine csP (t := 6) rfl (fun hq0 => ?_) (fun hq0 => ?_) | refine csN (t := 6) rfl (fun hq0 => ?_) (fun hq0 => ?_) | refine cs (t := 6) rfl (fun hq0 => ?_) (fun hq0 => ?_)
  ·
    refine gT rfl <| v0 (S0.fieldAddr rfl) rfl <| gT rfl <| v0 (S0.load rfl rfl) rfl <| gT rfl <| vcd (S1.callF rfl (rin_spec _ _ _) take0) rfl <| v0 (S0.pickT rfl rfl) rfl <| v0 (S0.move rfl) rfl <| ?_
    first | refine csP (t := 11) rfl (fun hq1 => ?_) (fun hq1 => ?_) | refine csN (t := 11) rfl (fun hq1 => ?_) (fun hq1 => ?_) | refine cs (t := 11) rfl (fun hq1 => ?_) (fun hq1 => ?_)
    ·
      refine gT rfl <| v0 (S0.fieldAddr rfl) rfl <| gT rfl <| v0 (S0.load rfl rfl) rfl <| gT rfl <| vcd (S1.callF rfl (rright_spec (by omega)) take0) rfl <| v0 (S0.pickT rfl rfl) rfl <| v0 (S0.move rfl) rfl <| ?_
      first | refine csP (t := 16) rfl (fun hq2 => ?_) (fun hq2 => ?_) | refine csN (t := 16) rfl (fun hq2 => ?_) (fun hq2 => ?_) | refine cs (t := 16) rfl (fun hq2 => ?_) (fun hq2 => ?_)
      ·
        refine gT rfl <| v0 (S0.fieldAddr rfl) rfl <| gT rfl <| v0 (S0.load rfl rfl) rfl <| gT rfl <| v0 (S0.lenSt rfl) rfl <| gT rfl <| v0 (S0.cmp rfl rfl rfl) rfl <| v0 (S0.pickT rfl rfl) rfl <| v0 (S0.move rfl) rfl <| ?_
        first | refine csP (t := 22) rfl (fun hq3 => ?_) (fun hq3 => ?_) | refine csN (t := 22) rfl (fun hq3 => ?_) (fun hq3 => ?_) | refine cs (t := 22) rfl (fun hq3 => ?_) (fun hq3 => ?_)
        ·
          refine gT rfl <| v0 (S0.fieldAddr rfl) rfl <| gT rfl <| v0 (S0.load rfl rfl) rfl <| gT rfl <| vcd (S1.callF rfl (rin_spec _ _ _) take0) rfl <| v0 (S0.pickT rfl rfl) rfl <| v0 (S0.assign rfl) rfl <| vE <| WP.ret <| ?_
          refine Leaves.drop take0 ?_
          refine r1 rfl rfl ⟨?_, rfl⟩
          exact congrArg Value.bool (by simp [rightE, *]; try omega)
        ·
          refine gF rfl rfl <| gF rfl rfl <| gF rfl rfl <| v0 (S0.pickF rfl rfl) rfl <| v0 (S0.assign rfl) rfl <| vE <| WP.ret <| ?_
          refine Leaves.drop take0 ?_
          refine r1 rfl rfl ⟨?_, rfl⟩
          exact congrArg Value.bool (by simp [rightE, *]; try omega)
      ·
        refine gF rfl rfl <| gF rfl rfl <| gF rfl rfl <| gF rfl rfl <| v0 (S0.pickF rfl rfl) rfl <| v0 (S0.move rfl) rfl <| gF rfl rfl <| gF rfl rfl <| gF rfl rfl <| v0 (S0.pickF rfl rfl) rfl <| v0 (S0.assign rfl) rfl <| vE <| WP.ret <| ?_
        refine Leaves.drop take0 ?_
        refine r1 rfl rfl ⟨?_, rfl⟩
        exact congrArg Value.bool (by simp [rightE, *]; try omega)
    ·
      refine gF rfl rfl <| gF rfl rfl <| gF rfl rfl <| v0 (S0.pickF rfl rfl) rfl <| v0 (S0.move rfl) rfl <| gF rfl rfl <| gF rfl rfl <| gF rfl rfl <| gF rfl rfl <| v0 (S0.pickF rfl rfl) rfl <| v0 (S0.move rfl) rfl <| gF rfl rfl <| gF rfl rfl <| gF rfl rfl <| v0 (S0.pickF rfl rfl) rfl <| v0 (S0.assign rfl) rfl <| vE <| WP.ret <| ?_
      refine Leaves.drop take0 ?_
      refine r1 rfl rfl ⟨?_, rfl⟩
      exact congrArg Value.bool (by simp [rightE, *]; try omega)
  ·
    refine gF rfl rfl <| gF rfl rfl <| gF rfl rfl <| v0 (S0.pickF rfl rfl) rfl <| v0 (S0.move rfl) rfl <| gF rfl rfl <| gF rfl rfl <| gF rfl rfl <| v0 (S0.pickF rfl rfl) rfl <| v0 (S0.move rfl) rfl <| gF rfl rfl <| gF rfl rfl <| gF rfl rfl <| gF rfl rfl <| v0 (S0.pickF rfl rfl) rfl <| v0 (S0.move rfl) rfl <| gF rfl rfl <| gF rfl rfl <| gF rfl rfl <| v0 (S0.pickF rfl rfl) rfl <| v0 (S0.assign rfl) rfl <| vE <| WP.ret <| ?_
    refine Leaves.drop take0 ?_
    refine r1 rfl rfl ⟨?_, rfl⟩
    exact congrArg Value.bool (by simp [rightE, *]; try omega)
theorem same_spec (a b : Ev) : FN Tryd.prog 33 [.agg ⟨evB a⟩, .agg ⟨evB b⟩] [] (is (.bool (sameE a b)) []) := by
  refine FN.intro 11 [(0, .agg ⟨evB a⟩), (1, .agg ⟨evB b⟩)] Tryd.func33 rfl (enters Tryd.func33 (by kernel_rfl) rfl) Tryd.ntmps33 rfl rfl ?_
  refine WP.seq <| WP.region <| vn (S1.box rfl rfl) rfl fun b2 => vn (S1.box rfl rfl) rfl fun b3 => v0 (S0.assign rfl) rfl <| vE <| WP.seq <| WP.region <| v0 (S0.fieldAddr rfl) rfl <| v0 (S0.load rfl rfl) rfl <| v0 (S0.fieldAddr rfl) rfl <| vs (S1.store rfl rfl (by first | rfl | exact IsSl.cv (by assumption))) <| vE <| WP.seq <| WP.region <| v0 (S0.loadAL rfl) rfl <| v0 (S0.loadAL rfl) rfl <| v0 (S0.eqAg rfl rfl rfl rfl) rfl <| v0 (S0.assign rfl) rfl <| vE <| WP.ret <| ?_  -- ret
  refine Leaves.drop take0 ?_
  refine r1 rfl rfl ⟨?_, rfl⟩
  simp [sameE]
theorem rsame_spec (a b : Ev) : FN Tryd.prog 51 [.agg ⟨evB a⟩, .agg ⟨evB b⟩] [] (is (.bool (sameE a b)) []) := by
  refine FN.intro 31 [(0, .agg ⟨evB a⟩), (1, .agg ⟨evB b⟩)] Tryd.func51 rfl (enters Tryd.func51 (by kernel_rfl) rfl) Tryd.ntmps51 rfl rfl ?_
  refine WP.seq <| WP.region <| vn (S1.box rfl rfl) rfl fun b2 => vn (S1.box rfl rfl) rfl fun b3 => v0 (S0.assign rfl) rfl <| vE <| WP.seq <| WP.region <| v0 (S0.fieldAddr rfl) rfl <| v0 (S0.load rfl rfl) rfl <| v0 (S0.fieldAddr rfl) rfl <| v0 (S0.load rfl rfl) rfl <| v0 (S0.cmp rfl rfl rfl) rfl <| v0 (S0.move rfl) rfl <| ?_
  first | refine csP (t := 10) rfl (fun hq0 => ?_) (fun hq0 => ?_) | refine csN (t := 10) rfl (fun hq0 => ?_) (fun hq0 => ?_) | refine cs (t := 10) rfl (fun hq0 => ?_) (fun hq0 => ?_)
  ·
    refine gT rfl <| v0 (S0.fieldAddr rfl) rfl <| gT rfl <| v0 (S0.load rfl rfl) rfl <| gT rfl <| v0 (S0.fieldAddr rfl) rfl <| gT rfl <| v0 (S0.load rfl rfl) rfl <| gT rfl <| v0 (S0.cmp rfl rfl rfl) rfl <| v0 (S0.pickT rfl rfl) rfl <| v0 (S0.move rfl) rfl <| ?_
    first | refine csP (t := 17) rfl (fun hq1 => ?_) (fun hq1 => ?_) | refine csN (t := 17) rfl (fun hq1 => ?_) (fun hq1 => ?_) | refine cs (t := 17) rfl (fun hq1 => ?_) (fun hq1 => ?_)
    ·
      refine gT rfl <| v0 (S0.fieldAddr rfl) rfl <| gT rfl <| v0 (S0.load rfl rfl) rfl <| gT rfl <| v0 (S0.fieldAddr rfl) rfl <| gT rfl <| v0 (S0.load rfl rfl) rfl <| gT rfl <| v0 (S0.cmpS rfl rfl rfl) rfl <| v0 (S0.pickT rfl rfl) rfl <| v0 (S0.move rfl) rfl <| ?_
      first | refine csP (t := 24) rfl (fun hq2 => ?_) (fun hq2 => ?_) | refine csN (t := 24) rfl (fun hq2 => ?_) (fun hq2 => ?_) | refine cs (t := 24) rfl (fun hq2 => ?_) (fun hq2 => ?_)
      ·
        refine gT rfl <| v0 (S0.fieldAddr rfl) rfl <| gT rfl <| v0 (S0.load rfl rfl) rfl <| gT rfl <| v0 (S0.fieldAddr rfl) rfl <| gT rfl <| v0 (S0.load rfl rfl) rfl <| gT rfl <| v0 (S0.cmpS rfl rfl rfl) rfl <| v0 (S0.pickT rfl rfl) rfl <| v0 (S0.assign rfl) rfl <| vE <| WP.ret <| ?_
        refine Leaves.drop take0 ?_
        refine r1 rfl rfl ⟨?_, rfl⟩
        exact congrArg Value.bool (by simp [sameE, *])
      ·
        refine gF rfl rfl <| gF rfl rfl <| gF rfl rfl <| gF rfl rfl <| gF rfl rfl <| v0 (S0.pickF rfl rfl) rfl <| v0 (S0.assign rfl) rfl <| vE <| WP.ret <| ?_
        refine Leaves.drop take0 ?_
        refine r1 rfl rfl ⟨?_, rfl⟩
        exact congrArg Value.bool (by simp [sameE, *])
    ·
      refine gF rfl rfl <| gF rfl rfl <| gF rfl rfl <| gF rfl rfl <| gF rfl rfl <| v0 (S0.pickF rfl rfl) rfl <| v0 (S0.move rfl) rfl <| gF rfl rfl <| gF rfl rfl <| gF rfl rfl <| gF rfl rfl <| gF rfl rfl <| v0 (S0.pickF rfl rfl) rfl <| v0 (S0.assign rfl) rfl <| vE <| WP.ret <| ?_
      refine Leaves.drop take0 ?_
      refine r1 rfl rfl ⟨?_, rfl⟩
      exact congrArg Value.bool (by simp [sameE, *])
  ·
    refine gF rfl rfl <| gF rfl rfl <| gF rfl rfl <| gF rfl rfl <| gF rfl rfl <| v0 (S0.pickF rfl rfl) rfl <| v0 (S0.move rfl) rfl <| gF rfl rfl <| gF rfl rfl <| gF rfl rfl <| gF rfl rfl <| gF rfl rfl <| v0 (S0.pickF rfl rfl) rfl <| v0 (S0.move rfl) rfl <| gF rfl rfl <| gF rfl rfl <| gF rfl rfl <| gF rfl rfl <| gF rfl rfl <| v0 (S0.pickF rfl rfl) rfl <| v0 (S0.assign rfl) rfl <| vE <| WP.ret <| ?_
    refine Leaves.drop take0 ?_
    refine r1 rfl rfl ⟨?_, rfl⟩
    exact congrArg Value.bool (by simp [sameE, *])
end Go.Proofs.YtgcclpfpnfmjcaaDoor
