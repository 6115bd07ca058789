import Derived.Test.YtnoicafjkgbokaaDoorRef3
import Derived.Test.YtnoicafjkgbokaaDoorView
import Derived.Test.YtnoicafjkgbokaaDoorCov1
namespace Go.Proofs.YtnoicafjkgbokaaDoor
open Go

theorem nan_spec (x : Str) : FN Tryd.prog 81 [sv x] [] (is (.bool false) []) := by
  refine FN.intro 6 [(0, sv x)] Tryd.func81 rfl (enters Tryd.func81 (by kernel_rfl) rfl) Tryd.ntmps81 rfl rfl ?_
  refine WP.seq <| WP.region <| v0 (S0.assign rfl) rfl <| vE <| WP.seq <| WP.region <| v0 (S0.move rfl) rfl <| v0 (S0.move rfl) rfl <| v0 (S0.cmpS rfl rfl rfl) rfl <| v0 (S0.assign rfl) rfl <| vE <| WP.ret <| ?_
  refine r1 rfl rfl ⟨?_, rfl⟩
  exact congrArg Value.bool (by simp)
theorem cmpT_by {x y : Str} {n : Int} (h : (ltS x y = true ∧ n = -1) ∨ (ltS x y = false ∧ x = y ∧ n = 0) ∨ (ltS x y = false ∧ x ≠ y ∧ n = 1)) : n = cmpT x y := by
  unfold cmpT
  rcases h with ⟨h, rfl⟩ | ⟨h, rfl, rfl⟩ | ⟨h, h2, rfl⟩
  · simp [h]
  · simp [h]
  · simp [h, h2]
theorem cmpT_spec (x y : Str) : FN Tryd.prog 74 [sv x, sv y] [] (is (.int .i64 (cmpT x y)) []) := by
  refine FN.intro 20 [(0, sv x), (1, sv y)] Tryd.func74 rfl (enters Tryd.func74 (by kernel_rfl) rfl) Tryd.ntmps74 rfl rfl ?_
  refine WP.seq <| WP.region <| v0 (S0.assign rfl) rfl <| vE <| WP.seq <| WP.region <| v0 (S0.move rfl) rfl <| ?_  -- op t8 := call F81{cmp.isNaN[string]}(t7)
  refine vcd (S1.callF rfl (nan_spec x) take0) rfl ?_
  refine v0 (S0.assign rfl) rfl <| vE <| WP.seq <| WP.region <| v0 (S0.move rfl) rfl <| ?_  -- op t10 := call F81{cmp.isNaN[string]}(t9)
  refine vcd (S1.callF rfl (nan_spec y) take0) rfl ?_
  refine v0 (S0.assign rfl) rfl <| vE <| WP.seq <| WP.seq <| WP.region <| v0 (S0.move rfl) rfl <| vE <| ?_
  first | refine WP.condP rfl (fun hq0 => ?_) (fun hq0 => ?_) | refine WP.condN rfl (fun hq0 => ?_) (fun hq0 => ?_) | refine WP.cond rfl (fun hq0 => ?_) (fun hq0 => ?_)
  ·
    refine WP.seq <| WP.seq <| WP.region <| v0 (S0.move rfl) rfl <| vE <| ?_
    first | refine WP.condP rfl (fun hq1 => ?_) (fun hq1 => ?_) | refine WP.condN rfl (fun hq1 => ?_) (fun hq1 => ?_) | refine WP.cond rfl (fun hq1 => ?_) (fun hq1 => ?_)
    ·
      refine WP.seq <| WP.region <| v0 (S0.assign rfl) rfl <| vE <| WP.ret <| ?_
      refine r1 rfl rfl ⟨?_, rfl⟩
      exact congrArg (Value.int .i64) (cmpT_by (by simp_all))
    ·
      refine WP.skip <| WP.seq <| WP.region <| v0 (S0.assign rfl) rfl <| vE <| WP.ret <| ?_
      refine r1 rfl rfl ⟨?_, rfl⟩
      exact congrArg (Value.int .i64) (cmpT_by (by simp_all))
  ·
    refine WP.skip <| WP.seq <| WP.seq <| WP.region <| v0 (S0.move rfl) rfl <| vE <| ?_
    first | refine WP.condP rfl (fun hq1 => ?_) (fun hq1 => ?_) | refine WP.condN rfl (fun hq1 => ?_) (fun hq1 => ?_) | refine WP.cond rfl (fun hq1 => ?_) (fun hq1 => ?_)
    ·
      refine WP.seq <| WP.region <| v0 (S0.assign rfl) rfl <| vE <| WP.ret <| ?_
      refine r1 rfl rfl ⟨?_, rfl⟩
      exact congrArg (Value.int .i64) (cmpT_by (by simp_all))
    ·
      refine WP.skip <| WP.seq <| WP.seq <| WP.region <| v0 (S0.move rfl) rfl <| v0 (S0.move rfl) rfl <| v0 (S0.cmpS rfl rfl rfl) rfl <| vE <| ?_
      first | refine WP.condP rfl (fun hq2 => ?_) (fun hq2 => ?_) | refine WP.condN rfl (fun hq2 => ?_) (fun hq2 => ?_) | refine WP.cond rfl (fun hq2 => ?_) (fun hq2 => ?_)
      ·
        refine WP.seq <| WP.region <| v0 (S0.assign rfl) rfl <| vE <| WP.ret <| ?_
        refine r1 rfl rfl ⟨?_, rfl⟩
        exact congrArg (Value.int .i64) (cmpT_by (by simp_all))
      ·
        refine WP.skip <| WP.seq <| WP.seq <| WP.region <| v0 (S0.move rfl) rfl <| v0 (S0.move rfl) rfl <| v0 (S0.cmpS rfl rfl rfl) rfl <| vE <| ?_
        first | refine WP.condP rfl (fun hq3 => ?_) (fun hq3 => ?_) | refine WP.condN rfl (fun hq3 => ?_) (fun hq3 => ?_) | refine WP.cond rfl (fun hq3 => ?_) (fun hq3 => ?_)
        ·
          refine WP.seq <| WP.region <| v0 (S0.assign rfl) rfl <| vE <| WP.ret <| ?_
          refine r1 rfl rfl ⟨?_, rfl⟩
          exact congrArg (Value.int .i64) (cmpT_by (by simp_all))
        ·
          refine WP.skip <| WP.seq <| WP.region <| v0 (S0.assign rfl) rfl <| vE <| WP.ret <| ?_
          refine r1 rfl rfl ⟨?_, rfl⟩
          exact congrArg (Value.int .i64) (cmpT_by (by simp_all))
theorem cmpL_drop {A B : List Str} {i : Nat} {x y : Str} (hx : A[i]? = some x) (hy : B[i]? = some y) (h : cmpT x y = 0) : cmpL (A.drop i) (B.drop i) = cmpL (A.drop (i + 1)) (B.drop (i + 1)) := by
  rw [drop_cons hx, drop_cons hy]
  simp [cmpL, h]
theorem compare_spec {va vb : Value} {A B : List Str} {ca cb : List Blk} (ha : RdS va A ca) (hb : RdS vb B cb) (hl : A.length ≤ 1000000) : FN Tryd.prog 60 [va, vb] [ca, cb] (is (.int .i64 (cmpL A B)) [ca, cb]) := by
  obtain ⟨a, cap, rfl, hcap, ha⟩ := ha
  obtain ⟨b, cap2, rfl, hcap2, hb⟩ := hb
  refine FN.intro 36 [(0, .slice a A.length cap), (1, .slice b B.length cap2)] Tryd.func60 rfl (enters Tryd.func60 (by kernel_rfl) rfl) Tryd.ntmps60 rfl rfl ?_
  refine WP.seq <| WP.region <| v0 (S0.assign rfl) rfl <| vE <| WP.seq <| WP.seq <| WP.region <| v0 (S0.move rfl) rfl <| v0 (S0.lenSl rfl) rfl <| v0 (S0.move rfl) rfl <| vE <| WP.block <| ?_  -- Code.loop
  refine WP.loop (fun i : Nat => i ≤ A.length ∧ i ≤ B.length ∧ cmpL A B = cmpL (A.drop i) (B.drop i)) (fun i : Nat => [(0, .slice a A.length cap), (1, .slice b B.length cap2), (9, .slice a A.length cap), (10, .int .i64 (A.length : Int)), (11, .int .i64 (i : Int))]) (fun i : Nat => [ca, cb]) (fun i : Nat => A.length - i) (0) (⟨Nat.zero_le _, Nat.zero_le _, by simp⟩) ⟨rfl, rfl, rfl, rfl, rfl, trivial⟩ ⟨_, (take1 at0 (take1 at0 take0))⟩ (fun i hinv => ?_) 
  obtain ⟨hi, hi2, hinv⟩ := hinv
  refine WP.seq <| WP.region <| v0 (S0.cmp rfl rfl rfl) rfl <| vE <| WP.seq <| ?_  -- cond
  first | refine WP.condP rfl (fun h1 => ?_) (fun h1 => ?_) | refine WP.condN rfl (fun h1 => ?_) (fun h1 => ?_) | refine WP.cond rfl (fun h1 => ?_) (fun h1 => ?_)
  · skip
    have hlt : i < A.length := by omega
    rcases ha with e | ⟨b1, o1, L1, U1, fz1, rfl, hm1, he1⟩
    · rw [e] at hlt; simp at hlt
    have : HasC ca b1 (.cells ⟨L1⟩ U1 fz1) := ⟨hm1⟩
    have hx : A[i]? = some A[i] := by simp [hlt]
    generalize A[i] = x at hx
    have hxe := he1 i x hx
    skip
    refine WP.skip <| WP.seq <| WP.block <| WP.seq <| WP.region <| v0 (S0.move rfl) rfl <| ?_  -- op t14 := indexAddr 22 t9 t11
    refine v0 (S0.indexO1 rfl rfl hlt) rfl <| ?_
    refine v0 (S0.load rfl (rdS_get hxe)) rfl <| ?_
    refine v0 (S0.assign rfl) rfl <| v0 (S0.assign rfl) rfl <| vE <| WP.seq <| WP.seq <| WP.region <| v0 (S0.move rfl) rfl <| v0 (S0.move rfl) rfl <| v0 (S0.lenSl rfl) rfl <| v0 (S0.cmp rfl rfl rfl) rfl <| vE <| ?_  -- cond
    first | refine WP.condP rfl (fun h2 => ?_) (fun h2 => ?_) | refine WP.condN rfl (fun h2 => ?_) (fun h2 => ?_) | refine WP.cond rfl (fun h2 => ?_) (fun h2 => ?_)
    · skip
      refine WP.seq <| WP.region <| v0 (S0.assign rfl) rfl <| vE <| WP.ret <| ?_  -- ret
      refine r1 rfl rfl ⟨?_, rfl⟩
      have h2' : B.drop i = [] := List.drop_eq_nil_of_le (by omega)
      rw [hinv, h2', drop_cons hx]; rfl
    · skip
      have hlt2 : i < B.length := by omega
      rcases hb with e | ⟨b2, o2, L2, U2, fz2, rfl, hm2, he2⟩
      · rw [e] at hlt2; simp at hlt2
      have : HasC cb b2 (.cells ⟨L2⟩ U2 fz2) := ⟨hm2⟩
      have hy : B[i]? = some B[i] := by simp [hlt2]
      generalize B[i] = y at hy
      have hye := he2 i y hy
      refine WP.skip <| WP.seq <| WP.region <| v0 (S0.move rfl) rfl <| v0 (S0.move rfl) rfl <| ?_  -- op t22 := indexAddr 22 t20 t21
      refine v0 (S0.indexO1 rfl rfl hlt2) rfl <| ?_
      refine v0 (S0.load rfl (rdS_get hye)) rfl <| ?_
      refine v0 (S0.assign rfl) rfl <| vE <| WP.seq <| WP.region <| v0 (S0.move rfl) rfl <| v0 (S0.move rfl) rfl <| ?_  -- op t26 := call F74{cmp.Compare[string]}(t24, t25)
      refine vcd (S1.callF rfl (cmpT_spec x y) take0) rfl ?_
      refine v0 (S0.assign rfl) rfl <| vE <| WP.seq <| WP.region <| v0 (S0.move rfl) rfl <| v0 (S0.cmp rfl rfl rfl) rfl <| vE <| ?_  -- cond
      first | refine WP.condP rfl (fun h3 => ?_) (fun h3 => ?_) | refine WP.condN rfl (fun h3 => ?_) (fun h3 => ?_) | refine WP.cond rfl (fun h3 => ?_) (fun h3 => ?_)
      · skip
        refine WP.seq <| WP.region <| v0 (S0.move rfl) rfl <| v0 (S0.assign rfl) rfl <| vE <| WP.ret <| ?_  -- ret
        refine r1 rfl rfl ⟨?_, rfl⟩
        rw [hinv, drop_cons hx, drop_cons hy]
        simp [cmpL, h3]
      · skip
        refine WP.skip <| WP.region <| v0 (S0.ari rfl rfl rfl (wrap_i64 (by omega))) rfl <| v0 (S0.move rfl) rfl <| vE <| ?_  -- roundend
        exact ⟨i + 1, (by first | exact ⟨hlt, hlt2, by rw [hinv, cmpL_drop hx hy (by simpa using h3)]⟩ | (dsimp only; exact ⟨hlt, hlt2, by rw [hinv, cmpL_drop hx hy (by simpa using h3)]⟩)), (by omega), ⟨⟨rfl, rfl, rfl, rfl, rfl, trivial⟩, rfl, rfl⟩, ⟨_, (take1 at0 (take1 at0 take0))⟩⟩
  · skip
    have e : i = A.length := by omega
    have hd : A.drop i = [] := List.drop_eq_nil_of_le (by omega)
    rw [hd] at hinv
    refine WP.exit <| WP.seq <| WP.seq <| WP.region <| v0 (S0.move rfl) rfl <| v0 (S0.lenSl rfl) rfl <| v0 (S0.move rfl) rfl <| v0 (S0.lenSl rfl) rfl <| v0 (S0.cmp rfl rfl rfl) rfl <| vE <| ?_  -- cond
    first | refine WP.condP rfl (fun h2 => ?_) (fun h2 => ?_) | refine WP.condN rfl (fun h2 => ?_) (fun h2 => ?_) | refine WP.cond rfl (fun h2 => ?_) (fun h2 => ?_)
    · skip
      refine WP.seq <| WP.region <| v0 (S0.assign rfl) rfl <| vE <| WP.ret <| ?_  -- ret
      refine r1 rfl rfl ⟨?_, rfl⟩
      have hlt2 : i < B.length := by omega
      rw [hinv, List.drop_eq_getElem_cons hlt2]; rfl
    · skip
      refine WP.skip <| WP.seq <| WP.region <| v0 (S0.assign rfl) rfl <| vE <| WP.ret <| ?_  -- ret
      refine r1 rfl rfl ⟨?_, rfl⟩
      have h2' : B.drop i = [] := List.drop_eq_nil_of_le (by omega)
      rw [hinv, h2']; rfl
theorem covL_nil (z : Bool) (b : List Str) : covL z [] b = decide (b = []) := by cases b <;> simp [covL]
theorem covers_spec : ∀ (A : List Str) {va vb : Value} {B : List Str} {ca cb : List Blk} {deep : Nat}, RdS va A ca → RdS vb B cb → A.length ≤ 1000000 → deep ≤ 1000000 → A.length + deep ≤ 1000000 →
    FN Tryd.prog 50 [va, vb, .int .i64 (deep : Int)] [ca, cb] (is (.bool (covL (decide (deep = 0)) A B)) [ca, cb]) := by
  intro A
  induction A with
  | nil =>
    intro va vb B ca cb deep ha hb hl hd hld
    obtain ⟨a, cap, rfl, hcap, ha⟩ := ha
    obtain ⟨b, cap2, rfl, hcap2, hb⟩ := hb
    rw [covL_nil]
    refine FN.intro 74 [(0, .slice a ([] : List Str).length cap), (1, .slice b B.length cap2), (2, .int .i64 (deep : Int))] Tryd.func50 rfl (enters Tryd.func50 (by kernel_rfl) rfl) Tryd.ntmps50 rfl rfl ?_
    refine WP.seq <| WP.region <| v0 (S0.assign rfl) rfl <| vE <| WP.seq <| WP.block <| WP.seq <| WP.region <| v0 (S0.move rfl) rfl <| v0 (S0.lenSl rfl) rfl <| v0 (S0.cmp rfl rfl rfl) rfl <| v0 (S0.move rfl) rfl <| ?_  -- guard t11 (wants True) at t12 := move t0 [if #3=True]
    refine csFh (t := 11) rfl (rfl) ?_
    refine gF rfl rfl <| gF rfl rfl <| gF rfl rfl <| gF rfl rfl <| v0 (S0.pickF rfl rfl) rfl <| v0 (S0.assign rfl) rfl <| vE <| WP.condF rfl <| WP.seq <| WP.region <| v0 (S0.move rfl) rfl <| v0 (S0.lenSl rfl) rfl <| v0 (S0.cmp rfl rfl rfl) rfl <| v0 (S0.assign rfl) rfl <| vE <| ?_  -- cond
    first | refine WP.condP rfl (fun h1 => ?_) (fun h1 => ?_) | refine WP.condN rfl (fun h1 => ?_) (fun h1 => ?_) | refine WP.cond rfl (fun h1 => ?_) (fun h1 => ?_)
    · skip
      refine WP.seq <| WP.region <| v0 (S0.move rfl) rfl <| v0 (S0.lenSl rfl) rfl <| v0 (S0.cmp rfl rfl rfl) rfl <| v0 (S0.assign rfl) rfl <| vE <| WP.ret <| ?_  -- ret
      refine r1 rfl rfl ⟨?_, rfl⟩
      have : B = [] := List.length_eq_zero_iff.1 (by omega)
      subst this; rfl
    · skip
      have hne : B ≠ [] := fun e => h1 (by rw [e]; rfl)
      obtain ⟨y, B', rfl⟩ := List.exists_cons_of_ne_nil hne
      rcases hb with e | ⟨b2, o2, L2, U2, fz2, rfl, hm2, he2⟩
      · cases e
      have : HasC cb b2 (.cells ⟨L2⟩ U2 fz2) := ⟨hm2⟩
      skip
      refine WP.seq <| WP.region <| v0 (S0.move rfl) rfl <| ?_  -- op t26 := indexAddr 22 t25 0:i64
      refine v0 (S0.indexO1 (i := 0) rfl rfl (by simp)) rfl <| ?_
      refine v0 (S0.load rfl (rdS_get (he2 0 y rfl))) rfl <| ?_
      refine v0 (S0.cmpS rfl rfl rfl) rfl <| v0 (S0.assign rfl) rfl <| vE <| ?_  -- cond
      first | refine WP.condP rfl (fun h3 => ?_) (fun h3 => ?_) | refine WP.condN rfl (fun h3 => ?_) (fun h3 => ?_) | refine WP.cond rfl (fun h3 => ?_) (fun h3 => ?_)
      · skip
        refine WP.seq <| WP.region <| v0 (S0.move rfl) rfl <| v0 (S0.cmp rfl rfl rfl) rfl <| v0 (S0.move rfl) rfl <| ?_  -- guard t31 (wants True) at t32 := move t0 [if #2=True]
        first | refine csP (t := 31) rfl (fun h4 => ?_) (fun h4 => ?_) | refine csN (t := 31) rfl (fun h4 => ?_) (fun h4 => ?_) | refine cs (t := 31) rfl (fun h4 => ?_) (fun h4 => ?_)
        · skip
          refine gT rfl <| v0 (S0.move rfl) rfl <| gT rfl <| v0 (S0.lenSl rfl) rfl <| gT rfl <| v0 (S0.cmp rfl rfl rfl) rfl <| v0 (S0.pickT rfl rfl) rfl <| v0 (S0.move rfl) rfl <| ?_  -- guard t36 (wants True) at t37 := move t0 [if #7=True]
          refine csFh (t := 36) rfl (rfl) ?_
          refine gF rfl rfl <| gF rfl rfl <| gF rfl rfl <| gF rfl rfl <| v0 (S0.pickF rfl rfl) rfl <| v0 (S0.move rfl) rfl <| gF rfl rfl <| gF rfl rfl <| gF rfl rfl <| gF rfl rfl <| v0 (S0.pickF rfl rfl) rfl <| v0 (S0.assign rfl) rfl <| vE <| WP.ret <| ?_  -- ret
          refine r1 rfl rfl ⟨?_, rfl⟩
          simp
        · skip
          refine gF rfl rfl <| gF rfl rfl <| gF rfl rfl <| v0 (S0.pickF rfl rfl) rfl <| v0 (S0.move rfl) rfl <| gF rfl rfl <| gF rfl rfl <| gF rfl rfl <| gF rfl rfl <| v0 (S0.pickF rfl rfl) rfl <| v0 (S0.move rfl) rfl <| gF rfl rfl <| gF rfl rfl <| gF rfl rfl <| gF rfl rfl <| v0 (S0.pickF rfl rfl) rfl <| v0 (S0.assign rfl) rfl <| vE <| WP.ret <| ?_  -- ret
          refine r1 rfl rfl ⟨?_, rfl⟩
          simp
      · skip
        refine WP.seq <| WP.drawP [(0, none), (1, none), (2, none), (3, none), (4, none), (5, none), (6, none), (7, none), (8, none), (9, none), (10, none), (11, none), (12, none), (13, none), (14, none), (15, none), (16, none), (17, none), (18, none)] mixed (by kernel_rfl) (by kernel_rfl) (by kernel_rfl) (take1 at0 (take1 at0 take0)) <| w0 rfl rfl rfl (S0.move rfl) rfl <| w0 rfl rfl rfl (S0.lenSl rfl) rfl <| w0 rfl rfl rfl (S0.cmp rfl rfl rfl) rfl <| w0 rfl rfl rfl (S0.move rfl) rfl <| ?_  -- guard t52 (wants False) at t53 := move t0 [if #3=False]
        refine wcsTh (t := 52) rfl (rfl) ?_
        refine wF rfl rfl rfl rfl <| wF rfl rfl rfl rfl <| wF rfl rfl rfl rfl <| wF rfl rfl rfl rfl <| wF rfl rfl rfl rfl <| wF rfl rfl rfl rfl <| wF rfl rfl rfl rfl <| wF rfl rfl rfl rfl <| wF rfl rfl rfl rfl <| wF rfl rfl rfl rfl <| wF rfl rfl rfl rfl <| wF rfl rfl rfl rfl <| wF rfl rfl rfl rfl <| w0 rfl rfl rfl (S0.pickT rfl rfl) rfl <| w0 rfl rfl rfl (S0.assign rfl) rfl <| wE <| WP.condT rfl <| WP.seq <| WP.region <| v0 (S0.assign rfl) rfl <| vE <| WP.ret <| ?_  -- ret
        refine r1 rfl rfl ⟨?_, rfl⟩
        simp
  | cons x A ih =>
    intro va vb B ca cb deep ha hb hl hd hld
    have hsa := ha
    have hsb := hb
    obtain ⟨a, cap, rfl, hcap, ha⟩ := ha
    obtain ⟨b, cap2, rfl, hcap2, hb⟩ := hb
    rcases ha with e | ⟨b1, o1, L1, U1, fz1, rfl, hm1, he1⟩
    · cases e
    have : HasC ca b1 (.cells ⟨L1⟩ U1 fz1) := ⟨hm1⟩
    refine FN.intro 74 [(0, .slice (some ⟨b1, o1, none⟩) (x :: A).length cap), (1, .slice b B.length cap2), (2, .int .i64 (deep : Int))] Tryd.func50 rfl (enters Tryd.func50 (by kernel_rfl) rfl) Tryd.ntmps50 rfl rfl ?_
    refine WP.seq <| WP.region <| v0 (S0.assign rfl) rfl <| vE <| WP.seq <| WP.block <| WP.seq <| WP.region <| v0 (S0.move rfl) rfl <| v0 (S0.lenSl rfl) rfl <| v0 (S0.cmp rfl rfl rfl) rfl <| v0 (S0.move rfl) rfl <| ?_  -- guard t11 (wants True) at t12 := move t0 [if #3=True]
    refine csTh (t := 11) rfl ((by simp)) ?_
    skip
    refine gT rfl <| v0 (S0.move rfl) rfl <| ?_  -- op t13 := indexAddr 22 t12 0:i64 [if #3=True]
    refine gT rfl <| v0 (S0.indexO1 (i := 0) rfl rfl (by simp)) rfl <| ?_
    refine gT rfl <| v0 (S0.load rfl (rdS_get (he1 0 x rfl))) rfl <| ?_
    refine gT rfl <| v0 (S0.cmpS rfl rfl rfl) rfl <| v0 (S0.pickT rfl rfl) rfl <| v0 (S0.assign rfl) rfl <| vE <| ?_  -- cond
    first | refine WP.condP rfl (fun h1 => ?_) (fun h1 => ?_) | refine WP.condN rfl (fun h1 => ?_) (fun h1 => ?_) | refine WP.cond rfl (fun h1 => ?_) (fun h1 => ?_)
    · skip
      refine WP.seq <| WP.region <| v0 (S0.assign rfl) rfl <| vE <| WP.ret <| ?_  -- ret
      refine r1 rfl rfl ⟨?_, rfl⟩
      simp [covL, h1]
    · skip
      refine WP.seq <| WP.region <| v0 (S0.move rfl) rfl <| v0 (S0.lenSl rfl) rfl <| v0 (S0.cmp rfl rfl rfl) rfl <| v0 (S0.assign rfl) rfl <| vE <| ?_  -- cond
      first | refine WP.condP rfl (fun h2 => ?_) (fun h2 => ?_) | refine WP.condN rfl (fun h2 => ?_) (fun h2 => ?_) | refine WP.cond rfl (fun h2 => ?_) (fun h2 => ?_)
      · skip
        have hB : B = [] := List.length_eq_zero_iff.1 (by omega)
        subst hB
        refine WP.seq <| WP.region <| v0 (S0.move rfl) rfl <| v0 (S0.lenSl rfl) rfl <| v0 (S0.cmp rfl rfl rfl) rfl <| v0 (S0.assign rfl) rfl <| vE <| WP.ret <| ?_  -- ret
        refine r1 rfl rfl ⟨?_, rfl⟩
        simp [covL, h1]; omega
      · skip
        have hne : B ≠ [] := fun e => h2 (by rw [e]; rfl)
        obtain ⟨y, B, rfl⟩ := List.exists_cons_of_ne_nil hne
        rcases hb with e | ⟨b2, o2, L2, U2, fz2, rfl, hm2, he2⟩
        · cases e
        have : HasC cb b2 (.cells ⟨L2⟩ U2 fz2) := ⟨hm2⟩
        have he : covL (decide (deep = 0)) (x :: A) (y :: B) = if y = [35] then decide (deep = 0) && decide (x :: A = [[43], [35]]) else (decide (x = [43]) || decide (x = y)) && covL false A B := by
          simp only [covL, decide_eq_false h1, Bool.false_or]
        rw [he]
        refine WP.seq <| WP.region <| v0 (S0.move rfl) rfl <| ?_  -- op t26 := indexAddr 22 t25 0:i64
        refine v0 (S0.indexO1 (i := 0) rfl rfl (by simp)) rfl <| ?_
        refine v0 (S0.load rfl (rdS_get (he2 0 y rfl))) rfl <| ?_
        refine v0 (S0.cmpS rfl rfl rfl) rfl <| v0 (S0.assign rfl) rfl <| vE <| ?_  -- cond
        first | refine WP.condP rfl (fun h3 => ?_) (fun h3 => ?_) | refine WP.condN rfl (fun h3 => ?_) (fun h3 => ?_) | refine WP.cond rfl (fun h3 => ?_) (fun h3 => ?_)
        · skip
          rw [if_pos h3]
          refine WP.seq <| WP.region <| v0 (S0.move rfl) rfl <| v0 (S0.cmp rfl rfl rfl) rfl <| v0 (S0.move rfl) rfl <| ?_  -- guard t31 (wants True) at t32 := move t0 [if #2=True]
          first | refine csP (t := 31) rfl (fun h4 => ?_) (fun h4 => ?_) | refine csN (t := 31) rfl (fun h4 => ?_) (fun h4 => ?_) | refine cs (t := 31) rfl (fun h4 => ?_) (fun h4 => ?_)
          · skip
            refine gT rfl <| v0 (S0.move rfl) rfl <| gT rfl <| v0 (S0.lenSl rfl) rfl <| gT rfl <| v0 (S0.cmp rfl rfl rfl) rfl <| v0 (S0.pickT rfl rfl) rfl <| v0 (S0.move rfl) rfl <| ?_  -- guard t36 (wants True) at t37 := move t0 [if #7=True]
            first | refine csP (t := 36) rfl (fun h5 => ?_) (fun h5 => ?_) | refine csN (t := 36) rfl (fun h5 => ?_) (fun h5 => ?_) | refine cs (t := 36) rfl (fun h5 => ?_) (fun h5 => ?_)
            · skip
              have hA : ∃ z, A = [z] := by
                cases A with
                | nil => simp at h5
                | cons z A => exact ⟨z, by have : A = [] := List.length_eq_zero_iff.1 (by simp at h5; omega)
                                           rw [this]⟩
              obtain ⟨z, rfl⟩ := hA
              refine gT rfl <| v0 (S0.move rfl) rfl <| ?_  -- op t38 := indexAddr 22 t37 0:i64 [if #7=True]
              refine gT rfl <| v0 (S0.indexO1 (i := 0) rfl rfl (by simp)) rfl <| ?_
              refine gT rfl <| v0 (S0.load rfl (rdS_get (he1 0 x rfl))) rfl <| ?_
              refine gT rfl <| v0 (S0.cmpS rfl rfl rfl) rfl <| v0 (S0.pickT rfl rfl) rfl <| v0 (S0.move rfl) rfl <| ?_  -- guard t42 (wants True) at t43 := move t0 [if #13=True]
              first | refine csP (t := 42) rfl (fun h6 => ?_) (fun h6 => ?_) | refine csN (t := 42) rfl (fun h6 => ?_) (fun h6 => ?_) | refine cs (t := 42) rfl (fun h6 => ?_) (fun h6 => ?_)
              · skip
                refine gT rfl <| v0 (S0.move rfl) rfl <| ?_  -- op t44 := indexAddr 22 t43 1:i64 [if #13=True]
                refine gT rfl <| v0 (S0.indexO1 (i := 1) rfl rfl (by simp)) rfl <| ?_
                refine gT rfl <| v0 (S0.load rfl (rdS_get (he1 1 z rfl))) rfl <| ?_
                refine gT rfl <| v0 (S0.cmpS rfl rfl rfl) rfl <| v0 (S0.pickT rfl rfl) rfl <| v0 (S0.assign rfl) rfl <| vE <| WP.ret <| ?_  -- ret
                refine r1 rfl rfl ⟨?_, rfl⟩
                have : deep = 0 := by omega
                simp [this, h6]
              · skip
                refine gF rfl rfl <| gF rfl rfl <| gF rfl rfl <| gF rfl rfl <| v0 (S0.pickF rfl rfl) rfl <| v0 (S0.assign rfl) rfl <| vE <| WP.ret <| ?_  -- ret
                refine r1 rfl rfl ⟨?_, rfl⟩
                simp [h6]
            · skip
              refine gF rfl rfl <| gF rfl rfl <| gF rfl rfl <| gF rfl rfl <| v0 (S0.pickF rfl rfl) rfl <| v0 (S0.move rfl) rfl <| gF rfl rfl <| gF rfl rfl <| gF rfl rfl <| gF rfl rfl <| v0 (S0.pickF rfl rfl) rfl <| v0 (S0.assign rfl) rfl <| vE <| WP.ret <| ?_  -- ret
              refine r1 rfl rfl ⟨?_, rfl⟩
              have : x :: A ≠ [[43], [35]] := fun e => h5 (by rw [e]; rfl)
              simp [this]
          · skip
            refine gF rfl rfl <| gF rfl rfl <| gF rfl rfl <| v0 (S0.pickF rfl rfl) rfl <| v0 (S0.move rfl) rfl <| gF rfl rfl <| gF rfl rfl <| gF rfl rfl <| gF rfl rfl <| v0 (S0.pickF rfl rfl) rfl <| v0 (S0.move rfl) rfl <| gF rfl rfl <| gF rfl rfl <| gF rfl rfl <| gF rfl rfl <| v0 (S0.pickF rfl rfl) rfl <| v0 (S0.assign rfl) rfl <| vE <| WP.ret <| ?_  -- ret
            refine r1 rfl rfl ⟨?_, rfl⟩
            have : ¬ deep = 0 := by omega
            simp [this]
        · skip
          rw [if_neg h3]
          have hta := RdS.tail hsa
          have htb := RdS.tail hsb
          have e0 : decide (deep + 1 = 0) = false := decide_eq_false (by omega)
          refine WP.seq <| WP.drawP [(0, none), (1, none), (2, none), (3, none), (4, none), (5, none), (6, none), (7, none), (8, none), (9, none), (10, none), (11, none), (12, none), (13, none), (14, none), (15, none), (16, none), (17, none), (18, none)] mixed (by kernel_rfl) (by kernel_rfl) (by kernel_rfl) (take1 at0 (take1 at0 take0)) <| w0 rfl rfl rfl (S0.move rfl) rfl <| w0 rfl rfl rfl (S0.lenSl rfl) rfl <| w0 rfl rfl rfl (S0.cmp rfl rfl rfl) rfl <| w0 rfl rfl rfl (S0.move rfl) rfl <| ?_  -- guard t52 (wants False) at t53 := move t0 [if #3=False]
          refine wcsFh (t := 52) rfl ((by simp; omega)) ?_
          refine w0 rfl rfl rfl (S0.move rfl) rfl <| ?_  -- op t54 := indexAddr 22 t53 0:i64 [if #3=False]
          refine w0 rfl rfl rfl (S0.indexO1 (i := 0) rfl rfl (by simp)) rfl <| ?_
          refine w0 rfl rfl rfl (S0.load rfl (rdS_get (he1 0 x rfl))) rfl <| ?_
          refine w0 rfl rfl rfl (S0.cmpS rfl rfl rfl) rfl <| w0 rfl rfl rfl (S0.move rfl) rfl <| ?_  -- guard t57 (wants True) at t58 := move t0 [if #8=True]
          first | refine wcsP (t := 57) rfl (fun h4 => ?_) (fun h4 => ?_) | refine wcsN (t := 57) rfl (fun h4 => ?_) (fun h4 => ?_) | refine wcs (t := 57) rfl (fun h4 => ?_) (fun h4 => ?_)
          · skip
            refine w0 rfl rfl rfl (S0.move rfl) rfl <| ?_  -- op t59 := indexAddr 22 t58 0:i64 [if #8=True]
            refine w0 rfl rfl rfl (S0.indexO1 (i := 0) rfl rfl (by simp)) rfl <| ?_
            refine w0 rfl rfl rfl (S0.load rfl (rdS_get (he1 0 x rfl))) rfl <| ?_
            refine w0 rfl rfl rfl (S0.move rfl) rfl <| ?_  -- op t62 := indexAddr 22 t61 0:i64 [if #8=True]
            refine w0 rfl rfl rfl (S0.indexO1 (i := 0) rfl rfl (by simp)) rfl <| ?_
            refine w0 rfl rfl rfl (S0.load rfl (rdS_get (he2 0 y rfl))) rfl <| ?_
            refine w0 rfl rfl rfl (S0.cmpS rfl rfl rfl) rfl <| w0 rfl rfl rfl (S0.pickT rfl rfl) rfl <| w0 rfl rfl rfl (S0.pickF rfl rfl) rfl <| w0 rfl rfl rfl (S0.assign rfl) rfl <| wE <| ?_  -- cond
            first | refine WP.condP rfl (fun h5 => ?_) (fun h5 => ?_) | refine WP.condN rfl (fun h5 => ?_) (fun h5 => ?_) | refine WP.cond rfl (fun h5 => ?_) (fun h5 => ?_)
            · skip
              refine WP.seq <| WP.region <| v0 (S0.assign rfl) rfl <| vE <| WP.ret <| ?_  -- ret
              refine r1 rfl rfl ⟨?_, rfl⟩
              simp [h4, h5]
            · skip
              refine WP.skip <| WP.seq <| WP.drawP [(0, none), (1, none), (2, none), (3, none), (4, none), (5, none), (6, none), (7, none)] mixed (by kernel_rfl) (by kernel_rfl) (by kernel_rfl) take0 <| w0 rfl rfl rfl (S0.move rfl) rfl <| ?_  -- op t68 := slice 22 t67 1:i64 none none
              refine w0 rfl rfl rfl (S0.sliceG (i := 1) rfl rfl rfl ⟨by simp, hcap⟩) rfl <| ?_
              refine w0 rfl rfl rfl (S0.move rfl) rfl <| ?_  -- op t70 := slice 22 t69 1:i64 none none
              refine w0 rfl rfl rfl (S0.sliceG (i := 1) rfl rfl rfl ⟨by simp, hcap2⟩) rfl <| ?_
              refine w0 rfl rfl rfl (S0.move rfl) rfl <| w0 rfl rfl rfl (S0.ari rfl rfl rfl (wrap_i64 (by omega))) rfl <| ?_  -- op t73 := call F50{rivulet/topic.covers}(t68, t70, t72)
              refine wcd rfl rfl rfl rfl (S1.callF rfl (ih (deep := deep + 1) hta htb (by simp at hl; omega) (by simp at hld; omega) (by simp at hld; omega)) (take1 at0 (take1 at0 take0))) rfl ?_
              refine w0 rfl rfl rfl (S0.assign rfl) rfl <| wE <| WP.ret <| ?_  -- ret
              refine r1 rfl rfl ⟨?_, rfl⟩
              rw [e0]
              simp [h5]
          · skip
            refine wF rfl rfl rfl rfl <| wF rfl rfl rfl rfl <| wF rfl rfl rfl rfl <| wF rfl rfl rfl rfl <| wF rfl rfl rfl rfl <| wF rfl rfl rfl rfl <| wF rfl rfl rfl rfl <| w0 rfl rfl rfl (S0.pickF rfl rfl) rfl <| w0 rfl rfl rfl (S0.pickF rfl rfl) rfl <| w0 rfl rfl rfl (S0.assign rfl) rfl <| wE <| WP.condF rfl <| WP.skip <| WP.seq <| WP.drawP [(0, none), (1, none), (2, none), (3, none), (4, none), (5, none), (6, none), (7, none)] mixed (by kernel_rfl) (by kernel_rfl) (by kernel_rfl) take0 <| w0 rfl rfl rfl (S0.move rfl) rfl <| ?_  -- op t68 := slice 22 t67 1:i64 none none
            refine w0 rfl rfl rfl (S0.sliceG (i := 1) rfl rfl rfl ⟨by simp, hcap⟩) rfl <| ?_
            refine w0 rfl rfl rfl (S0.move rfl) rfl <| ?_  -- op t70 := slice 22 t69 1:i64 none none
            refine w0 rfl rfl rfl (S0.sliceG (i := 1) rfl rfl rfl ⟨by simp, hcap2⟩) rfl <| ?_
            refine w0 rfl rfl rfl (S0.move rfl) rfl <| w0 rfl rfl rfl (S0.ari rfl rfl rfl (wrap_i64 (by omega))) rfl <| ?_  -- op t73 := call F50{rivulet/topic.covers}(t68, t70, t72)
            refine wcd rfl rfl rfl rfl (S1.callF rfl (ih (deep := deep + 1) hta htb (by simp at hl; omega) (by simp at hld; omega) (by simp at hld; omega)) (take1 at0 (take1 at0 take0))) rfl ?_
            refine w0 rfl rfl rfl (S0.assign rfl) rfl <| wE <| WP.ret <| ?_  -- ret
            refine r1 rfl rfl ⟨?_, rfl⟩
            rw [e0]
            simp [h4]
theorem tcovers_spec {a b : Str} (ha : a.length ≤ 100000) (hb : b.length ≤ 100000) : FN Tryd.prog 30 [sv a, sv b] [] (is (.bool (coversS a b)) []) := by
  have hal := levels_len a
  refine FN.intro 18 [(0, sv a), (1, sv b)] Tryd.func30 rfl (enters Tryd.func30 (by kernel_rfl) rfl) Tryd.ntmps30 rfl rfl ?_
  refine WP.seq <| WP.region <| v0 (S0.assign rfl) rfl <| vE <| WP.seq <| WP.region <| v0 (S0.move rfl) rfl <| ?_  -- op t6 := call F46{rivulet/topic.Filter}(t5)
  refine vcd (S1.callF rfl (filter_spec (show a.length ≤ 1000000 by omega)) take0) rfl ?_
  refine v0 (S0.move rfl) rfl <| ?_  -- guard t7 (wants True) at t8 := move t1 [if #2=True]
  first | refine csP (t := 7) rfl (fun h1 => ?_) (fun h1 => ?_) | refine csN (t := 7) rfl (fun h1 => ?_) (fun h1 => ?_) | refine cs (t := 7) rfl (fun h1 => ?_) (fun h1 => ?_)
  · skip
    refine gT rfl <| v0 (S0.move rfl) rfl <| ?_  -- op t9 := call F46{rivulet/topic.Filter}(t8) [if #2=True]
    refine gT rfl <| vcd (S1.callF rfl (filter_spec (show b.length ≤ 1000000 by omega)) take0) rfl ?_
    refine v0 (S0.pickT rfl rfl) rfl <| v0 (S0.move rfl) rfl <| ?_  -- guard t11 (wants True) at t12 := move t0 [if #6=True]
    first | refine csP (t := 11) rfl (fun h2 => ?_) (fun h2 => ?_) | refine csN (t := 11) rfl (fun h2 => ?_) (fun h2 => ?_) | refine cs (t := 11) rfl (fun h2 => ?_) (fun h2 => ?_)
    · skip
      refine gT rfl <| v0 (S0.move rfl) rfl <| ?_  -- op t13 := call F51{rivulet/topic.Levels}(t12) [if #6=True]
      refine gT rfl <| vc (S1.callF rfl (levels_spec (show a.length ≤ 1000000 by omega)) take0) rfl ?_
      rintro _ _ ⟨ra, hsa, rfl⟩
      refine app ?_
      refine gT rfl <| v0 (S0.move rfl) rfl <| ?_  -- op t15 := call F51{rivulet/topic.Levels}(t14) [if #6=True]
      refine gT rfl <| vc (S1.callF rfl (levels_spec (show b.length ≤ 1000000 by omega)) take0) rfl ?_
      rintro _ _ ⟨rb, hsb, rfl⟩
      refine app ?_
      -- (nothing to walk: op t16 := call F50{rivulet/topic.covers}(t13, t15, 0:i64) [if #6=True])
      refine gT rfl <| vcd (S1.callF rfl (covers_spec (levels a) (deep := 0) hsa.rdS hsb.rdS (by omega) (by omega) (by omega)) (take1 (atS at0) (take1 at0 take0))) rfl ?_
      refine v0 (S0.pickT rfl rfl) rfl <| v0 (S0.assign rfl) rfl <| vE <| WP.ret <| ?_  -- ret
      refine Leaves.drop take0 ?_
      refine r1 rfl rfl ⟨?_, rfl⟩
      simp [coversS, h1, h2]
    · skip
      refine gF rfl rfl <| gF rfl rfl <| gF rfl rfl <| gF rfl rfl <| gF rfl rfl <| v0 (S0.pickF rfl rfl) rfl <| v0 (S0.assign rfl) rfl <| vE <| WP.ret <| ?_  -- ret
      refine r1 rfl rfl ⟨?_, rfl⟩
      simp [coversS, h2]
  · skip
    refine gF rfl rfl <| gF rfl rfl <| v0 (S0.pickF rfl rfl) rfl <| v0 (S0.move rfl) rfl <| gF rfl rfl <| gF rfl rfl <| gF rfl rfl <| gF rfl rfl <| gF rfl rfl <| v0 (S0.pickF rfl rfl) rfl <| v0 (S0.assign rfl) rfl <| vE <| WP.ret <| ?_  -- ret
    refine r1 rfl rfl ⟨?_, rfl⟩
    simp [coversS, h1]
theorem order_spec {a b : Str} (ha : a.length ≤ 100000) (hb : b.length ≤ 100000) : FN Tryd.prog 48 [sv a, sv b] [] (is (.int .i64 (cmpL (levels a) (levels b))) []) := by
  have hal := levels_len a
  refine FN.intro 10 [(0, sv a), (1, sv b)] Tryd.func48 rfl (enters Tryd.func48 (by kernel_rfl) rfl) Tryd.ntmps48 rfl rfl ?_
  refine WP.seq <| WP.region <| v0 (S0.assign rfl) rfl <| vE <| WP.seq <| WP.region <| v0 (S0.move rfl) rfl <| ?_  -- op t6 := call F51{rivulet/topic.Levels}(t5)
  refine vc (S1.callF rfl (levels_spec (show a.length ≤ 1000000 by omega)) take0) rfl ?_
  rintro _ _ ⟨ra, hsa, rfl⟩
  refine app ?_
  refine v0 (S0.move rfl) rfl <| ?_  -- op t8 := call F51{rivulet/topic.Levels}(t7)
  refine vc (S1.callF rfl (levels_spec (show b.length ≤ 1000000 by omega)) take0) rfl ?_
  rintro _ _ ⟨rb, hsb, rfl⟩
  refine app ?_
  -- (nothing to walk: op t9 := call F60{slices.Compare[[]string,string]}(t6, t8))
  refine vcd (S1.callF rfl (compare_spec hsa.rdS hsb.rdS (by omega)) (take1 (atS at0) (take1 at0 take0))) rfl ?_
  refine v0 (S0.assign rfl) rfl <| vE <| WP.ret <| ?_  -- ret
  refine Leaves.drop take0 ?_
  refine r1 rfl rfl ⟨?_, rfl⟩
  rfl
end Go.Proofs.YtnoicafjkgbokaaDoor
