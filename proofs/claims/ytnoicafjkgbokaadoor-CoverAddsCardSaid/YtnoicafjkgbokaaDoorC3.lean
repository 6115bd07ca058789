import Derived.Test.YtnoicafjkgbokaaDoorC2
namespace Go.Proofs.YtnoicafjkgbokaaDoor
open Go

theorem coverLeast_walk (W : World) (lv : Value) (hl : ArgF W stK lv) (mv : Value) (hm : ArgF W stK mv) : FN Tryd.prog 3 [lv, mv] [whole W] (fun v h => v = .bool true ∧ h = [whole W]) := by
  obtain ⟨l0, hrl⟩ := argSts hl
  obtain ⟨m0, hrm⟩ := argSts hm
  have hll := cutS_len l0
  have hml := cutS_len m0
  have hlx := cutS_mem (l := l0)
  have hmx := cutS_mem (l := m0)
  refine FN.intro 35 [(0, lv), (1, mv)] Tryd.func3 rfl (enters Tryd.func3 (by kernel_rfl) rfl) Tryd.ntmps3 rfl rfl ?_
  refine WP.seq <| WP.region <| v0 (S0.assign rfl) rfl <| vE <| WP.seq <| WP.region <| v0 (S0.move rfl) rfl <| ?_  -- op t7 := call F10{rivulet/rivuletlaw05.Cut}(t6)
  refine vc (S1.callF rfl (cut_spec hrl) (take1 at0 take0)) rfl ?_
  rintro lv' _ ⟨lrow, hl, rfl⟩
  refine app ?_
  refine v0 (S0.assign rfl) rfl <| vE <| WP.seq <| WP.region <| v0 (S0.move rfl) rfl <| ?_  -- op t9 := call F10{rivulet/rivuletlaw05.Cut}(t8)
  refine vc (S1.callF rfl (cut_spec hrm) (take1 (atS at0) take0)) rfl ?_
  rintro mv' _ ⟨mrow, hm, rfl⟩
  refine app ?_
  generalize cutS l0 = L at hll hlx hl
  generalize cutS m0 = M at hml hmx hm
  refine v0 (S0.assign rfl) rfl <| vE <| WP.seq <| WP.region <| vnv (S1.buildSlice rfl (qs := []) rfl rfl) rfl fun b10 => v0 (S0.move rfl) rfl <| ?_  -- op t12 := append(t10, t11) :[22, 22]
  refine ve (S1.appendRd rfl (IsSl.row (n := 0) (c := 0) (l := []) (sp := []) rfl rfl (Nat.le_refl _)) rfl hl.rdS (fun q hq => List.mem_flatten.2 ⟨_, by simp, hq⟩) at0 rfl (by simp; omega)) rfl ?_
  rintro wv _ ⟨wrow, hw, rfl⟩
  rw [List.nil_append] at hw
  have hwl := hw.rdS
  refine v0 (S0.assign rfl) rfl <| vE <| WP.seq <| WP.region <| v0 (S0.move rfl) rfl <| ?_  -- op t14 := call F12{rivulet/cover.Least}(t13)
  refine vc (S1.callF rfl (least_spec hl.rdS hlx (by omega)) (take1 (atS (atS (atS at0))) take0)) rfl ?_
  rintro v1 _ ⟨r1', h1, rfl⟩
  refine app ?_
  refine v0 (S0.move rfl) rfl <| ?_  -- op t16 := call F13{rivulet/rivuletref05.Least}(t15)
  refine vc (S1.callF rfl (rleast_spec hl.rdS hlx (by omega)) (take1 (atS at0) take0)) rfl ?_
  rintro v2 _ ⟨r2', h2, rfl⟩
  refine app ?_
  have hlel := least_len L
  -- (nothing to walk: op t17 := call F11{rivulet/rivuletref02.Same}(t14, t16))
  refine vcd (S1.callF rfl (same_spec h1.rdS h2.rdS (by omega)) (take1 (atS (atS at0)) (take1 at0 take0))) rfl ?_
  refine v0 (S0.move rfl) rfl <| ?_  -- guard t18 (wants True) at t19 := move t0 [if #5=True]
  refine csTh (t := 18) rfl ((by simp)) ?_
  refine gT rfl <| v0 (S0.move rfl) rfl <| gT rfl <| v0 (S0.move rfl) rfl <| ?_  -- op t21 := call F14{rivulet/cover.Join}(t19, t20) [if #5=True]
  refine gT rfl <| vc (S1.callF rfl (join2_spec hl.rdS hm.rdS (by omega) (by omega) hlx hmx) (take1 (atS (atS at0)) (take1 (atS (atS (atS at0))) take0))) rfl ?_
  rintro v3 _ ⟨r3', h3, rfl⟩
  refine app ?_
  refine gT rfl <| v0 (S0.move rfl) rfl <| gT rfl <| v0 (S0.move rfl) rfl <| ?_  -- op t24 := call F15{rivulet/rivuletref05.Join}(t22, t23) [if #5=True]
  refine gT rfl <| vc (S1.callF rfl (rjoin_spec hl.rdS hm.rdS (by omega) (by omega) hlx hmx) (take1 (atS at0) (take1 (atS at0) take0))) rfl ?_
  rintro v4 _ ⟨r4', h4, rfl⟩
  refine app ?_
  have hjl := least_len (L ++ M)
  rw [List.length_append] at hjl
  -- (nothing to walk: op t25 := call F11{rivulet/rivuletref02.Same}(t21, t24) [if #5=True])
  refine gT rfl <| vcd (S1.callF rfl (same_spec h3.rdS h4.rdS (by omega)) (take1 (atS (atS (atS at0))) (take1 at0 take0))) rfl ?_
  refine v0 (S0.pickT rfl rfl) rfl <| v0 (S0.move rfl) rfl <| ?_  -- guard t27 (wants True) at t28 := move t0 [if #14=True]
  refine csTh (t := 27) rfl ((by simp)) ?_
  refine gT rfl <| v0 (S0.move rfl) rfl <| gT rfl <| v0 (S0.move rfl) rfl <| ?_  -- op t30 := call F11{rivulet/rivuletref02.Same}(t28, t29) [if #14=True]
  refine gT rfl <| vcd (S1.callF rfl (same_spec hl.rdS hwl (by omega)) (take1 (atS (atS at0)) (take1 (atS (atS (atS (atS (atS at0))))) take0))) rfl ?_
  refine v0 (S0.pickT rfl rfl) rfl <| v0 (S0.move rfl) rfl <| ?_  -- guard t32 (wants True) at t33 := call F16{rivulet/rivuletlaw05.fixed}() [if #19=True]
  refine csTh (t := 32) rfl ((by simp)) ?_
  -- (nothing to walk: op t33 := call F16{rivulet/rivuletlaw05.fixed}() [if #19=True])
  refine gT rfl <| vcd (S1.callF rfl (fixed_spec) take0) rfl ?_
  refine v0 (S0.pickT rfl rfl) rfl <| v0 (S0.assign rfl) rfl <| vE <| WP.ret <| ?_  -- ret
  refine Leaves.drop (take1 (atS (atS (atS (atS (atS (atS (atS at0))))))) take0) ?_
  refine r1 rfl rfl ?_
  exact ⟨rfl, rfl⟩
theorem coverTells_walk (W : World) (lv : Value) (hl : ArgF W stK lv) (mv : Value) (hm : ArgF W stK mv) (s : Str) (hs : s.length ≤ maxLen) : FN Tryd.prog 4 [lv, mv, sv s] [whole W] (fun v h => v = .bool true ∧ h = [whole W]) := by
  obtain ⟨l0, hrl⟩ := argSts hl
  obtain ⟨m0, hrm⟩ := argSts hm
  have hll := cutS_len l0
  have hml := cutS_len m0
  have hlx := cutS_mem (l := l0)
  have hmx := cutS_mem (l := m0)
  refine FN.intro 61 [(0, lv), (1, mv), (2, sv s)] Tryd.func4 rfl (enters Tryd.func4 (by kernel_rfl) rfl) Tryd.ntmps4 rfl rfl ?_
  refine WP.seq <| WP.region <| v0 (S0.assign rfl) rfl <| vE <| WP.seq <| WP.region <| v0 (S0.move rfl) rfl <| ?_  -- op t12 := call F10{rivulet/rivuletlaw05.Cut}(t11)
  refine vc (S1.callF rfl (cut_spec hrl) (take1 at0 take0)) rfl ?_
  rintro lv' _ ⟨lrow, hl, rfl⟩
  refine app ?_
  refine v0 (S0.assign rfl) rfl <| vE <| WP.seq <| WP.region <| v0 (S0.move rfl) rfl <| ?_  -- op t14 := call F10{rivulet/rivuletlaw05.Cut}(t13)
  refine vc (S1.callF rfl (cut_spec hrm) (take1 (atS at0) take0)) rfl ?_
  rintro mv' _ ⟨mrow, hm, rfl⟩
  refine app ?_
  generalize cutS l0 = L at hll hlx hl
  generalize cutS m0 = M at hml hmx hm
  have hcl := clean_len L
  have hcm := clean_len M
  have hw1 := List.length_filter_le (fun x => !decide (x ∈ cleanS L)) (cleanS M)
  have hw2 := List.length_filter_le (fun x => !decide (x ∈ cleanS M)) (cleanS L)
  refine v0 (S0.assign rfl) rfl <| vE <| WP.seq <| WP.region <| v0 (S0.move rfl) rfl <| v0 (S0.move rfl) rfl <| v0 (S0.lenSt rfl) rfl <| v0 (S0.min2 rfl rfl rfl) rfl <| ?_  -- op t19 := slice 9 t15 none t18 none
  rw [min120]
  refine v0 (S0.sliceSt (i := 0) (j := min s.length 120) rfl rfl rfl ⟨Nat.zero_le _, by omega⟩) rfl <| ?_
  have hs120 : ((s.drop 0).take (min s.length 120 - 0)).length ≤ 1000 := by simp; omega
  generalize (s.drop 0).take (min s.length 120 - 0) = t at hs120
  refine v0 (S0.assign rfl) rfl <| vE <| WP.seq <| WP.region <| v0 (S0.move rfl) rfl <| v0 (S0.move rfl) rfl <| ?_  -- op t23 := call F17{rivulet/cover.Diff}(t21, t22)
  refine vc (S1.callF rfl (diff_spec hl.rdS hm.rdS hlx (by omega) hmx (by omega)) (take1 (atS (atS at0)) (take1 at0 take0))) rfl ?_
  rintro _ _ ⟨v1, v2, r1', r2', h1, h2, rfl, rfl⟩
  refine app ?_
  refine v0 (S0.move rfl) rfl <| v0 (S0.extract rfl rfl) rfl <| v0 (S0.extract rfl rfl) rfl <| v0 (S0.assign rfl) rfl <| v0 (S0.assign rfl) rfl <| vE <| WP.seq <| WP.region <| v0 (S0.move rfl) rfl <| v0 (S0.move rfl) rfl <| ?_  -- op t29 := call F18{rivulet/rivuletref05.Diff}(t27, t28)
  refine vc (S1.callF rfl (rdiff_spec hl.rdS hm.rdS hlx (by omega) hmx (by omega)) (take1 (atS (atS at0)) (take1 (atS (atS at0)) take0))) rfl ?_
  rintro _ _ ⟨v3, v4, r3', r4', h3, h4, rfl, rfl⟩
  refine app ?_
  refine v0 (S0.move rfl) rfl <| v0 (S0.extract rfl rfl) rfl <| v0 (S0.extract rfl rfl) rfl <| v0 (S0.assign rfl) rfl <| v0 (S0.assign rfl) rfl <| vE <| WP.seq <| WP.region <| v0 (S0.move rfl) rfl <| v0 (S0.move rfl) rfl <| ?_  -- op t34 := call F19{rivulet/cover.Lets}(t32, t33)
  refine vcd (S1.callF rfl (lets_spec hl (by omega) hlx hs120) (take1 (atS (atS at0)) take0)) rfl ?_
  refine v0 (S0.move rfl) rfl <| v0 (S0.move rfl) rfl <| ?_  -- op t37 := call F20{rivulet/rivuletref05.Lets}(t35, t36)
  refine vcd (S1.callF rfl (rlets_spec hl.rdS hlx hs120 (by omega)) (take1 at0 take0)) rfl ?_
  refine v0 (S0.cmpB rfl rfl rfl) rfl <| v0 (S0.move rfl) rfl <| ?_  -- guard t39 (wants True) at t40 := move t0 [if #7=True]
  refine csTh (t := 39) rfl ((by simp)) ?_
  refine gT rfl <| v0 (S0.move rfl) rfl <| gT rfl <| v0 (S0.move rfl) rfl <| ?_  -- op t42 := call F21{rivulet/cover.Holds}(t40, t41) [if #7=True]
  refine gT rfl <| vcd (S1.callF rfl (holds_spec hl (by omega) hlx hs120) (take1 at0 take0)) rfl ?_
  refine gT rfl <| v0 (S0.move rfl) rfl <| gT rfl <| v0 (S0.move rfl) rfl <| ?_  -- op t45 := call F22{rivulet/rivuletref05.Holds}(t43, t44) [if #7=True]
  refine gT rfl <| vcd (S1.callF rfl (rholds_spec hl.rdS hlx hs120 (by omega)) (take1 at0 take0)) rfl ?_
  refine gT rfl <| v0 (S0.cmpB rfl rfl rfl) rfl <| v0 (S0.pickT rfl rfl) rfl <| v0 (S0.move rfl) rfl <| ?_  -- guard t48 (wants True) at t49 := move t7 [if #16=True]
  refine csTh (t := 48) rfl ((by simp)) ?_
  refine gT rfl <| v0 (S0.move rfl) rfl <| gT rfl <| v0 (S0.move rfl) rfl <| ?_  -- op t51 := call F11{rivulet/rivuletref02.Same}(t49, t50) [if #16=True]
  refine gT rfl <| vcd (S1.callF rfl (same_spec h1.rdS h3.rdS (by unfold withoutS; omega)) (take1 (atS (atS (atS (atS at0)))) (take1 (atS at0) take0))) rfl ?_
  refine v0 (S0.pickT rfl rfl) rfl <| v0 (S0.move rfl) rfl <| ?_  -- guard t53 (wants True) at t54 := move t8 [if #21=True]
  refine csTh (t := 53) rfl ((by simp)) ?_
  refine gT rfl <| v0 (S0.move rfl) rfl <| gT rfl <| v0 (S0.move rfl) rfl <| ?_  -- op t56 := call F11{rivulet/rivuletref02.Same}(t54, t55) [if #21=True]
  refine gT rfl <| vcd (S1.callF rfl (same_spec h2.rdS h4.rdS (by unfold withoutS; omega)) (take1 (atS (atS (atS (atS (atS at0))))) (take1 (atS (atS (atS at0))) take0))) rfl ?_
  refine v0 (S0.pickT rfl rfl) rfl <| v0 (S0.move rfl) rfl <| ?_  -- guard t58 (wants True) at t59 := call F16{rivulet/rivuletlaw05.fixed}() [if #26=True]
  refine csTh (t := 58) rfl ((by simp)) ?_
  -- (nothing to walk: op t59 := call F16{rivulet/rivuletlaw05.fixed}() [if #26=True])
  refine gT rfl <| vcd (S1.callF rfl (fixed_spec) take0) rfl ?_
  refine v0 (S0.pickT rfl rfl) rfl <| v0 (S0.assign rfl) rfl <| vE <| WP.ret <| ?_  -- ret
  refine Leaves.drop (take1 (atS (atS (atS (atS (atS (atS at0)))))) take0) ?_
  refine r1 rfl rfl ?_
  exact ⟨rfl, rfl⟩
end Go.Proofs.YtnoicafjkgbokaaDoor
