import Derived.Test.YtnoicafjkgbokaaDoorC3
namespace Go.Proofs.YtnoicafjkgbokaaDoor
open Go

theorem without_self (l : List Str) : withoutS l l = [] := by
  rw [List.eq_nil_iff_forall_not_mem]
  intro x hx
  obtain ⟨h1, h2⟩ := mem_without.1 hx
  exact h2 h1
theorem diffs_clean (a b : List Str) : cleanS (withoutS (cleanS a) (withoutS (cleanS a) (cleanS b)) ++ withoutS (cleanS b) (cleanS a)) = cleanS b :=
  clean_ext fun y hy => by
    simp only [List.mem_append, mem_without, mem_clean]
    constructor
    · rintro (⟨⟨h1, h2⟩, h3⟩ | ⟨⟨h1, h2⟩, -⟩)
      · exact Classical.byContradiction fun hn => h3 ⟨⟨h1, h2⟩, fun hb => hn hb.1⟩
      · exact h1
    · intro h
      by_cases ha : y ∈ a
      · exact .inl ⟨⟨ha, hy⟩, fun hn => hn.2 ⟨h, hy⟩⟩
      · exact .inr ⟨⟨h, hy⟩, fun h' => ha h'.1⟩
theorem coverDiffs_walk (W : World) (ov : Value) (ho : ArgF W stK ov) (nv : Value) (hn : ArgF W stK nv) : FN Tryd.prog 7 [ov, nv] [whole W] (fun v h => v = .bool true ∧ h = [whole W]) := by
  obtain ⟨l0, hrl⟩ := argSts ho
  obtain ⟨m0, hrm⟩ := argSts hn
  have hll := cutS_len l0
  have hml := cutS_len m0
  have hlx := cutS_mem (l := l0)
  have hmx := cutS_mem (l := m0)
  refine FN.intro 62 [(0, ov), (1, nv)] Tryd.func7 rfl (enters Tryd.func7 (by kernel_rfl) rfl) Tryd.ntmps7 rfl rfl ?_
  refine WP.seq <| WP.region <| v0 (S0.assign rfl) rfl <| vE <| WP.seq <| WP.region <| v0 (S0.move rfl) rfl <| ?_  -- op t13 := call F10{rivulet/rivuletlaw05.Cut}(t12)
  refine vc (S1.callF rfl (cut_spec hrl) (take1 at0 take0)) rfl ?_
  rintro lv' _ ⟨lrow, hl, rfl⟩
  refine app ?_
  refine v0 (S0.assign rfl) rfl <| vE <| WP.seq <| WP.region <| v0 (S0.move rfl) rfl <| ?_  -- op t15 := call F10{rivulet/rivuletlaw05.Cut}(t14)
  refine vc (S1.callF rfl (cut_spec hrm) (take1 (atS at0) take0)) rfl ?_
  rintro mv' _ ⟨mrow, hm, rfl⟩
  refine app ?_
  generalize cutS l0 = L at hll hlx hl
  generalize cutS m0 = M at hml hmx hm
  have hcl := clean_len L
  have hcm := clean_len M
  have hw1 : (withoutS (cleanS M) (cleanS L)).length ≤ (cleanS M).length := List.length_filter_le _ _
  have hw2 : (withoutS (cleanS L) (cleanS M)).length ≤ (cleanS L).length := List.length_filter_le _ _
  have hw3 : (withoutS (cleanS L) (withoutS (cleanS L) (cleanS M))).length ≤ (cleanS L).length := List.length_filter_le _ _
  have hKx : ∀ x ∈ withoutS (cleanS L) (withoutS (cleanS L) (cleanS M)) ++ withoutS (cleanS M) (cleanS L), x.length ≤ 1000 := fun x hx => by
    rcases List.mem_append.1 hx with h | h
    · exact hlx x (mem_clean.1 (mem_without.1 h).1).1
    · exact hmx x (mem_clean.1 (mem_without.1 h).1).1
  have hK := diffs_clean L M
  refine v0 (S0.assign rfl) rfl <| vE <| WP.seq <| WP.region <| v0 (S0.move rfl) rfl <| v0 (S0.move rfl) rfl <| ?_  -- op t19 := call F17{rivulet/cover.Diff}(t17, t18)
  refine vc (S1.callF rfl (diff_spec hl.rdS hm.rdS hlx (by omega) hmx (by omega)) (take1 (atS (atS at0)) (take1 at0 take0))) rfl ?_
  rintro _ _ ⟨come, gone, r1', r2', h1, h2, rfl, rfl⟩
  refine app ?_
  refine v0 (S0.move rfl) rfl <| v0 (S0.extract rfl rfl) rfl <| v0 (S0.extract rfl rfl) rfl <| v0 (S0.assign rfl) rfl <| v0 (S0.assign rfl) rfl <| vE <| WP.seq <| WP.region <| v0 (S0.move rfl) rfl <| ?_  -- op t23 := call F26{rivulet/rivuletref05.Clean}(t22)
  refine vc (S1.callF rfl (rclean_spec hl.rdS hlx (by omega)) (take1 (atS (atS at0)) take0)) rfl ?_
  rintro cv _ ⟨crow, hc, rfl⟩
  refine app ?_
  refine v0 (S0.move rfl) rfl <| ?_  -- op t25 := call F25{rivulet/rivuletref05.Without}(t23, t24)
  refine vc (S1.callF rfl (rwithout_spec hc.rdS h2.rdS (by omega) (by omega)) (take1 at0 (take1 (atS (atS at0)) take0))) rfl ?_
  rintro wv _ ⟨wrow, hw, rfl⟩
  refine app ?_
  refine v0 (S0.assign rfl) rfl <| vE <| WP.seq <| WP.region <| v0 (S0.move rfl) rfl <| v0 (S0.move rfl) rfl <| ?_  -- op t28 := append(t26, t27) :[22, 22]
  refine ve (S1.appendRd rfl hw rfl h1.rdS (fun q hq => List.mem_flatten.2 ⟨_, by simp, hq⟩) at0 rfl (by rw [strs_len]; omega)) rfl ?_
  rintro av _ ⟨arow, ha, rfl⟩
  have ha' : IsSl 9 1 av (strs (withoutS (cleanS L) (withoutS (cleanS L) (cleanS M)) ++ withoutS (cleanS M) (cleanS L))) arow := by simpa [strs] using ha
  have hKl : (withoutS (cleanS L) (withoutS (cleanS L) (cleanS M)) ++ withoutS (cleanS M) (cleanS L)).length ≤ 1000 := by rw [List.length_append]; omega
  generalize withoutS (cleanS L) (withoutS (cleanS L) (cleanS M)) ++ withoutS (cleanS M) (cleanS L) = K at hK hKx ha' hKl
  refine v0 (S0.assign rfl) rfl <| vE <| WP.seq <| WP.region <| v0 (S0.move rfl) rfl <| v0 (S0.move rfl) rfl <| ?_  -- op t32 := call F17{rivulet/cover.Diff}(t30, t31)
  refine vc (S1.callF rfl (diff_spec ha'.rdS hm.rdS hKx hKl hmx (by omega)) (take1 at0 (take1 (atS (atS (atS (atS at0)))) take0))) rfl ?_
  rintro _ _ ⟨xv, yv, rx, ry, hx, hy, rfl, rfl⟩
  refine app ?_
  rw [hK, without_self] at hx hy
  obtain ⟨xa, xc, rfl, -, -⟩ := hx.strsE
  obtain ⟨ya, yc, rfl, -, -⟩ := hy.strsE
  refine v0 (S0.move rfl) rfl <| v0 (S0.extract rfl rfl) rfl <| v0 (S0.extract rfl rfl) rfl <| v0 (S0.assign rfl) rfl <| v0 (S0.assign rfl) rfl <| vE <| WP.seq <| WP.region <| v0 (S0.move rfl) rfl <| v0 (S0.move rfl) rfl <| ?_  -- op t38 := call F17{rivulet/cover.Diff}(t36, t37)
  refine vc (S1.callF rfl (diff_spec hm.rdS hl.rdS hmx (by omega) hlx (by omega)) (take1 (atS (atS (atS at0))) (take1 (atS (atS (atS (atS (atS at0))))) take0))) rfl ?_
  rintro _ _ ⟨v3, v4, r3', r4', h3, h4, rfl, rfl⟩
  refine app ?_
  refine v0 (S0.move rfl) rfl <| v0 (S0.extract rfl rfl) rfl <| v0 (S0.extract rfl rfl) rfl <| v0 (S0.assign rfl) rfl <| v0 (S0.assign rfl) rfl <| vE <| WP.seq <| WP.region <| v0 (S0.move rfl) rfl <| v0 (S0.lenSl rfl) rfl <| v0 (S0.cmp rfl rfl rfl) rfl <| v0 (S0.move rfl) rfl <| ?_  -- guard t44 (wants True) at t45 := move t9 [if #3=True]
  refine csTh (t := 44) rfl (rfl) ?_
  refine gT rfl <| v0 (S0.move rfl) rfl <| gT rfl <| v0 (S0.lenSl rfl) rfl <| gT rfl <| v0 (S0.cmp rfl rfl rfl) rfl <| v0 (S0.pickT rfl rfl) rfl <| v0 (S0.move rfl) rfl <| ?_  -- guard t49 (wants True) at t50 := move t10 [if #8=True]
  refine csTh (t := 49) rfl (rfl) ?_
  refine gT rfl <| v0 (S0.move rfl) rfl <| gT rfl <| v0 (S0.move rfl) rfl <| ?_  -- op t52 := call F11{rivulet/rivuletref02.Same}(t50, t51) [if #8=True]
  refine gT rfl <| vcd (S1.callF rfl (same_spec h3.rdS h2.rdS (by omega)) (take1 at0 (take1 (atS (atS (atS (atS (atS (atS (atS at0))))))) take0))) rfl ?_
  refine v0 (S0.pickT rfl rfl) rfl <| v0 (S0.move rfl) rfl <| ?_  -- guard t54 (wants True) at t55 := move t11 [if #13=True]
  refine csTh (t := 54) rfl ((by simp)) ?_
  refine gT rfl <| v0 (S0.move rfl) rfl <| gT rfl <| v0 (S0.move rfl) rfl <| ?_  -- op t57 := call F11{rivulet/rivuletref02.Same}(t55, t56) [if #13=True]
  refine gT rfl <| vcd (S1.callF rfl (same_spec h4.rdS h1.rdS (by omega)) (take1 (atS (atS at0)) (take1 (atS (atS (atS (atS (atS (atS (atS (atS at0)))))))) take0))) rfl ?_
  refine v0 (S0.pickT rfl rfl) rfl <| v0 (S0.move rfl) rfl <| ?_  -- guard t59 (wants True) at t60 := call F16{rivulet/rivuletlaw05.fixed}() [if #18=True]
  refine csTh (t := 59) rfl ((by simp)) ?_
  -- (nothing to walk: op t60 := call F16{rivulet/rivuletlaw05.fixed}() [if #18=True])
  refine gT rfl <| vcd (S1.callF rfl (fixed_spec) take0) rfl ?_
  refine v0 (S0.pickT rfl rfl) rfl <| v0 (S0.assign rfl) rfl <| vE <| WP.ret <| ?_  -- ret
  refine Leaves.drop (take1 (atS (atS (atS (atS (atS (atS (atS (atS (atS (atS at0)))))))))) take0) ?_
  refine r1 rfl rfl ?_
  exact ⟨rfl, rfl⟩
theorem coverLets_walk (W : World) (lv : Value) (hl : ArgF W stK lv) (f : Str) (hf : f.length ≤ maxLen) (s : Str) (hs : s.length ≤ maxLen) : FN Tryd.prog 9 [lv, sv f, sv s] [whole W] (fun v h => v = .bool true ∧ h = [whole W]) := by
  obtain ⟨l0, hrl⟩ := argSts hl
  have hll := cutS_len l0
  have hlx := cutS_mem (l := l0)
  refine FN.intro 51 [(0, lv), (1, sv f), (2, sv s)] Tryd.func9 rfl (enters Tryd.func9 (by kernel_rfl) rfl) Tryd.ntmps9 rfl rfl ?_
  refine WP.seq <| WP.region <| v0 (S0.assign rfl) rfl <| vE <| WP.seq <| WP.region <| v0 (S0.move rfl) rfl <| ?_  -- op t8 := call F10{rivulet/rivuletlaw05.Cut}(t7)
  refine vc (S1.callF rfl (cut_spec hrl) (take1 at0 take0)) rfl ?_
  rintro lv' _ ⟨lrow, hl, rfl⟩
  refine app ?_
  generalize cutS l0 = L at hll hlx hl
  refine v0 (S0.assign rfl) rfl <| vE <| WP.seq <| WP.region <| v0 (S0.move rfl) rfl <| v0 (S0.move rfl) rfl <| v0 (S0.lenSt rfl) rfl <| v0 (S0.min2 rfl rfl rfl) rfl <| ?_  -- op t13 := slice 9 t9 none t12 none
  rw [min120]
  refine v0 (S0.sliceSt (i := 0) (j := min f.length 120) rfl rfl rfl ⟨Nat.zero_le _, by omega⟩) rfl <| ?_
  have hf120 : ((f.drop 0).take (min f.length 120 - 0)).length ≤ 1000 := by simp; omega
  generalize (f.drop 0).take (min f.length 120 - 0) = F at hf120
  refine v0 (S0.assign rfl) rfl <| vE <| WP.seq <| WP.region <| v0 (S0.move rfl) rfl <| v0 (S0.move rfl) rfl <| v0 (S0.lenSt rfl) rfl <| v0 (S0.min2 rfl rfl rfl) rfl <| ?_  -- op t18 := slice 9 t14 none t17 none
  rw [min120]
  refine v0 (S0.sliceSt (i := 0) (j := min s.length 120) rfl rfl rfl ⟨Nat.zero_le _, by omega⟩) rfl <| ?_
  have hs120 : ((s.drop 0).take (min s.length 120 - 0)).length ≤ 1000 := by simp; omega
  generalize (s.drop 0).take (min s.length 120 - 0) = t at hs120
  have hfact : holdsS L F = true → matchS F t = true → letsS L t = true := fun h1 h2 => lets_holds h1 h2
  have hfact2 : rightS t = true → letsS L t = holdsS L t := lets_right
  refine v0 (S0.assign rfl) rfl <| vE <| WP.seq <| WP.region <| v0 (S0.move rfl) rfl <| v0 (S0.move rfl) rfl <| ?_  -- op t21 := call F21{rivulet/cover.Holds}(t19, t20)
  refine vcd (S1.callF rfl (holds_spec hl (by omega) hlx hf120) (take1 at0 take0)) rfl ?_
  refine v0 (S0.not rfl) rfl <| v0 (S0.move rfl) rfl <| ?_  -- guard t23 (wants False) at t24 := move t1 [if #4=False]
  first | refine csP (t := 23) rfl (fun h1 => ?_) (fun h1 => ?_) | refine csN (t := 23) rfl (fun h1 => ?_) (fun h1 => ?_) | refine cs (t := 23) rfl (fun h1 => ?_) (fun h1 => ?_)
  · skip
    refine gF rfl rfl <| gF rfl rfl <| gF rfl rfl <| gF rfl rfl <| v0 (S0.pickT rfl rfl) rfl <| v0 (S0.move rfl) rfl <| gF rfl rfl <| gF rfl rfl <| gF rfl rfl <| v0 (S0.pickT rfl rfl) rfl <| v0 (S0.move rfl) rfl <| gT rfl <| v0 (S0.move rfl) rfl <| ?_  -- op t36 := call F28{rivulet/rivuletref03.Right}(t35) [if #15=True]
    refine gT rfl <| vcd (S1.callF rfl (rright_spec (show t.length ≤ 900000 by omega)) take0) rfl ?_
    refine gT rfl <| v0 (S0.not rfl) rfl <| gT rfl <| v0 (S0.move rfl) rfl <| ?_  -- guard t38 (wants False) at t39 := move t0 [if #19=False]
    first | refine csP (t := 38) rfl (fun h3 => ?_) (fun h3 => ?_) | refine csN (t := 38) rfl (fun h3 => ?_) (fun h3 => ?_) | refine cs (t := 38) rfl (fun h3 => ?_) (fun h3 => ?_)
    · skip
      refine gF rfl rfl <| gF rfl rfl <| gF rfl rfl <| gF rfl rfl <| gF rfl rfl <| gF rfl rfl <| gF rfl rfl <| gT rfl <| v0 (S0.pickT rfl rfl) rfl <| v0 (S0.pickT rfl rfl) rfl <| v0 (S0.move rfl) rfl <| ?_  -- op t49 := call F16{rivulet/rivuletlaw05.fixed}() [if #29=True]
      refine gT rfl <| vcd (S1.callF rfl (fixed_spec) take0) rfl ?_
      refine v0 (S0.pickT rfl rfl) rfl <| v0 (S0.assign rfl) rfl <| vE <| WP.ret <| ?_  -- ret
      refine Leaves.drop (take1 (atS at0) take0) ?_
      refine r1 rfl rfl ?_
      exact ⟨rfl, rfl⟩
    · skip
      have h3' : rightS t = true := by simpa using h3
      refine gT rfl <| v0 (S0.move rfl) rfl <| gT rfl <| v0 (S0.move rfl) rfl <| ?_  -- op t41 := call F19{rivulet/cover.Lets}(t39, t40) [if #19=False]
      refine gT rfl <| vcd (S1.callF rfl (lets_spec hl (by omega) hlx hs120) (take1 at0 take0)) rfl ?_
      refine gT rfl <| v0 (S0.move rfl) rfl <| gT rfl <| v0 (S0.move rfl) rfl <| ?_  -- op t44 := call F21{rivulet/cover.Holds}(t42, t43) [if #19=False]
      refine gT rfl <| vcd (S1.callF rfl (holds_spec hl (by omega) hlx hs120) (take1 at0 take0)) rfl ?_
      refine gT rfl <| v0 (S0.cmpB rfl rfl rfl) rfl <| gT rfl <| v0 (S0.pickF rfl rfl) rfl <| v0 (S0.pickT rfl rfl) rfl <| v0 (S0.move rfl) rfl <| ?_  -- guard t48 (wants True) at t49 := call F16{rivulet/rivuletlaw05.fixed}() [if #29=True]
      refine csTh (t := 48) rfl ((by rw [hfact2 h3']; simp)) ?_
      -- (nothing to walk: op t49 := call F16{rivulet/rivuletlaw05.fixed}() [if #29=True])
      refine gT rfl <| vcd (S1.callF rfl (fixed_spec) take0) rfl ?_
      refine v0 (S0.pickT rfl rfl) rfl <| v0 (S0.assign rfl) rfl <| vE <| WP.ret <| ?_  -- ret
      refine Leaves.drop (take1 (atS at0) take0) ?_
      refine r1 rfl rfl ?_
      exact ⟨rfl, rfl⟩
  · skip
    have h1' : holdsS L F = true := by simpa using h1
    refine gT rfl <| v0 (S0.move rfl) rfl <| gT rfl <| v0 (S0.move rfl) rfl <| ?_  -- op t26 := call F27{rivulet/rivuletref03.Match}(t24, t25) [if #4=False]
    refine gT rfl <| vcd (S1.callF rfl (rmatch_spec (show F.length ≤ 800000 by omega) (show t.length ≤ 800000 by omega)) take0) rfl ?_
    refine gT rfl <| v0 (S0.not rfl) rfl <| v0 (S0.pickF rfl rfl) rfl <| v0 (S0.move rfl) rfl <| ?_  -- guard t29 (wants False) at t30 := move t0 [if #10=False]
    first | refine csP (t := 29) rfl (fun h2 => ?_) (fun h2 => ?_) | refine csN (t := 29) rfl (fun h2 => ?_) (fun h2 => ?_) | refine cs (t := 29) rfl (fun h2 => ?_) (fun h2 => ?_)
    · skip
      refine gF rfl rfl <| gF rfl rfl <| gF rfl rfl <| v0 (S0.pickT rfl rfl) rfl <| v0 (S0.move rfl) rfl <| gT rfl <| v0 (S0.move rfl) rfl <| ?_  -- op t36 := call F28{rivulet/rivuletref03.Right}(t35) [if #15=True]
      refine gT rfl <| vcd (S1.callF rfl (rright_spec (show t.length ≤ 900000 by omega)) take0) rfl ?_
      refine gT rfl <| v0 (S0.not rfl) rfl <| gT rfl <| v0 (S0.move rfl) rfl <| ?_  -- guard t38 (wants False) at t39 := move t0 [if #19=False]
      first | refine csP (t := 38) rfl (fun h3 => ?_) (fun h3 => ?_) | refine csN (t := 38) rfl (fun h3 => ?_) (fun h3 => ?_) | refine cs (t := 38) rfl (fun h3 => ?_) (fun h3 => ?_)
      · skip
        refine gF rfl rfl <| gF rfl rfl <| gF rfl rfl <| gF rfl rfl <| gF rfl rfl <| gF rfl rfl <| gF rfl rfl <| gT rfl <| v0 (S0.pickT rfl rfl) rfl <| v0 (S0.pickT rfl rfl) rfl <| v0 (S0.move rfl) rfl <| ?_  -- op t49 := call F16{rivulet/rivuletlaw05.fixed}() [if #29=True]
        refine gT rfl <| vcd (S1.callF rfl (fixed_spec) take0) rfl ?_
        refine v0 (S0.pickT rfl rfl) rfl <| v0 (S0.assign rfl) rfl <| vE <| WP.ret <| ?_  -- ret
        refine Leaves.drop (take1 (atS at0) take0) ?_
        refine r1 rfl rfl ?_
        exact ⟨rfl, rfl⟩
      · skip
        have h3' : rightS t = true := by simpa using h3
        refine gT rfl <| v0 (S0.move rfl) rfl <| gT rfl <| v0 (S0.move rfl) rfl <| ?_  -- op t41 := call F19{rivulet/cover.Lets}(t39, t40) [if #19=False]
        refine gT rfl <| vcd (S1.callF rfl (lets_spec hl (by omega) hlx hs120) (take1 at0 take0)) rfl ?_
        refine gT rfl <| v0 (S0.move rfl) rfl <| gT rfl <| v0 (S0.move rfl) rfl <| ?_  -- op t44 := call F21{rivulet/cover.Holds}(t42, t43) [if #19=False]
        refine gT rfl <| vcd (S1.callF rfl (holds_spec hl (by omega) hlx hs120) (take1 at0 take0)) rfl ?_
        refine gT rfl <| v0 (S0.cmpB rfl rfl rfl) rfl <| gT rfl <| v0 (S0.pickF rfl rfl) rfl <| v0 (S0.pickT rfl rfl) rfl <| v0 (S0.move rfl) rfl <| ?_  -- guard t48 (wants True) at t49 := call F16{rivulet/rivuletlaw05.fixed}() [if #29=True]
        refine csTh (t := 48) rfl ((by rw [hfact2 h3']; simp)) ?_
        -- (nothing to walk: op t49 := call F16{rivulet/rivuletlaw05.fixed}() [if #29=True])
        refine gT rfl <| vcd (S1.callF rfl (fixed_spec) take0) rfl ?_
        refine v0 (S0.pickT rfl rfl) rfl <| v0 (S0.assign rfl) rfl <| vE <| WP.ret <| ?_  -- ret
        refine Leaves.drop (take1 (atS at0) take0) ?_
        refine r1 rfl rfl ?_
        exact ⟨rfl, rfl⟩
    · skip
      have h2' : matchS F t = true := by simpa using h2
      refine gT rfl <| v0 (S0.move rfl) rfl <| gT rfl <| v0 (S0.move rfl) rfl <| ?_  -- op t32 := call F19{rivulet/cover.Lets}(t30, t31) [if #10=False]
      refine gT rfl <| vcd (S1.callF rfl (lets_spec hl (by omega) hlx hs120) (take1 at0 take0)) rfl ?_
      refine v0 (S0.pickF rfl rfl) rfl <| v0 (S0.move rfl) rfl <| ?_  -- guard t34 (wants True) at t35 := move t2 [if #15=True]
      refine csTh (t := 34) rfl ((hfact h1' h2')) ?_
      refine gT rfl <| v0 (S0.move rfl) rfl <| ?_  -- op t36 := call F28{rivulet/rivuletref03.Right}(t35) [if #15=True]
      refine gT rfl <| vcd (S1.callF rfl (rright_spec (show t.length ≤ 900000 by omega)) take0) rfl ?_
      refine gT rfl <| v0 (S0.not rfl) rfl <| gT rfl <| v0 (S0.move rfl) rfl <| ?_  -- guard t38 (wants False) at t39 := move t0 [if #19=False]
      first | refine csP (t := 38) rfl (fun h3 => ?_) (fun h3 => ?_) | refine csN (t := 38) rfl (fun h3 => ?_) (fun h3 => ?_) | refine cs (t := 38) rfl (fun h3 => ?_) (fun h3 => ?_)
      · skip
        refine gF rfl rfl <| gF rfl rfl <| gF rfl rfl <| gF rfl rfl <| gF rfl rfl <| gF rfl rfl <| gF rfl rfl <| gT rfl <| v0 (S0.pickT rfl rfl) rfl <| v0 (S0.pickT rfl rfl) rfl <| v0 (S0.move rfl) rfl <| ?_  -- op t49 := call F16{rivulet/rivuletlaw05.fixed}() [if #29=True]
        refine gT rfl <| vcd (S1.callF rfl (fixed_spec) take0) rfl ?_
        refine v0 (S0.pickT rfl rfl) rfl <| v0 (S0.assign rfl) rfl <| vE <| WP.ret <| ?_  -- ret
        refine Leaves.drop (take1 (atS at0) take0) ?_
        refine r1 rfl rfl ?_
        exact ⟨rfl, rfl⟩
      · skip
        have h3' : rightS t = true := by simpa using h3
        refine gT rfl <| v0 (S0.move rfl) rfl <| gT rfl <| v0 (S0.move rfl) rfl <| ?_  -- op t41 := call F19{rivulet/cover.Lets}(t39, t40) [if #19=False]
        refine gT rfl <| vcd (S1.callF rfl (lets_spec hl (by omega) hlx hs120) (take1 at0 take0)) rfl ?_
        refine gT rfl <| v0 (S0.move rfl) rfl <| gT rfl <| v0 (S0.move rfl) rfl <| ?_  -- op t44 := call F21{rivulet/cover.Holds}(t42, t43) [if #19=False]
        refine gT rfl <| vcd (S1.callF rfl (holds_spec hl (by omega) hlx hs120) (take1 at0 take0)) rfl ?_
        refine gT rfl <| v0 (S0.cmpB rfl rfl rfl) rfl <| gT rfl <| v0 (S0.pickF rfl rfl) rfl <| v0 (S0.pickT rfl rfl) rfl <| v0 (S0.move rfl) rfl <| ?_  -- guard t48 (wants True) at t49 := call F16{rivulet/rivuletlaw05.fixed}() [if #29=True]
        refine csTh (t := 48) rfl ((by rw [hfact2 h3']; simp)) ?_
        -- (nothing to walk: op t49 := call F16{rivulet/rivuletlaw05.fixed}() [if #29=True])
        refine gT rfl <| vcd (S1.callF rfl (fixed_spec) take0) rfl ?_
        refine v0 (S0.pickT rfl rfl) rfl <| v0 (S0.assign rfl) rfl <| vE <| WP.ret <| ?_  -- ret
        refine Leaves.drop (take1 (atS at0) take0) ?_
        refine r1 rfl rfl ?_
        exact ⟨rfl, rfl⟩
end Go.Proofs.YtnoicafjkgbokaaDoor
