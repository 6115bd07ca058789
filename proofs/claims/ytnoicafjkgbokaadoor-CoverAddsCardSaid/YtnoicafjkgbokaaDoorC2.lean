import Derived.Test.YtnoicafjkgbokaaDoorC1
namespace Go.Proofs.YtnoicafjkgbokaaDoor
open Go

theorem mem_small {l : List Str} (h : l.all (fun x => decide (x.length ≤ 1000)) = true) : ∀ x ∈ l, x.length ≤ 1000 := fun x hx => by simpa using List.all_eq_true.1 h x hx
theorem row_rdS {b n : Nat} {l : List Str} (h : l.length = n) : RdS (.slice (some ⟨b, 0, none⟩) n n) l [(b, .cells ⟨strs l⟩ 9 (0, 0))] := by
  have := IsSl.rdS (E := 9) (R := l) (IsSl.row (E := 9) (k := 1) (b := b) (n := n) (c := n) (l := strs l) (sp := []) (by simp [strs, h]) (by simp [strs, h]) (Nat.le_refl _))
  rwa [List.append_nil] at this
theorem row_sl {b n : Nat} {l : List Str} (h : l.length = n) : IsSl 9 1 (.slice (some ⟨b, 0, none⟩) n n) (strs l) [(b, .cells ⟨strs l⟩ 9 (0, 0))] := by
  have := (IsSl.row (E := 9) (k := 1) (b := b) (n := n) (c := n) (l := strs l) (sp := []) (by simp [strs, h]) (by simp [strs, h]) (Nat.le_refl _))
  rwa [List.append_nil] at this
theorem lets_nil {s : Str} (ht : s.length ≤ 1000) : FN Tryd.prog 19 [.slice none 0 0, sv s] [] (is (.bool false) []) :=
  FN.join (lets_spec (l := []) (row := []) IsSl.nil (by simp) (by simp) ht) (by simp) _ fun v h' ⟨e1, e2⟩ => ⟨[], ⟨e1, rfl⟩, by rw [e2]; simp⟩
theorem fixed_spec : FN Tryd.prog 16 [] [] (is (.bool true) []) := by
  have e1 : withoutS (cleanS [[99], [98], [63]]) (cleanS [[97], [99], [99]]) = [[98]] := by decide +kernel
  have e2 : withoutS (cleanS [[97], [99], [99]]) (cleanS [[99], [98], [63]]) = [[97]] := by decide +kernel
  have e3 : leastS [[97, 47, 98], [99], [97, 47, 43], [99], [47, 47]] = [[97, 47, 43], [99]] := by decide +kernel
  have e4 : leastS [[43, 47, 35], [35]] = [[35]] := by decide +kernel
  have e5 : letsS [[97, 47, 43]] [97, 47, 98] = true := by decide +kernel
  have e6 : letsS [] [97] = false := by decide +kernel
  have e7 : holdsS [[97, 47, 35]] [97, 47, 43] = true := by decide +kernel
  have e8 : holdsS [[97]] [43] = false := by decide +kernel
  have e9 : leastS ([[97]] ++ [[43]]) = [[43]] := by decide +kernel
  refine FN.intro 53 [] Tryd.func16 rfl (enters Tryd.func16 (by kernel_rfl) rfl) Tryd.ntmps16 rfl rfl ?_
  refine WP.seq <| WP.region <| v0 (S0.assign rfl) rfl <| vE <| WP.seq <| WP.region <| vnv (S1.buildSlice rfl (qs := [(0, _), (1, _), (2, _)]) rfl rfl) rfl fun b4 => vnv (S1.buildSlice rfl (qs := [(0, _), (1, _), (2, _)]) rfl rfl) rfl fun b5 => ?_  -- op t6 := call F17{rivulet/cover.Diff}(t4, t5)
  refine vc (S1.callF rfl (diff_spec (row_rdS (l := [[97], [99], [99]]) rfl) (row_rdS (l := [[99], [98], [63]]) rfl) (mem_small rfl) (by decide) (mem_small rfl) (by decide)) (take1 (atS at0) (take1 at0 take0))) rfl ?_
  rintro _ _ ⟨v1, v2, r1', r2', h1, h2, rfl, rfl⟩
  refine app ?_
  rw [e1] at h1
  rw [e2] at h2
  refine v0 (S0.move rfl) rfl <| v0 (S0.extract rfl rfl) rfl <| v0 (S0.extract rfl rfl) rfl <| v0 (S0.assign rfl) rfl <| v0 (S0.assign rfl) rfl <| vE <| WP.seq <| WP.region <| vnv (S1.buildSlice rfl (qs := [(0, _), (1, _), (2, _), (3, _), (4, _)]) rfl rfl) rfl fun b9 => ?_  -- op t10 := call F12{rivulet/cover.Least}(t9)
  refine vc (S1.callF rfl (least_spec (row_rdS (l := [[97, 47, 98], [99], [97, 47, 43], [99], [47, 47]]) rfl) (mem_small rfl) (by decide)) (take1 at0 take0)) rfl ?_
  rintro v3 _ ⟨r3, h3, rfl⟩
  refine app ?_
  rw [e3] at h3
  refine vnv (S1.buildSlice rfl (qs := [(0, _), (1, _)]) rfl rfl) rfl fun b11 => ?_  -- op t12 := call F11{rivulet/rivuletref02.Same}(t10, t11)
  refine vcd (S1.callF rfl (same_spec h3.rdS (row_rdS (l := [[97, 47, 43], [99]]) rfl) (by decide)) (take1 (atS at0) (take1 at0 take0))) rfl ?_
  refine v0 (S0.move rfl) rfl <| ?_  -- guard t13 (wants True) at t14 := buildSlice 22 2 [(0, Value.string {'data': [43, 47, 35]}), (1, Value.string {'data': [35]})] [if #4=True]
  refine csTh (t := 13) rfl (rfl) ?_
  refine gT rfl <| vnv (S1.buildSlice rfl (qs := [(0, _), (1, _)]) rfl rfl) rfl fun b14 => ?_  -- op t15 := call F12{rivulet/cover.Least}(t14) [if #4=True]
  refine gT rfl <| vc (S1.callF rfl (least_spec (row_rdS (l := [[43, 47, 35], [35]]) rfl) (mem_small rfl) (by decide)) (take1 at0 take0)) rfl ?_
  rintro v4 _ ⟨r4, h4, rfl⟩
  refine app ?_
  rw [e4] at h4
  refine gT rfl <| vnv (S1.buildSlice rfl (qs := [(0, _)]) rfl rfl) rfl fun b16 => ?_  -- op t17 := call F11{rivulet/rivuletref02.Same}(t15, t16) [if #4=True]
  refine gT rfl <| vcd (S1.callF rfl (same_spec h4.rdS (row_rdS (l := [[35]]) rfl) (by decide)) (take1 (atS at0) (take1 at0 take0))) rfl ?_
  refine v0 (S0.pickT rfl rfl) rfl <| v0 (S0.move rfl) rfl <| ?_  -- guard t19 (wants True) at t20 := buildSlice 22 1 [(0, Value.string {'data': [97, 47, 43]})] [if #10=True]
  refine csTh (t := 19) rfl (rfl) ?_
  refine gT rfl <| vnv (S1.buildSlice rfl (qs := [(0, _)]) rfl rfl) rfl fun b20 => ?_  -- op t21 := call F19{rivulet/cover.Lets}(t20, Value.string {'data': [97, 47, 98]}) [if #10=True]
  refine gT rfl <| vcd (S1.callF rfl (lets_spec (row_sl (l := [[97, 47, 43]]) rfl) (by decide) (mem_small rfl) (by decide)) (take1 at0 take0)) rfl ?_
  rw [e5]
  refine v0 (S0.pickT rfl rfl) rfl <| v0 (S0.move rfl) rfl <| ?_  -- guard t23 (wants True) at t24 := call F19{rivulet/cover.Lets}(Value.slice none 0 0, Value.string {'data': [97]}) [if #14=True]
  refine csTh (t := 23) rfl (rfl) ?_
  -- (nothing to walk: op t24 := call F19{rivulet/cover.Lets}(Value.slice none 0 0, Value.string {'data': [97]}) [if #14=True])
  refine gT rfl <| vcd (S1.callF rfl (lets_nil (by decide)) take0) rfl ?_
  refine gT rfl <| v0 (S0.not rfl) rfl <| v0 (S0.pickT rfl rfl) rfl <| v0 (S0.move rfl) rfl <| ?_  -- guard t27 (wants True) at t28 := buildSlice 22 1 [(0, Value.string {'data': [97, 47, 35]})] [if #18=True]
  refine csTh (t := 27) rfl (rfl) ?_
  refine gT rfl <| vnv (S1.buildSlice rfl (qs := [(0, _)]) rfl rfl) rfl fun b28 => ?_  -- op t29 := call F21{rivulet/cover.Holds}(t28, Value.string {'data': [97, 47, 43]}) [if #18=True]
  refine gT rfl <| vcd (S1.callF rfl (holds_spec (row_sl (l := [[97, 47, 35]]) rfl) (by decide) (mem_small rfl) (by decide)) (take1 at0 take0)) rfl ?_
  rw [e7]
  refine v0 (S0.pickT rfl rfl) rfl <| v0 (S0.move rfl) rfl <| ?_  -- guard t31 (wants True) at t32 := buildSlice 22 1 [(0, Value.string {'data': [97]})] [if #22=True]
  refine csTh (t := 31) rfl (rfl) ?_
  refine gT rfl <| vnv (S1.buildSlice rfl (qs := [(0, _)]) rfl rfl) rfl fun b32 => ?_  -- op t33 := call F21{rivulet/cover.Holds}(t32, Value.string {'data': [43]}) [if #22=True]
  refine gT rfl <| vcd (S1.callF rfl (holds_spec (row_sl (l := [[97]]) rfl) (by decide) (mem_small rfl) (by decide)) (take1 at0 take0)) rfl ?_
  rw [e8]
  refine gT rfl <| v0 (S0.not rfl) rfl <| v0 (S0.pickT rfl rfl) rfl <| v0 (S0.move rfl) rfl <| ?_  -- guard t36 (wants True) at t37 := move t1 [if #27=True]
  refine csTh (t := 36) rfl (rfl) ?_
  refine gT rfl <| v0 (S0.move rfl) rfl <| gT rfl <| vnv (S1.buildSlice rfl (qs := [(0, _)]) rfl rfl) rfl fun b38 => ?_  -- op t39 := call F11{rivulet/rivuletref02.Same}(t37, t38) [if #27=True]
  refine gT rfl <| vcd (S1.callF rfl (same_spec h1.rdS (row_rdS (l := [[98]]) rfl) (by decide)) (take1 (atS (atS (atS (atS (atS (atS (atS (atS (atS (atS at0)))))))))) (take1 at0 take0))) rfl ?_
  refine v0 (S0.pickT rfl rfl) rfl <| v0 (S0.move rfl) rfl <| ?_  -- guard t41 (wants True) at t42 := move t2 [if #32=True]
  refine csTh (t := 41) rfl (rfl) ?_
  refine gT rfl <| v0 (S0.move rfl) rfl <| gT rfl <| vnv (S1.buildSlice rfl (qs := [(0, _)]) rfl rfl) rfl fun b43 => ?_  -- op t44 := call F11{rivulet/rivuletref02.Same}(t42, t43) [if #32=True]
  refine gT rfl <| vcd (S1.callF rfl (same_spec h2.rdS (row_rdS (l := [[97]]) rfl) (by decide)) (take1 (atS (atS (atS (atS (atS (atS (atS (atS (atS (atS (atS (atS at0)))))))))))) (take1 at0 take0))) rfl ?_
  refine v0 (S0.pickT rfl rfl) rfl <| v0 (S0.move rfl) rfl <| ?_  -- guard t46 (wants True) at t47 := buildSlice 22 1 [(0, Value.string {'data': [97]})] [if #37=True]
  refine csTh (t := 46) rfl (rfl) ?_
  refine gT rfl <| vnv (S1.buildSlice rfl (qs := [(0, _)]) rfl rfl) rfl fun b47 => gT rfl <| vnv (S1.buildSlice rfl (qs := [(0, _)]) rfl rfl) rfl fun b48 => ?_  -- op t49 := call F14{rivulet/cover.Join}(t47, t48) [if #37=True]
  refine gT rfl <| vc (S1.callF rfl (join2_spec (row_rdS (l := [[97]]) rfl) (row_rdS (l := [[43]]) rfl) (by decide) (by decide) (mem_small rfl) (mem_small rfl)) (take1 (atS at0) (take1 at0 take0))) rfl ?_
  rintro v5 _ ⟨r5, h5, rfl⟩
  refine app ?_
  rw [e9] at h5
  refine gT rfl <| vnv (S1.buildSlice rfl (qs := [(0, _)]) rfl rfl) rfl fun b50 => ?_  -- op t51 := call F11{rivulet/rivuletref02.Same}(t49, t50) [if #37=True]
  refine gT rfl <| vcd (S1.callF rfl (same_spec h5.rdS (row_rdS (l := [[43]]) rfl) (by decide)) (take1 (atS at0) (take1 at0 take0))) rfl ?_
  refine v0 (S0.pickT rfl rfl) rfl <| v0 (S0.assign rfl) rfl <| vE <| WP.ret <| ?_  -- ret
  refine Leaves.drop take0 ?_
  refine r1 rfl rfl ⟨?_, rfl⟩
  rfl
end Go.Proofs.YtnoicafjkgbokaaDoor
