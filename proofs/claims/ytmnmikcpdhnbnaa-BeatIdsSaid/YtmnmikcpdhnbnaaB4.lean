import Derived.Test.YtmnmikcpdhnbnaaB3
namespace Go.Proofs.Ytmnmikcpdhnbnaa
open Go

theorem new_ok {every limit : Int} (h : 1 ≤ every ∧ every ≤ limit ∧ limit ≤ 1000) : FN Try.prog 8 [.int .i64 every, .int .i64 limit] [] (fun v h => ∃ b c, v = .tuple ⟨[.pointer (some ⟨b, 0, none⟩), .int .i64 0]⟩ ∧ h = [c] ∧ IsB b every limit (-1) [] c) :=
  (new_spec every limit).mono fun _ _ hp => hp.elim (fun x => absurd h x.1) (fun x => x.2)
theorem new_bad {every limit : Int} (h : ¬ (1 ≤ every ∧ every ≤ limit ∧ limit ≤ 1000)) : FN Try.prog 8 [.int .i64 every, .int .i64 limit] [] (is (.tuple ⟨[.pointer none, .int .i64 1]⟩) []) :=
  (new_spec every limit).mono fun _ _ hp => hp.elim (fun x => x.2) (fun x => absurd x.1 h)

theorem fixed_spec : FN Try.prog 25 [] [] (fun v h => v = .bool true ∧ h = []) := by
  refine FN.intro 154 [] Try.func25 rfl (enters Try.func25 (by kernel_rfl) rfl) Try.ntmps25 rfl rfl ?_
  refine WP.seq <| WP.region <| v0 (S0.assign rfl) rfl <| vE <| WP.seq <| WP.region <| ?_  -- op t23 := call F8{rivulet/beat.New}(2:i64, 5:i64)
  refine vc (S1.callF rfl (new_ok (every := 2) (limit := 5) (by decide)) take0) rfl ?_
  rintro v0 h0 ⟨b, c, rfl, rfl, hc⟩
  refine app ?_
  refine v0 (S0.move rfl) rfl <| v0 (S0.extract rfl rfl) rfl <| v0 (S0.extract rfl rfl) rfl <| v0 (S0.assign rfl) rfl <| v0 (S0.assign rfl) rfl <| vE <| WP.seq <| WP.region <| ?_  -- op t27 := call F8{rivulet/beat.New}(3:i64, 2:i64)
  refine vcd (S1.callF rfl (new_bad (every := 3) (limit := 2) (by decide)) take0) rfl ?_
  refine v0 (S0.move rfl) rfl <| v0 (S0.extract rfl rfl) rfl <| v0 (S0.extract rfl rfl) rfl <| v0 (S0.assign rfl) rfl <| v0 (S0.assign rfl) rfl <| vE <| WP.seq <| WP.region <| ?_  -- op t31 := call F8{rivulet/beat.New}(1:i64, 1001:i64)
  refine vcd (S1.callF rfl (new_bad (every := 1) (limit := 1001) (by decide)) take0) rfl ?_
  refine v0 (S0.move rfl) rfl <| v0 (S0.extract rfl rfl) rfl <| v0 (S0.extract rfl rfl) rfl <| v0 (S0.assign rfl) rfl <| v0 (S0.assign rfl) rfl <| vE <| WP.seq <| WP.seq <| WP.region <| v0 (S0.move rfl) rfl <| v0 (S0.nilP rfl rfl rfl rfl) rfl <| v0 (S0.move rfl) rfl <| ?_  -- guard t36 (wants False) at t37 := move t2 [if #2=False]
  refine csFh (t := 36) rfl (rfl) ?_
  refine gT rfl <| v0 (S0.move rfl) rfl <| gT rfl <| v0 (S0.cmp rfl rfl rfl) rfl <| v0 (S0.pickF rfl rfl) rfl <| vE <| ?_  -- cond
  refine WP.condFh rfl (rfl) ?_
  refine WP.skip <| WP.seq <| WP.region <| v0 (S0.move rfl) rfl <| ?_  -- op t41 := call F10{(*rivulet/beat.Beats).Watch}(t40, 1:i64, 0:i64)
  refine vc (S1.callF rfl (watch_spec hc 1 0) (take1 at0 take0)) rfl ?_
  rintro _ _ ⟨rfl, c, rfl, hc⟩
  refine app ?_
  refine v0 (S0.move rfl) rfl <| ?_  -- op t43 := call F10{(*rivulet/beat.Beats).Watch}(t42, 1:i64, 3:i64)
  refine vc (S1.callF rfl (watch_spec hc 1 3) (take1 at0 take0)) rfl ?_
  rintro _ _ ⟨rfl, c, rfl, hc⟩
  refine app ?_
  refine v0 (S0.move rfl) rfl <| ?_  -- op t45 := call F10{(*rivulet/beat.Beats).Watch}(t44, -1:i64, 0:i64)
  refine vc (S1.callF rfl (watch_spec hc (-1) 0) (take1 at0 take0)) rfl ?_
  rintro _ _ ⟨rfl, c, rfl, hc⟩
  refine app ?_
  have e1 : watchR (watchR (watchR [] 1 0) 1 3) (-1) 0 = [(1, 0)] := by decide
  rw [e1] at hc
  have ho : OkB [(1, 0)] := ⟨by simp, by simp⟩
  refine v0 (S0.assign rfl) rfl <| v0 (S0.assign rfl) rfl <| v0 (S0.assign rfl) rfl <| vE <| WP.seq <| WP.region <| v0 (S0.move rfl) rfl <| ?_  -- op t47 := call F21{(*rivulet/beat.Beats).Late}(t46, 4:i64)
  refine vc (S1.callF rfl (late_spec hc ho (by decide) 4) (take1 at0 take0)) rfl ?_
  rintro v1 _ ⟨q1, hs1, rfl⟩
  refine app ?_
  obtain ⟨a1, p1, rfl, -, -⟩ := hs1.intsE
  refine v0 (S0.move rfl) rfl <| ?_  -- op t49 := call F21{(*rivulet/beat.Beats).Late}(t48, 5:i64)
  refine vc (S1.callF rfl (late_spec hc ho (by decide) 5) (take1 (atS at0) take0)) rfl ?_
  rintro v2 _ ⟨q2, hs2, rfl⟩
  refine app ?_
  refine v0 (S0.assign rfl) rfl <| v0 (S0.assign rfl) rfl <| vE <| WP.seq <| WP.region <| v0 (S0.move rfl) rfl <| ?_  -- op t51 := call F12{(*rivulet/beat.Beats).Heard}(t50, 1:i64, 3:i64)
  refine vc (S1.callF rfl (heard_spec hc 1 3) (take1 (atS at0) take0)) rfl ?_
  rintro _ _ ⟨rfl, c, rfl, hc⟩
  refine app ?_
  refine v0 (S0.move rfl) rfl <| ?_  -- op t53 := call F12{(*rivulet/beat.Beats).Heard}(t52, 1:i64, 2:i64)
  refine vc (S1.callF rfl (heard_spec hc 1 2) (take1 at0 take0)) rfl ?_
  rintro _ _ ⟨rfl, c, rfl, hc⟩
  refine app ?_
  refine v0 (S0.move rfl) rfl <| ?_  -- op t55 := call F12{(*rivulet/beat.Beats).Heard}(t54, 2:i64, 3:i64)
  refine vc (S1.callF rfl (heard_spec hc 2 3) (take1 at0 take0)) rfl ?_
  rintro _ _ ⟨rfl, c, rfl, hc⟩
  refine app ?_
  have e2 : heardR (heardR (heardR [(1, 0)] 1 3) 1 2) 2 3 = [(1, 3)] := by decide
  rw [e2] at hc
  have ho : OkB [(1, 3)] := ⟨by simp, by simp⟩
  refine v0 (S0.assign rfl) rfl <| v0 (S0.assign rfl) rfl <| v0 (S0.assign rfl) rfl <| vE <| WP.seq <| WP.region <| v0 (S0.move rfl) rfl <| ?_  -- op t58 := call F18{(*rivulet/beat.Beats).Left}(t57, 1:i64, 6:i64)
  refine vcd (S1.callF rfl (left_spec hc ho (by decide) 1 6) (take1 at0 take0)) rfl ?_
  refine v0 (S0.move rfl) rfl <| v0 (S0.extract rfl rfl) rfl <| v0 (S0.extract rfl rfl) rfl <| v0 (S0.assign rfl) rfl <| v0 (S0.assign rfl) rfl <| vE <| WP.seq <| WP.region <| v0 (S0.move rfl) rfl <| ?_  -- op t63 := call F18{(*rivulet/beat.Beats).Left}(t62, 2:i64, 6:i64)
  refine vcd (S1.callF rfl (left_spec hc ho (by decide) 2 6) (take1 at0 take0)) rfl ?_
  refine v0 (S0.move rfl) rfl <| v0 (S0.extract rfl rfl) rfl <| v0 (S0.extract rfl rfl) rfl <| v0 (S0.assign rfl) rfl <| v0 (S0.assign rfl) rfl <| vE <| WP.seq <| WP.region <| v0 (S0.move rfl) rfl <| ?_  -- op t67 := call F16{(*rivulet/beat.Beats).Due}(t66, 0:i64)
  refine vc (S1.callF rfl (due_spec hc (by decide) 0) (take1 at0 take0)) rfl ?_
  rintro _ _ ⟨rfl, c, rfl, hc⟩
  refine app ?_
  rw [show dueB 2 (-1) 0 = true from by decide] at hc
  refine v0 (S0.move rfl) rfl <| ?_  -- op t69 := call F16{(*rivulet/beat.Beats).Due}(t68, 1:i64)
  refine vc (S1.callF rfl (due_spec hc (by decide) 1) (take1 at0 take0)) rfl ?_
  rintro _ _ ⟨rfl, c, rfl, hc⟩
  refine app ?_
  refine v0 (S0.move rfl) rfl <| ?_  -- op t71 := call F16{(*rivulet/beat.Beats).Due}(t70, 2:i64)
  refine vc (S1.callF rfl (due_spec hc (by decide) 2) (take1 at0 take0)) rfl ?_
  rintro _ _ ⟨rfl, c, rfl, hc⟩
  refine app ?_
  refine v0 (S0.assign rfl) rfl <| v0 (S0.assign rfl) rfl <| v0 (S0.assign rfl) rfl <| vE <| WP.seq <| WP.region <| v0 (S0.move rfl) rfl <| v0 (S0.cmp rfl rfl rfl) rfl <| v0 (S0.move rfl) rfl <| ?_  -- guard t74 (wants True) at t75 := move t6 [if #2=True]
  have e3 : (if dueB 2 (if dueB 2 (if true = true then 0 else -1) 1 = true then 1 else if true = true then 0 else -1) 2 = true then (2 : Int) else if dueB 2 (if true = true then 0 else -1) 1 = true then 1 else if true = true then 0 else -1) = 2 := by decide
  rw [e3] at hc
  refine csTh (t := 74) rfl ((by decide)) ?_
  refine gT rfl <| v0 (S0.move rfl) rfl <| gT rfl <| v0 (S0.cmp rfl rfl rfl) rfl <| v0 (S0.pickT rfl rfl) rfl <| v0 (S0.move rfl) rfl <| ?_  -- guard t78 (wants True) at t79 := move t7 [if #6=True]
  refine csTh (t := 78) rfl ((by decide)) ?_
  refine gT rfl <| v0 (S0.move rfl) rfl <| gT rfl <| v0 (S0.cmp rfl rfl rfl) rfl <| v0 (S0.pickT rfl rfl) rfl <| v0 (S0.move rfl) rfl <| ?_  -- guard t82 (wants True) at t83 := move t8 [if #10=True]
  refine csTh (t := 82) rfl ((by decide)) ?_
  refine gT rfl <| v0 (S0.move rfl) rfl <| gT rfl <| v0 (S0.cmp rfl rfl rfl) rfl <| v0 (S0.pickT rfl rfl) rfl <| v0 (S0.move rfl) rfl <| ?_  -- guard t86 (wants True) at t87 := move t9 [if #14=True]
  refine csTh (t := 86) rfl ((by decide)) ?_
  refine gT rfl <| v0 (S0.move rfl) rfl <| gT rfl <| v0 (S0.cmp rfl rfl rfl) rfl <| v0 (S0.pickT rfl rfl) rfl <| v0 (S0.move rfl) rfl <| ?_  -- guard t90 (wants True) at t91 := move t10 [if #18=True]
  refine csTh (t := 90) rfl ((by decide)) ?_
  refine gT rfl <| v0 (S0.move rfl) rfl <| gT rfl <| v0 (S0.lenSl rfl) rfl <| gT rfl <| v0 (S0.cmp rfl rfl rfl) rfl <| v0 (S0.pickT rfl rfl) rfl <| v0 (S0.move rfl) rfl <| ?_  -- guard t95 (wants True) at t96 := move t11 [if #23=True]
  refine csTh (t := 95) rfl ((by decide)) ?_
  refine gT rfl <| v0 (S0.move rfl) rfl <| gT rfl <| vnv (S1.buildSlice rfl (qs := [(0, _)]) rfl rfl) rfl fun b97 => ?_  -- op t98 := call F20{rivulet/rivuletref04.Ints}(t96, t97) [if #23=True]
  refine gT rfl <| vcd (S1.callF rfl (ints_spec (b := [1]) hs2 (IsSl.row (n := 1) (c := 1) (l := [.int .i64 1]) (sp := []) rfl rfl (by decide)) (by decide)) (take1 (atS (atS at0)) (take1 at0 take0))) rfl ?_
  refine v0 (S0.pickT rfl rfl) rfl <| v0 (S0.move rfl) rfl <| ?_  -- guard t100 (wants True) at t101 := move t12 [if #28=True]
  refine csTh (t := 100) rfl ((by decide)) ?_
  refine gT rfl <| v0 (S0.move rfl) rfl <| gT rfl <| v0 (S0.cmp rfl rfl rfl) rfl <| v0 (S0.pickT rfl rfl) rfl <| v0 (S0.move rfl) rfl <| ?_  -- guard t104 (wants True) at t105 := move t13 [if #32=True]
  refine csTh (t := 104) rfl ((by decide)) ?_
  refine gT rfl <| v0 (S0.move rfl) rfl <| gT rfl <| v0 (S0.cmp rfl rfl rfl) rfl <| v0 (S0.pickT rfl rfl) rfl <| v0 (S0.move rfl) rfl <| ?_  -- guard t108 (wants True) at t109 := move t14 [if #36=True]
  refine csTh (t := 108) rfl ((by decide)) ?_
  refine gT rfl <| v0 (S0.move rfl) rfl <| gT rfl <| v0 (S0.cmp rfl rfl rfl) rfl <| v0 (S0.pickT rfl rfl) rfl <| v0 (S0.move rfl) rfl <| ?_  -- guard t112 (wants True) at t113 := move t15 [if #40=True]
  refine csTh (t := 112) rfl ((by decide)) ?_
  refine gT rfl <| v0 (S0.move rfl) rfl <| gT rfl <| v0 (S0.cmp rfl rfl rfl) rfl <| v0 (S0.pickT rfl rfl) rfl <| v0 (S0.move rfl) rfl <| ?_  -- guard t116 (wants True) at t117 := move t16 [if #44=True]
  refine csTh (t := 116) rfl ((by decide)) ?_
  refine gT rfl <| v0 (S0.move rfl) rfl <| v0 (S0.pickT rfl rfl) rfl <| v0 (S0.move rfl) rfl <| ?_  -- guard t119 (wants True) at t120 := move t18 [if #47=True]
  refine csTh (t := 119) rfl ((by decide)) ?_
  refine gT rfl <| v0 (S0.move rfl) rfl <| gT rfl <| v0 (S0.not rfl) rfl <| v0 (S0.pickT rfl rfl) rfl <| v0 (S0.move rfl) rfl <| ?_  -- guard t123 (wants True) at t124 := move t19 [if #51=True]
  refine csTh (t := 123) rfl ((by decide)) ?_
  refine gT rfl <| v0 (S0.move rfl) rfl <| v0 (S0.pickT rfl rfl) rfl <| v0 (S0.move rfl) rfl <| ?_  -- guard t126 (wants True) at t127 := move t20 [if #54=True]
  refine csTh (t := 126) rfl ((by decide)) ?_
  refine gT rfl <| v0 (S0.move rfl) rfl <| gT rfl <| v0 (S0.not rfl) rfl <| v0 (S0.pickT rfl rfl) rfl <| v0 (S0.move rfl) rfl <| ?_  -- guard t130 (wants True) at t131 := move t21 [if #58=True]
  refine csTh (t := 130) rfl ((by decide)) ?_
  refine gT rfl <| v0 (S0.move rfl) rfl <| v0 (S0.pickT rfl rfl) rfl <| v0 (S0.move rfl) rfl <| ?_  -- guard t133 (wants True) at t134 := move t1 [if #61=True]
  refine csTh (t := 133) rfl ((by decide)) ?_
  refine gT rfl <| v0 (S0.move rfl) rfl <| ?_  -- op t135 := call F23{(*rivulet/beat.Beats).Ids}(t134) [if #61=True]
  refine gT rfl <| vc (S1.callF rfl (ids_spec hc ho (by decide)) (take1 (atS (atS at0)) take0)) rfl ?_
  rintro v3 _ ⟨q3, hs3, rfl⟩
  refine app ?_
  refine gT rfl <| vnv (S1.buildSlice rfl (qs := [(0, _)]) rfl rfl) rfl fun b136 => ?_  -- op t137 := call F20{rivulet/rivuletref04.Ints}(t135, t136) [if #61=True]
  refine gT rfl <| vcd (S1.callF rfl (ints_spec (b := [1]) hs3 (IsSl.row (n := 1) (c := 1) (l := [.int .i64 1]) (sp := []) rfl rfl (by decide)) (by decide)) (take1 (atS at0) (take1 at0 take0))) rfl ?_
  refine v0 (S0.pickT rfl rfl) rfl <| v0 (S0.move rfl) rfl <| ?_  -- guard t139 (wants True) at t140 := move t1 [if #67=True]
  refine csTh (t := 139) rfl ((by decide)) ?_
  refine gT rfl <| v0 (S0.move rfl) rfl <| ?_  -- op t141 := call F14{(*rivulet/beat.Beats).Drop}(t140, 1:i64) [if #67=True]
  refine gT rfl <| vc (S1.callF rfl (drop_spec hc ho 1) (take1 (atS (atS at0)) take0)) rfl ?_
  rintro _ _ ⟨rfl, c, rfl, hc⟩
  refine app ?_
  rw [show delB [(1, 3)] 1 = [] from by decide] at hc
  refine v0 (S0.pickT rfl rfl) rfl <| v0 (S0.move rfl) rfl <| ?_  -- guard t143 (wants True) at t144 := move t1 [if #71=True]
  refine csTh (t := 143) rfl ((by decide)) ?_
  refine gT rfl <| v0 (S0.move rfl) rfl <| ?_  -- op t145 := call F14{(*rivulet/beat.Beats).Drop}(t144, 1:i64) [if #71=True]
  refine gT rfl <| vc (S1.callF rfl (drop_spec hc .nil 1) (take1 at0 take0)) rfl ?_
  rintro _ _ ⟨rfl, c, rfl, hc⟩
  refine app ?_
  rw [show delB [] 1 = [] from by decide] at hc
  refine gT rfl <| v0 (S0.not rfl) rfl <| v0 (S0.pickT rfl rfl) rfl <| v0 (S0.move rfl) rfl <| ?_  -- guard t148 (wants True) at t149 := move t1 [if #76=True]
  refine csTh (t := 148) rfl ((by decide)) ?_
  refine gT rfl <| v0 (S0.move rfl) rfl <| ?_  -- op t150 := call F23{(*rivulet/beat.Beats).Ids}(t149) [if #76=True]
  refine gT rfl <| vc (S1.callF rfl (ids_spec hc .nil (by decide)) (take1 at0 take0)) rfl ?_
  rintro v4 _ ⟨q4, hs4, rfl⟩
  refine app ?_
  obtain ⟨a4, p4, rfl, -, -⟩ := hs4.intsE
  refine gT rfl <| v0 (S0.lenSl rfl) rfl <| gT rfl <| v0 (S0.cmp rfl rfl rfl) rfl <| v0 (S0.pickT rfl rfl) rfl <| v0 (S0.assign rfl) rfl <| vE <| WP.ret <| ?_  -- ret
  refine Leaves.drop take0 ?_
  refine r1 rfl rfl ?_
  exact ⟨by simp [idsB], rfl⟩
end Go.Proofs.Ytmnmikcpdhnbnaa
