import Derived.Test.YtjglpmaedphbnaaA2
import Derived.Test.YtjglpmaedphbnaaLaw
namespace Go.Proofs.Ytjglpmaedphbnaa
open Go

set_option maxRecDepth 20000 in
theorem fixed_spec : FN Try.prog 31 [] [] (fun v h => v = .bool true ∧ h = []) := by
  refine FN.intro 221 [] Try.func31 rfl (enters Try.func31 (by kernel_rfl) rfl) Try.ntmps31 rfl rfl ?_
  refine WP.seq <| WP.region <| v0 (S0.assign rfl) rfl <| vE <| WP.seq <| WP.region <| ?_  -- op t29 := call F8{rivulet/attach.New}(5:i64, 0:i64)
  refine vc (S1.callF rfl (cnew_ok (every := 5) (epoch := 0) (by decide)) take0) rfl ?_
  rintro _ _ ⟨b, rfl, rfl⟩
  refine app ?_
  refine v0 (S0.move rfl) rfl <| v0 (S0.extract rfl rfl) rfl <| v0 (S0.extract rfl rfl) rfl <| v0 (S0.assign rfl) rfl <| v0 (S0.assign rfl) rfl <| vE <| WP.seq <| WP.region <| ?_  -- op t33 := call F8{rivulet/attach.New}(0:i64, 0:i64)
  refine vcd (S1.callF rfl (cnew_bad (every := 0) (epoch := 0) (by decide)) take0) rfl ?_
  refine v0 (S0.move rfl) rfl <| v0 (S0.extract rfl rfl) rfl <| v0 (S0.extract rfl rfl) rfl <| v0 (S0.assign rfl) rfl <| v0 (S0.assign rfl) rfl <| vE <| WP.seq <| WP.region <| ?_  -- op t37 := call F8{rivulet/attach.New}(1:i64, 1099511627776:i64)
  refine vcd (S1.callF rfl (cnew_bad (every := 1) (epoch := 1099511627776) (by decide)) take0) rfl ?_
  refine v0 (S0.move rfl) rfl <| v0 (S0.extract rfl rfl) rfl <| v0 (S0.extract rfl rfl) rfl <| v0 (S0.assign rfl) rfl <| v0 (S0.assign rfl) rfl <| vE <| WP.seq <| WP.region <| ?_  -- op t40 := call F10{rivulet/attach.Empty}()
  refine vc (S1.callF rfl (empty_spec) take0) rfl ?_
  rintro _ _ ⟨hb, c, rfl, rfl, hc⟩
  refine app ?_
  refine v0 (S0.assign rfl) rfl <| vE <| WP.seq <| WP.seq <| WP.region <| v0 (S0.move rfl) rfl <| v0 (S0.nilP rfl rfl rfl rfl) rfl <| v0 (S0.move rfl) rfl <| ?_  -- guard t43 (wants False) at t44 := move t2 [if #2=False]
  refine csFh (t := 43) rfl (rfl) ?_
  refine gT rfl <| v0 (S0.move rfl) rfl <| gT rfl <| v0 (S0.cmp rfl rfl rfl) rfl <| v0 (S0.pickF rfl rfl) rfl <| v0 (S0.move rfl) rfl <| ?_  -- guard t47 (wants False) at t48 := move t7 [if #6=False]
  refine csFh (t := 47) rfl (rfl) ?_
  refine gT rfl <| v0 (S0.move rfl) rfl <| gT rfl <| v0 (S0.nilP rfl rfl rfl rfl) rfl <| v0 (S0.pickF rfl rfl) rfl <| vE <| ?_  -- cond
  refine WP.condFh rfl (rfl) ?_
  have k0 : OkC ⟨5, 0, 0, 0, 0⟩ := ⟨by decide, by decide, .inl rfl, by decide⟩
  refine WP.skip <| WP.seq <| WP.region <| v0 (S0.move rfl) rfl <| ?_  -- op t53 := call F23{(*rivulet/attach.Child).Parent}(t52)
  refine vcd (S1.callF rfl (parent_spec ⟨5, 0, 0, 0, 0⟩) (take1 (atS at0) take0)) rfl ?_
  refine v0 (S0.move rfl) rfl <| v0 (S0.extract rfl rfl) rfl <| v0 (S0.extract rfl rfl) rfl <| v0 (S0.assign rfl) rfl <| v0 (S0.assign rfl) rfl <| vE <| WP.seq <| WP.region <| v0 (S0.move rfl) rfl <| ?_  -- op t58 := call F11{(*rivulet/attach.Child).Ask}(t57, 2:i64, 0:i64)
  have e1 : askC ⟨5, 0, 0, 0, 0⟩ 2 0 = ⟨5, 1, 1, 2, 0⟩ := by simp [askC, askB, isTime]
  have k1 : OkC ⟨5, 1, 1, 2, 0⟩ := ⟨by decide, by decide, .inr (.inl rfl), by decide⟩
  have s1 := ask_spec (b := b) k0 2 0
  rw [e1] at s1
  refine vcd (S1.callF rfl (s1) (take1 at0 take0)) rfl ?_
  refine v0 (S0.move rfl) rfl <| v0 (S0.extract rfl rfl) rfl <| v0 (S0.extract rfl rfl) rfl <| v0 (S0.assign rfl) rfl <| v0 (S0.assign rfl) rfl <| vE <| WP.seq <| WP.region <| v0 (S0.move rfl) rfl <| ?_  -- op t62 := call F13{(*rivulet/attach.Child).Again}(t61, 4:i64)
  have s2 := again_spec (b := b) k1 4
  rw [show againC ⟨5, 1, 1, 2, 0⟩ 4 = ⟨5, 1, 1, 2, 0⟩ by simp [againC, againB, isTime]] at s2
  refine vcd (S1.callF rfl (s2) (take1 at0 take0)) rfl ?_
  refine v0 (S0.move rfl) rfl <| ?_  -- op t64 := call F13{(*rivulet/attach.Child).Again}(t63, 5:i64)
  have k2 : OkC ⟨5, 1, 1, 2, 5⟩ := ⟨by decide, by decide, .inr (.inl rfl), by decide⟩
  have s3 := again_spec (b := b) k1 5
  rw [show againC ⟨5, 1, 1, 2, 0⟩ 5 = ⟨5, 1, 1, 2, 5⟩ by simp [againC, againB, isTime]] at s3
  refine vcd (S1.callF rfl (s3) (take1 at0 take0)) rfl ?_
  refine v0 (S0.move rfl) rfl <| ?_  -- op t66 := call F13{(*rivulet/attach.Child).Again}(t65, 6:i64)
  have s4 := again_spec (b := b) k2 6
  rw [show againC ⟨5, 1, 1, 2, 5⟩ 6 = ⟨5, 1, 1, 2, 5⟩ by simp [againC, againB, isTime]] at s4
  refine vcd (S1.callF rfl (s4) (take1 at0 take0)) rfl ?_
  refine v0 (S0.assign rfl) rfl <| v0 (S0.assign rfl) rfl <| v0 (S0.assign rfl) rfl <| vE <| WP.seq <| WP.region <| v0 (S0.move rfl) rfl <| ?_  -- op t68 := call F15{(*rivulet/attach.Child).Welcome}(t67, 1:i64, 1:i64)
  have s5 := wel_spec (b := b) k2 1 1
  rw [show welC ⟨5, 1, 1, 2, 5⟩ 1 1 = ⟨5, 1, 1, 2, 5⟩ by simp [welC, welE]] at s5
  refine vcd (S1.callF rfl (s5) (take1 at0 take0)) rfl ?_
  refine v0 (S0.move rfl) rfl <| ?_  -- op t70 := call F15{(*rivulet/attach.Child).Welcome}(t69, 2:i64, 0:i64)
  have s6 := wel_spec (b := b) k2 2 0
  rw [show welC ⟨5, 1, 1, 2, 5⟩ 2 0 = ⟨5, 1, 1, 2, 5⟩ by simp [welC, welE]] at s6
  refine vcd (S1.callF rfl (s6) (take1 at0 take0)) rfl ?_
  refine v0 (S0.move rfl) rfl <| ?_  -- op t72 := call F15{(*rivulet/attach.Child).Welcome}(t71, 2:i64, 2:i64)
  have s7 := wel_spec (b := b) k2 2 2
  rw [show welC ⟨5, 1, 1, 2, 5⟩ 2 2 = ⟨5, 1, 1, 2, 5⟩ by simp [welC, welE]] at s7
  refine vcd (S1.callF rfl (s7) (take1 at0 take0)) rfl ?_
  refine v0 (S0.assign rfl) rfl <| v0 (S0.assign rfl) rfl <| v0 (S0.assign rfl) rfl <| vE <| WP.seq <| WP.region <| v0 (S0.move rfl) rfl <| ?_  -- op t74 := call F15{(*rivulet/attach.Child).Welcome}(t73, 2:i64, 1:i64)
  have s8 := wel_spec (b := b) k2 2 1
  rw [show welC ⟨5, 1, 1, 2, 5⟩ 2 1 = ⟨5, 1, 2, 2, 5⟩ by simp [welC, welE]] at s8
  have k3 : OkC ⟨5, 1, 2, 2, 5⟩ := ⟨by decide, by decide, .inr (.inr rfl), by decide⟩
  refine vcd (S1.callF rfl (s8) (take1 at0 take0)) rfl ?_
  refine v0 (S0.assign rfl) rfl <| vE <| WP.seq <| WP.region <| v0 (S0.move rfl) rfl <| ?_  -- op t77 := call F23{(*rivulet/attach.Child).Parent}(t76)
  refine vcd (S1.callF rfl (parent_spec ⟨5, 1, 2, 2, 5⟩) (take1 at0 take0)) rfl ?_
  refine v0 (S0.move rfl) rfl <| v0 (S0.extract rfl rfl) rfl <| v0 (S0.extract rfl rfl) rfl <| v0 (S0.assign rfl) rfl <| v0 (S0.assign rfl) rfl <| vE <| WP.seq <| WP.region <| v0 (S0.move rfl) rfl <| ?_  -- op t81 := call F15{(*rivulet/attach.Child).Welcome}(t80, 2:i64, 1:i64)
  have s9 := wel_spec (b := b) k3 2 1
  rw [show welC ⟨5, 1, 2, 2, 5⟩ 2 1 = ⟨5, 1, 2, 2, 5⟩ by simp [welC, welE]] at s9
  refine vcd (S1.callF rfl (s9) (take1 at0 take0)) rfl ?_
  refine v0 (S0.assign rfl) rfl <| vE <| WP.seq <| WP.region <| v0 (S0.move rfl) rfl <| ?_  -- op t84 := call F19{(*rivulet/attach.Hall).Open}(t83, 3:i64, 2:i64)
  refine vc (S1.callF rfl (hopen_spec hc 3 2) (take1 (atS at0) take0)) rfl ?_
  rintro _ _ ⟨rfl, c, rfl, hc⟩
  refine app ?_
  rw [show openR [] 3 2 = [(3, 2)] from by decide] at hc
  refine v0 (S0.move rfl) rfl <| v0 (S0.extract rfl rfl) rfl <| v0 (S0.extract rfl rfl) rfl <| v0 (S0.assign rfl) rfl <| v0 (S0.assign rfl) rfl <| vE <| WP.seq <| WP.region <| v0 (S0.move rfl) rfl <| ?_  -- op t89 := call F19{(*rivulet/attach.Hall).Open}(t88, 3:i64, 2:i64)
  refine vc (S1.callF rfl (hopen_spec hc 3 2) (take1 at0 take0)) rfl ?_
  rintro _ _ ⟨rfl, c, rfl, hc⟩
  refine app ?_
  rw [show openR [(3, 2)] 3 2 = [(3, 2)] from by decide] at hc
  refine v0 (S0.move rfl) rfl <| v0 (S0.extract rfl rfl) rfl <| v0 (S0.extract rfl rfl) rfl <| v0 (S0.assign rfl) rfl <| v0 (S0.assign rfl) rfl <| vE <| WP.seq <| WP.region <| v0 (S0.move rfl) rfl <| ?_  -- op t94 := call F19{(*rivulet/attach.Hall).Open}(t93, 3:i64, 1:i64)
  refine vc (S1.callF rfl (hopen_spec hc 3 1) (take1 at0 take0)) rfl ?_
  rintro _ _ ⟨rfl, c, rfl, hc⟩
  refine app ?_
  rw [show openR [(3, 2)] 3 1 = [(3, 2)] from by decide] at hc
  have ho : OkB [(3, 2)] := ⟨by simp, by simp⟩
  refine v0 (S0.move rfl) rfl <| v0 (S0.extract rfl rfl) rfl <| v0 (S0.extract rfl rfl) rfl <| v0 (S0.assign rfl) rfl <| v0 (S0.assign rfl) rfl <| vE <| WP.seq <| WP.region <| v0 (S0.move rfl) rfl <| v0 (S0.cmp rfl rfl rfl) rfl <| v0 (S0.move rfl) rfl <| ?_  -- guard t99 (wants True) at t100 := move t6 [if #2=True]
  refine csTh (t := 99) rfl ((by decide)) ?_
  refine gT rfl <| v0 (S0.move rfl) rfl <| gT rfl <| v0 (S0.cmp rfl rfl rfl) rfl <| v0 (S0.pickT rfl rfl) rfl <| v0 (S0.move rfl) rfl <| ?_  -- guard t103 (wants True) at t104 := move t9 [if #6=True]
  refine csTh (t := 103) rfl ((by decide)) ?_
  refine gT rfl <| v0 (S0.move rfl) rfl <| gT rfl <| v0 (S0.not rfl) rfl <| v0 (S0.pickT rfl rfl) rfl <| v0 (S0.move rfl) rfl <| ?_  -- guard t107 (wants True) at t108 := move t10 [if #10=True]
  refine csTh (t := 107) rfl ((by decide)) ?_
  refine gT rfl <| v0 (S0.move rfl) rfl <| gT rfl <| v0 (S0.cmp rfl rfl rfl) rfl <| v0 (S0.pickT rfl rfl) rfl <| v0 (S0.move rfl) rfl <| ?_  -- guard t111 (wants True) at t112 := move t11 [if #14=True]
  refine csTh (t := 111) rfl ((by decide)) ?_
  refine gT rfl <| v0 (S0.move rfl) rfl <| gT rfl <| v0 (S0.cmp rfl rfl rfl) rfl <| v0 (S0.pickT rfl rfl) rfl <| v0 (S0.move rfl) rfl <| ?_  -- guard t115 (wants True) at t116 := move t12 [if #18=True]
  refine csTh (t := 115) rfl ((by decide)) ?_
  refine gT rfl <| v0 (S0.move rfl) rfl <| gT rfl <| v0 (S0.not rfl) rfl <| v0 (S0.pickT rfl rfl) rfl <| v0 (S0.move rfl) rfl <| ?_  -- guard t119 (wants True) at t120 := move t13 [if #22=True]
  refine csTh (t := 119) rfl ((by decide)) ?_
  refine gT rfl <| v0 (S0.move rfl) rfl <| v0 (S0.pickT rfl rfl) rfl <| v0 (S0.move rfl) rfl <| ?_  -- guard t122 (wants True) at t123 := move t14 [if #25=True]
  refine csTh (t := 122) rfl ((by decide)) ?_
  refine gT rfl <| v0 (S0.move rfl) rfl <| gT rfl <| v0 (S0.not rfl) rfl <| v0 (S0.pickT rfl rfl) rfl <| v0 (S0.move rfl) rfl <| ?_  -- guard t126 (wants True) at t127 := move t15 [if #29=True]
  refine csTh (t := 126) rfl ((by decide)) ?_
  refine gT rfl <| v0 (S0.move rfl) rfl <| gT rfl <| v0 (S0.cmp rfl rfl rfl) rfl <| v0 (S0.pickT rfl rfl) rfl <| v0 (S0.move rfl) rfl <| ?_  -- guard t130 (wants True) at t131 := move t16 [if #33=True]
  refine csTh (t := 130) rfl ((by decide)) ?_
  refine gT rfl <| v0 (S0.move rfl) rfl <| gT rfl <| v0 (S0.cmp rfl rfl rfl) rfl <| v0 (S0.pickT rfl rfl) rfl <| v0 (S0.move rfl) rfl <| ?_  -- guard t134 (wants True) at t135 := move t17 [if #37=True]
  refine csTh (t := 134) rfl ((by decide)) ?_
  refine gT rfl <| v0 (S0.move rfl) rfl <| gT rfl <| v0 (S0.cmp rfl rfl rfl) rfl <| v0 (S0.pickT rfl rfl) rfl <| v0 (S0.move rfl) rfl <| ?_  -- guard t138 (wants True) at t139 := move t18 [if #41=True]
  refine csTh (t := 138) rfl ((by decide)) ?_
  refine gT rfl <| v0 (S0.move rfl) rfl <| gT rfl <| v0 (S0.cmp rfl rfl rfl) rfl <| v0 (S0.pickT rfl rfl) rfl <| v0 (S0.move rfl) rfl <| ?_  -- guard t142 (wants True) at t143 := move t19 [if #45=True]
  refine csTh (t := 142) rfl ((by decide)) ?_
  refine gT rfl <| v0 (S0.move rfl) rfl <| gT rfl <| v0 (S0.cmp rfl rfl rfl) rfl <| v0 (S0.pickT rfl rfl) rfl <| v0 (S0.move rfl) rfl <| ?_  -- guard t146 (wants True) at t147 := move t20 [if #49=True]
  refine csTh (t := 146) rfl ((by decide)) ?_
  refine gT rfl <| v0 (S0.move rfl) rfl <| v0 (S0.pickT rfl rfl) rfl <| v0 (S0.move rfl) rfl <| ?_  -- guard t149 (wants True) at t150 := move t21 [if #52=True]
  refine csTh (t := 149) rfl ((by decide)) ?_
  refine gT rfl <| v0 (S0.move rfl) rfl <| gT rfl <| v0 (S0.cmp rfl rfl rfl) rfl <| v0 (S0.pickT rfl rfl) rfl <| v0 (S0.move rfl) rfl <| ?_  -- guard t153 (wants True) at t154 := move t1 [if #56=True]
  refine csTh (t := 153) rfl ((by decide)) ?_
  refine gT rfl <| v0 (S0.move rfl) rfl <| ?_  -- op t155 := call F24{(*rivulet/attach.Child).State}(t154) [if #56=True]
  refine gT rfl <| vcd (S1.callF rfl (state_spec ⟨5, 1, 2, 2, 5⟩) (take1 (atS at0) take0)) rfl ?_
  refine gT rfl <| v0 (S0.cmp rfl rfl rfl) rfl <| v0 (S0.pickT rfl rfl) rfl <| v0 (S0.move rfl) rfl <| ?_  -- guard t158 (wants True) at t159 := move t1 [if #61=True]
  refine csTh (t := 158) rfl ((by decide)) ?_
  refine gT rfl <| v0 (S0.move rfl) rfl <| ?_  -- op t160 := call F25{(*rivulet/attach.Child).Epoch}(t159) [if #61=True]
  refine gT rfl <| vcd (S1.callF rfl (epoch_spec ⟨5, 1, 2, 2, 5⟩) (take1 at0 take0)) rfl ?_
  refine gT rfl <| v0 (S0.cmp rfl rfl rfl) rfl <| v0 (S0.pickT rfl rfl) rfl <| v0 (S0.move rfl) rfl <| ?_  -- guard t163 (wants True) at t164 := move t1 [if #66=True]
  refine csTh (t := 163) rfl ((by decide)) ?_
  refine gT rfl <| v0 (S0.move rfl) rfl <| ?_  -- op t165 := call F17{(*rivulet/attach.Child).Lose}(t164) [if #66=True]
  have s10 := lose_spec (b := b) ⟨5, 1, 2, 2, 5⟩
  rw [show loseC ⟨5, 1, 2, 2, 5⟩ = ⟨5, 1, 0, 0, 5⟩ from rfl] at s10
  refine gT rfl <| vcd (S1.callF rfl (s10) (take1 at0 take0)) rfl ?_
  refine v0 (S0.pickT rfl rfl) rfl <| v0 (S0.move rfl) rfl <| ?_  -- guard t167 (wants True) at t168 := move t1 [if #70=True]
  refine csTh (t := 167) rfl ((by decide)) ?_
  refine gT rfl <| v0 (S0.move rfl) rfl <| ?_  -- op t169 := call F17{(*rivulet/attach.Child).Lose}(t168) [if #70=True]
  have s11 := lose_spec (b := b) ⟨5, 1, 0, 0, 5⟩
  rw [show loseC ⟨5, 1, 0, 0, 5⟩ = ⟨5, 1, 0, 0, 5⟩ from rfl] at s11
  refine gT rfl <| vcd (S1.callF rfl (s11) (take1 at0 take0)) rfl ?_
  refine gT rfl <| v0 (S0.not rfl) rfl <| v0 (S0.pickT rfl rfl) rfl <| v0 (S0.move rfl) rfl <| ?_  -- guard t172 (wants True) at t173 := move t1 [if #75=True]
  refine csTh (t := 172) rfl ((by decide)) ?_
  refine gT rfl <| v0 (S0.move rfl) rfl <| ?_  -- op t174 := call F24{(*rivulet/attach.Child).State}(t173) [if #75=True]
  refine gT rfl <| vcd (S1.callF rfl (state_spec ⟨5, 1, 0, 0, 5⟩) (take1 at0 take0)) rfl ?_
  refine gT rfl <| v0 (S0.cmp rfl rfl rfl) rfl <| v0 (S0.pickT rfl rfl) rfl <| v0 (S0.move rfl) rfl <| ?_  -- guard t177 (wants True) at t178 := move t22 [if #80=True]
  refine csTh (t := 177) rfl ((by decide)) ?_
  refine gT rfl <| v0 (S0.move rfl) rfl <| v0 (S0.pickT rfl rfl) rfl <| v0 (S0.move rfl) rfl <| ?_  -- guard t180 (wants True) at t181 := move t23 [if #83=True]
  refine csTh (t := 180) rfl ((by decide)) ?_
  refine gT rfl <| v0 (S0.move rfl) rfl <| gT rfl <| v0 (S0.cmp rfl rfl rfl) rfl <| v0 (S0.pickT rfl rfl) rfl <| v0 (S0.move rfl) rfl <| ?_  -- guard t184 (wants True) at t185 := move t24 [if #87=True]
  refine csTh (t := 184) rfl ((by decide)) ?_
  refine gT rfl <| v0 (S0.move rfl) rfl <| gT rfl <| v0 (S0.not rfl) rfl <| v0 (S0.pickT rfl rfl) rfl <| v0 (S0.move rfl) rfl <| ?_  -- guard t188 (wants True) at t189 := move t25 [if #91=True]
  refine csTh (t := 188) rfl ((by decide)) ?_
  refine gT rfl <| v0 (S0.move rfl) rfl <| gT rfl <| v0 (S0.cmp rfl rfl rfl) rfl <| v0 (S0.pickT rfl rfl) rfl <| v0 (S0.move rfl) rfl <| ?_  -- guard t192 (wants True) at t193 := move t27 [if #95=True]
  refine csTh (t := 192) rfl ((by decide)) ?_
  refine gT rfl <| v0 (S0.move rfl) rfl <| gT rfl <| v0 (S0.cmp rfl rfl rfl) rfl <| v0 (S0.pickT rfl rfl) rfl <| v0 (S0.move rfl) rfl <| ?_  -- guard t196 (wants True) at t197 := move t7 [if #99=True]
  refine csTh (t := 196) rfl ((by decide)) ?_
  refine gT rfl <| v0 (S0.move rfl) rfl <| ?_  -- op t198 := call F26{(*rivulet/attach.Hall).Epoch}(t197, 3:i64) [if #99=True]
  refine gT rfl <| vcd (S1.callF rfl (hepoch_spec hc 3) (take1 (atS at0) take0)) rfl ?_
  refine gT rfl <| v0 (S0.cmp rfl rfl rfl) rfl <| v0 (S0.pickT rfl rfl) rfl <| v0 (S0.move rfl) rfl <| ?_  -- guard t201 (wants True) at t202 := move t7 [if #104=True]
  refine csTh (t := 201) rfl ((by decide)) ?_
  refine gT rfl <| v0 (S0.move rfl) rfl <| ?_  -- op t203 := call F29{(*rivulet/attach.Hall).Ids}(t202) [if #104=True]
  refine gT rfl <| vc (S1.callF rfl (hids_spec hc ho (by decide)) (take1 at0 take0)) rfl ?_
  rintro v3 _ ⟨q3, hs3, rfl⟩
  refine app ?_
  refine gT rfl <| vnv (S1.buildSlice rfl (qs := [(0, _)]) rfl rfl) rfl fun b204 => ?_  -- op t205 := call F28{rivulet/rivuletref04.Ints}(t203, t204) [if #104=True]
  refine gT rfl <| vcd (S1.callF rfl (ints_spec (b := [3]) hs3 (IsSl.row (n := 1) (c := 1) (l := [.int .i64 3]) (sp := []) rfl rfl (by decide)) (by decide)) (take1 (atS at0) (take1 at0 take0))) rfl ?_
  refine v0 (S0.pickT rfl rfl) rfl <| v0 (S0.move rfl) rfl <| ?_  -- guard t207 (wants True) at t208 := move t7 [if #110=True]
  refine csTh (t := 207) rfl ((by decide)) ?_
  refine gT rfl <| v0 (S0.move rfl) rfl <| ?_  -- op t209 := call F21{(*rivulet/attach.Hall).Drop}(t208, 3:i64) [if #110=True]
  refine gT rfl <| vc (S1.callF rfl (hdrop_spec hc ho 3) (take1 (atS (atS at0)) take0)) rfl ?_
  rintro _ _ ⟨rfl, c, rfl, hc⟩
  refine app ?_
  rw [show delB [(3, 2)] 3 = [] from by decide] at hc
  refine v0 (S0.pickT rfl rfl) rfl <| v0 (S0.move rfl) rfl <| ?_  -- guard t211 (wants True) at t212 := move t7 [if #114=True]
  refine csTh (t := 211) rfl ((by decide)) ?_
  refine gT rfl <| v0 (S0.move rfl) rfl <| ?_  -- op t213 := call F21{(*rivulet/attach.Hall).Drop}(t212, 3:i64) [if #114=True]
  refine gT rfl <| vc (S1.callF rfl (hdrop_spec hc .nil 3) (take1 at0 take0)) rfl ?_
  rintro _ _ ⟨rfl, c, rfl, hc⟩
  refine app ?_
  rw [show delB [] 3 = [] from by decide] at hc
  refine gT rfl <| v0 (S0.not rfl) rfl <| v0 (S0.pickT rfl rfl) rfl <| v0 (S0.move rfl) rfl <| ?_  -- guard t216 (wants True) at t217 := move t7 [if #119=True]
  refine csTh (t := 216) rfl ((by decide)) ?_
  refine gT rfl <| v0 (S0.move rfl) rfl <| ?_  -- op t218 := call F26{(*rivulet/attach.Hall).Epoch}(t217, 3:i64) [if #119=True]
  refine gT rfl <| vcd (S1.callF rfl (hepoch_spec hc 3) (take1 at0 take0)) rfl ?_
  refine gT rfl <| v0 (S0.cmp rfl rfl rfl) rfl <| v0 (S0.pickT rfl rfl) rfl <| v0 (S0.assign rfl) rfl <| vE <| WP.ret <| ?_  -- ret
  refine Leaves.drop take0 ?_
  refine r1 rfl rfl ?_
  exact ⟨rfl, rfl⟩
end Go.Proofs.Ytjglpmaedphbnaa
