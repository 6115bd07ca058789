import Derived.Test.YtmnmikcpdhnbnaaB5
namespace Go.Proofs.Ytmnmikcpdhnbnaa
open Go

theorem beatLate_walk (W : World) (limit : Int) (g : Value) (hg : ArgQ W .u8 g) : FN Try.prog 4 [.int .i64 limit, g] [whole W] (fun v h => v = .bool true ∧ h = [whole W]) := by
  obtain ⟨e, he⟩ : ∃ e, bitsI .and .i64 limit 255 = some e := ⟨_, rfl⟩
  have hm := mask_i64 he (by decide)
  obtain ⟨ga, glen, gcap, rfl, -, hgs⟩ := hg
  refine FN.intro 126 [(0, .int .i64 limit), (1, .slice ga glen gcap)] Try.func4 rfl (enters Try.func4 (by kernel_rfl) rfl) Try.ntmps4 rfl rfl ?_
  refine WP.seq <| WP.region <| v0 (S0.assign rfl) rfl <| vE <| WP.seq <| WP.region <| v0 (S0.move rfl) rfl <| ?_  -- op t17 := and t16 255:i64 :3
  refine v0 (S0.bits rfl rfl he) rfl <| ?_
  refine v0 (S0.ari rfl rfl rfl (wrap_i64 (by omega))) rfl <| v0 (S0.assign rfl) rfl <| vE <| WP.seq <| WP.region <| v0 (S0.move rfl) rfl <| ?_  -- op t21 := call F8{rivulet/beat.New}(1:i64, t20)
  generalize hn : 2 + e = n
  have hn1 : 2 ≤ n ∧ n ≤ 257 := by omega
  refine vc (S1.callF rfl (new_ok (every := 1) (limit := n) (by omega)) take0) rfl ?_
  rintro _ _ ⟨b, c0, rfl, rfl, hc0⟩
  refine app ?_
  refine v0 (S0.move rfl) rfl <| v0 (S0.extract rfl rfl) rfl <| v0 (S0.extract rfl rfl) rfl <| v0 (S0.assign rfl) rfl <| v0 (S0.assign rfl) rfl <| vE <| WP.seq <| WP.seq <| WP.region <| v0 (S0.move rfl) rfl <| v0 (S0.nilP rfl rfl rfl rfl) rfl <| v0 (S0.move rfl) rfl <| ?_  -- guard t26 (wants False) at t27 := move t7 [if #2=False]
  refine csFh (t := 26) rfl (rfl) ?_
  refine gT rfl <| v0 (S0.move rfl) rfl <| gT rfl <| v0 (S0.cmp rfl rfl rfl) rfl <| v0 (S0.pickF rfl rfl) rfl <| v0 (S0.move rfl) rfl <| ?_  -- guard t30 (wants False) at t31 := move t6 [if #6=False]
  refine csFh (t := 30) rfl (rfl) ?_
  refine gT rfl <| v0 (S0.move rfl) rfl <| ?_  -- op t32 := call F10{(*rivulet/beat.Beats).Watch}(t31, 7:i64, 0:i64) [if #6=False]
  refine gT rfl <| vc (S1.callF rfl (watch_spec hc0 7 0) (take1 at0 take0)) rfl ?_
  rintro _ _ ⟨rfl, c1, rfl, hc1⟩
  refine app ?_
  rw [show watchR [] 7 0 = [(7, 0)] from by decide] at hc1
  refine gT rfl <| v0 (S0.cmp rfl rfl rfl) rfl <| v0 (S0.pickF rfl rfl) rfl <| vE <| ?_  -- cond
  refine WP.condFh rfl ((by decide)) ?_
  refine WP.skip <| WP.seq <| WP.region <| v0 (S0.assign rfl) rfl <| vE <| ?_  -- cut
  refine WP.cutS (fun s : Int × List Blk => 0 ≤ s.1 ∧ s.1 ≤ 20000 ∧ IsB b 1 n (-1) [(7, s.1)] s.2) (fun s : Int × List Blk => [(5, .int .i64 n), (6, .pointer (some ⟨b, 0, none⟩)), (8, .int .i64 s.1)]) (fun s : Int × List Blk => [s.2, whole W]) ?_ (fun s hinv => ?_)
  · refine WP.seq <| WP.region <| v0 (S0.assign rfl) rfl <| vE <| WP.block <| ?_  -- Code.loop
    refine WP.loop (fun s : Nat × Int × List Blk => s.1 ≤ 60 ∧ 0 ≤ s.2.1 ∧ s.2.1 ≤ 257 * (s.1 : Int) ∧ IsB b 1 n (-1) [(7, s.2.1)] s.2.2) (fun s : Nat × Int × List Blk => [(1, .slice ga glen gcap), (5, .int .i64 n), (6, .pointer (some ⟨b, 0, none⟩)), (8, .int .i64 s.2.1), (9, .int .i64 (s.1 : Int))]) (fun s : Nat × Int × List Blk => [s.2.2, whole W]) (fun s : Nat × Int × List Blk => 60 - s.1) ((0, 0, c1)) (⟨Nat.zero_le _, Int.le_refl 0, by simp, hc1⟩) ⟨rfl, rfl, rfl, rfl, rfl, trivial⟩ ⟨_, (take1 at0 (take1 at0 take0))⟩ (fun s hinv => ?_) 
    obtain ⟨i, now, c⟩ := s
    obtain ⟨hi, hw1, hw2, hc⟩ := hinv
    dsimp only at hi hw1 hw2 hc ⊢
    refine WP.seq <| WP.seq <| WP.region <| v0 (S0.move rfl) rfl <| v0 (S0.move rfl) rfl <| v0 (S0.lenSl rfl) rfl <| v0 (S0.cmp rfl rfl rfl) rfl <| v0 (S0.move rfl) rfl <| ?_  -- guard t39 (wants True) at t40 := move t9 [if #4=True]
    first | refine csP (t := 39) rfl (fun h1 => ?_) (fun h1 => ?_) | refine csN (t := 39) rfl (fun h1 => ?_) (fun h1 => ?_) | refine cs (t := 39) rfl (fun h1 => ?_) (fun h1 => ?_)
    · skip
      refine gT rfl <| v0 (S0.move rfl) rfl <| gT rfl <| v0 (S0.cmp rfl rfl rfl) rfl <| v0 (S0.pickT rfl rfl) rfl <| vE <| ?_  -- cond
      first | refine WP.condP rfl (fun h2 => ?_) (fun h2 => ?_) | refine WP.condN rfl (fun h2 => ?_) (fun h2 => ?_) | refine WP.cond rfl (fun h2 => ?_) (fun h2 => ?_)
      · skip
        refine WP.skip <| WP.seq <| WP.block <| WP.seq <| WP.region <| v0 (S0.move rfl) rfl <| v0 (S0.move rfl) rfl <| ?_  -- op t47 := indexAddr 42 t45 t46
        rcases hgs with h0 | ⟨gb, go, GL, GU, gfz, rfl, hgb, hcell⟩
        · omega
        have hlt : i < glen := by omega
        obtain ⟨z, hz, hzw⟩ := hcell i hlt
        have hzb := wf_u8 hzw
        have : HasC (whole W) gb (.cells ⟨GL⟩ GU gfz) := ⟨whole_mem.2 hgb⟩
        have hs1 : 0 ≤ z.tmod n := Int.tmod_nonneg n hzb.1
        have hs2 : z.tmod n < n := Int.tmod_lt_of_pos z (by omega)
        refine v0 (S0.indexO1 rfl rfl hlt) rfl <| ?_
        refine v0 (S0.load rfl hz) rfl <| ?_
        refine v0 (S0.convI rfl (wrap_i64 (by omega))) rfl <| v0 (S0.move rfl) rfl <| ?_  -- op t51 := rem t49 t50 :3
        refine v0 (S0.rem rfl rfl (by omega)) rfl <| ?_
        generalize z.tmod n = step at hs1 hs2 ⊢
        have ho : OkB [(7, now)] := ⟨by simp, by simp; omega⟩
        refine v0 (S0.assign rfl) rfl <| vE <| WP.seq <| WP.region <| v0 (S0.move rfl) rfl <| v0 (S0.move rfl) rfl <| v0 (S0.ari rfl rfl rfl (wrap_i64 (by omega))) rfl <| v0 (S0.assign rfl) rfl <| vE <| WP.seq <| WP.region <| v0 (S0.move rfl) rfl <| v0 (S0.move rfl) rfl <| ?_  -- op t58 := call F18{(*rivulet/beat.Beats).Left}(t56, 7:i64, t57)
        refine vcd (S1.callF rfl (left_spec hc ho (by omega) 7 (now + step)) (take1 at0 take0)) rfl ?_
        have hT : isTime (now + step) = true := isT (by omega)
        have e1 : leftB [(7, now)] n 7 (now + step) = (n - step, true) := by
          simp only [leftB, gB, if_true, hT]
          congr 1
          omega
        rw [e1]
        refine v0 (S0.move rfl) rfl <| v0 (S0.extract rfl rfl) rfl <| v0 (S0.extract rfl rfl) rfl <| v0 (S0.assign rfl) rfl <| v0 (S0.assign rfl) rfl <| vE <| WP.seq <| WP.region <| v0 (S0.move rfl) rfl <| v0 (S0.move rfl) rfl <| ?_  -- op t63 := call F21{(*rivulet/beat.Beats).Late}(t61, t62)
        refine vc (S1.callF rfl (late_spec hc ho (by simp) (now + step)) (take1 at0 take0)) rfl ?_
        rintro v1 _ ⟨q1, hq1, rfl⟩
        refine app ?_
        have e2 : lateB [(7, now)] n (now + step) = [] := by simp [lateB, hT]; omega
        rw [e2] at hq1
        obtain ⟨a1, p1, rfl, -, -⟩ := hq1.intsE
        refine v0 (S0.lenSl rfl) rfl <| v0 (S0.cmp rfl rfl rfl) rfl <| v0 (S0.move rfl) rfl <| ?_  -- guard t66 (wants False) at t67 := move t12 [if #5=False]
        refine csFh (t := 66) rfl ((by decide)) ?_
        refine gT rfl <| v0 (S0.move rfl) rfl <| gT rfl <| v0 (S0.not rfl) rfl <| v0 (S0.pickF rfl rfl) rfl <| v0 (S0.move rfl) rfl <| ?_  -- guard t70 (wants False) at t71 := move t11 [if #9=False]
        refine csFh (t := 70) rfl (rfl) ?_
        refine gT rfl <| v0 (S0.move rfl) rfl <| gT rfl <| v0 (S0.move rfl) rfl <| gT rfl <| v0 (S0.move rfl) rfl <| gT rfl <| v0 (S0.ari rfl rfl rfl (wrap_i64 (by omega))) rfl <| gT rfl <| v0 (S0.cmp rfl rfl rfl) rfl <| v0 (S0.pickF rfl rfl) rfl <| v0 (S0.move rfl) rfl <| ?_  -- guard t77 (wants False) at t78 := move t6 [if #16=False]
        refine csFh (t := 77) rfl ((by simp)) ?_
        refine gT rfl <| v0 (S0.move rfl) rfl <| gT rfl <| v0 (S0.move rfl) rfl <| ?_  -- op t80 := call F12{(*rivulet/beat.Beats).Heard}(t78, 7:i64, t79) [if #16=False]
        refine gT rfl <| vc (S1.callF rfl (heard_spec hc 7 (now + step)) (take1 (atS at0) take0)) rfl ?_
        rintro _ _ ⟨rfl, c2, rfl, hc2⟩
        refine app ?_
        have e3 : heardE [(7, now)] 7 (now + step) = 0 := by simp [heardE, hT, gB]; omega
        have e4 : heardR [(7, now)] 7 (now + step) = [(7, now + step)] := by simp [heardR, e3, setB]
        rw [e3]
        rw [e4] at hc2
        refine gT rfl <| v0 (S0.cmp rfl rfl rfl) rfl <| v0 (S0.pickF rfl rfl) rfl <| vE <| ?_  -- cond
        refine WP.condFh rfl (rfl) ?_
        refine WP.skip <| WP.region <| v0 (S0.move rfl) rfl <| v0 (S0.ari rfl rfl rfl (wrap_i64 (by omega))) rfl <| v0 (S0.assign rfl) rfl <| vE <| ?_  -- roundend
        exact ⟨(i + 1, now + step, c2), (by first | exact ⟨by omega, (show (0 : Int) ≤ now + step by omega), (show now + step ≤ 257 * ((i + 1 : Nat) : Int) by omega), hc2⟩ | (dsimp only; exact ⟨by omega, (show (0 : Int) ≤ now + step by omega), (show now + step ≤ 257 * ((i + 1 : Nat) : Int) by omega), hc2⟩)), (show 60 - (i + 1) < 60 - i by omega), ⟨⟨rfl, rfl, rfl, rfl, rfl, trivial⟩, rfl, rfl⟩, ⟨_, (take1 at0 (take1 (atS at0) take0))⟩⟩
      · skip
        refine WP.exit <| ?_  -- cutend
        exact ⟨(now, c), (by first | exact ⟨hw1, by omega, hc⟩ | (dsimp only; exact ⟨hw1, by omega, hc⟩)), ⟨⟨rfl, rfl, rfl, trivial⟩, rfl, rfl⟩, ⟨_, (take1 at0 (take1 at0 take0))⟩⟩
    · skip
      refine gF rfl rfl <| gF rfl rfl <| v0 (S0.pickF rfl rfl) rfl <| vE <| WP.condF rfl <| WP.exit <| ?_  -- cutend
      exact ⟨(now, c), (by first | exact ⟨hw1, by omega, hc⟩ | (dsimp only; exact ⟨hw1, by omega, hc⟩)), ⟨⟨rfl, rfl, rfl, trivial⟩, rfl, rfl⟩, ⟨_, (take1 at0 (take1 at0 take0))⟩⟩
  · skip
    obtain ⟨now, c⟩ := s
    obtain ⟨hw1, hw2, hc⟩ := hinv
    dsimp only at hw1 hw2 hc ⊢
    have ho : OkB [(7, now)] := ⟨by simp, by simp; omega⟩
    -- (nothing to walk: cut)
    refine WP.cutS (fun c : List Blk => IsB b 1 n (-1) [(7, now)] c) (fun c : List Blk => [(5, .int .i64 n), (6, .pointer (some ⟨b, 0, none⟩)), (8, .int .i64 now)]) (fun c : List Blk => [c, whole W]) ?_ (fun c hinv => ?_)
    · refine WP.seq <| WP.region <| v0 (S0.assign rfl) rfl <| vE <| WP.block <| ?_  -- Code.loop
      refine WP.loop (fun k : Nat => k ≤ 3) (fun k : Nat => [(5, .int .i64 n), (6, .pointer (some ⟨b, 0, none⟩)), (8, .int .i64 now), (13, .int .i64 (k : Int))]) (fun k : Nat => [c, whole W]) (fun k : Nat => 3 - k) (0) (Nat.zero_le _) ⟨rfl, rfl, rfl, rfl, trivial⟩ ⟨_, (take1 at0 (take1 at0 take0))⟩ (fun k hinv => ?_) 
      refine WP.seq <| WP.seq <| WP.region <| v0 (S0.move rfl) rfl <| v0 (S0.cmp rfl rfl rfl) rfl <| vE <| ?_  -- cond
      first | refine WP.condP rfl (fun h1 => ?_) (fun h1 => ?_) | refine WP.condN rfl (fun h1 => ?_) (fun h1 => ?_) | refine WP.cond rfl (fun h1 => ?_) (fun h1 => ?_)
      · skip
        refine WP.skip <| WP.seq <| WP.block <| WP.seq <| WP.region <| v0 (S0.move rfl) rfl <| v0 (S0.move rfl) rfl <| v0 (S0.move rfl) rfl <| v0 (S0.ari rfl rfl rfl (wrap_i64 (by omega))) rfl <| v0 (S0.move rfl) rfl <| v0 (S0.ari rfl rfl rfl (wrap_i64 (by omega))) rfl <| ?_  -- op t94 := call F18{(*rivulet/beat.Beats).Left}(t88, 7:i64, t93)
        have hT : isTime (now + n + (k : Int)) = true := isT (by omega)
        refine vcd (S1.callF rfl (left_spec hc ho (by omega) 7 (now + n + k)) (take1 at0 take0)) rfl ?_
        have e1 : leftB [(7, now)] n 7 (now + n + k) = (0, true) := by
          simp only [leftB, gB, if_true, hT]
          congr 1
          omega
        rw [e1]
        refine v0 (S0.move rfl) rfl <| v0 (S0.extract rfl rfl) rfl <| v0 (S0.extract rfl rfl) rfl <| v0 (S0.assign rfl) rfl <| v0 (S0.assign rfl) rfl <| vE <| WP.seq <| WP.region <| v0 (S0.move rfl) rfl <| v0 (S0.move rfl) rfl <| v0 (S0.move rfl) rfl <| v0 (S0.ari rfl rfl rfl (wrap_i64 (by omega))) rfl <| v0 (S0.move rfl) rfl <| v0 (S0.ari rfl rfl rfl (wrap_i64 (by omega))) rfl <| ?_  -- op t103 := call F21{(*rivulet/beat.Beats).Late}(t97, t102)
        refine vc (S1.callF rfl (late_spec hc ho (by simp) (now + n + k)) (take1 at0 take0)) rfl ?_
        rintro v1 _ ⟨q1, hq1, rfl⟩
        refine app ?_
        have hge : n ≤ now + n + (k : Int) - now := by omega
        have e2 : lateB [(7, now)] n (now + n + k) = [7] := by simp [lateB, hT, hge]
        rw [e2] at hq1
        refine vnv (S1.buildSlice rfl (qs := [(0, _)]) rfl rfl) rfl fun b104 => ?_  -- op t105 := call F20{rivulet/rivuletref04.Ints}(t103, t104)
        refine vcd (S1.callF rfl (ints_spec (b := [7]) hq1 (IsSl.row (n := 1) (c := 1) (l := [.int .i64 7]) (sp := []) rfl rfl (by decide)) (by decide)) (take1 (atS at0) (take1 at0 take0))) rfl ?_
        refine v0 (S0.not rfl) rfl <| v0 (S0.move rfl) rfl <| ?_  -- guard t107 (wants False) at t108 := move t14 [if #10=False]
        refine csFh (t := 107) rfl ((by decide)) ?_
        refine gT rfl <| v0 (S0.move rfl) rfl <| gT rfl <| v0 (S0.cmp rfl rfl rfl) rfl <| v0 (S0.pickF rfl rfl) rfl <| v0 (S0.move rfl) rfl <| ?_  -- guard t111 (wants False) at t112 := move t15 [if #14=False]
        refine csFh (t := 111) rfl ((by decide)) ?_
        refine gT rfl <| v0 (S0.move rfl) rfl <| gT rfl <| v0 (S0.not rfl) rfl <| v0 (S0.pickF rfl rfl) rfl <| vE <| ?_  -- cond
        refine WP.condFh rfl ((by decide)) ?_
        refine WP.skip <| WP.region <| v0 (S0.move rfl) rfl <| v0 (S0.ari rfl rfl rfl (wrap_i64 (by omega))) rfl <| v0 (S0.assign rfl) rfl <| vE <| ?_  -- roundend
        exact ⟨k + 1, (by first | exact (show k + 1 ≤ 3 by omega) | (dsimp only; exact (show k + 1 ≤ 3 by omega))), (show 3 - (k + 1) < 3 - k by omega), ⟨⟨rfl, rfl, rfl, rfl, trivial⟩, rfl, rfl⟩, ⟨_, (take1 (atS (atS at0)) (take1 (atS (atS at0)) take0))⟩⟩
      · skip
        refine WP.exit <| ?_  -- cutend
        exact ⟨c, (by first | exact hc | (dsimp only; exact hc)), ⟨⟨rfl, rfl, rfl, trivial⟩, rfl, rfl⟩, ⟨_, (take1 at0 (take1 at0 take0))⟩⟩
    · skip
      have hT : isTime (now + n - 1) = true := isT (by omega)
      refine WP.seq <| WP.region <| v0 (S0.move rfl) rfl <| v0 (S0.move rfl) rfl <| v0 (S0.move rfl) rfl <| v0 (S0.ari rfl rfl rfl (wrap_i64 (by omega))) rfl <| v0 (S0.ari rfl rfl rfl (wrap_i64 (by omega))) rfl <| ?_  -- op t120 := call F21{(*rivulet/beat.Beats).Late}(t115, t119)
      refine vc (S1.callF rfl (late_spec hinv ho (by simp) (now + n - 1)) (take1 at0 take0)) rfl ?_
      rintro v1 _ ⟨q1, hq1, rfl⟩
      refine app ?_
      have e2 : lateB [(7, now)] n (now + n - 1) = [] := by simp [lateB, hT]; omega
      rw [e2] at hq1
      obtain ⟨a1, p1, rfl, -, -⟩ := hq1.intsE
      refine v0 (S0.lenSl rfl) rfl <| v0 (S0.cmp rfl rfl rfl) rfl <| v0 (S0.move rfl) rfl <| ?_  -- guard t123 (wants True) at t124 := call F25{rivulet/rivuletlaw15.fixed}() [if #8=True]
      refine csTh (t := 123) rfl ((by decide)) ?_
      -- (nothing to walk: op t124 := call F25{rivulet/rivuletlaw15.fixed}() [if #8=True])
      refine gT rfl <| vc (S1.callF rfl (fixed_spec) take0) rfl ?_
      rintro _ _ ⟨rfl, rfl⟩
      refine app ?_
      refine v0 (S0.pickT rfl rfl) rfl <| v0 (S0.assign rfl) rfl <| vE <| WP.ret <| ?_  -- ret
      refine Leaves.drop (take1 (atS (atS at0)) take0) ?_
      refine r1 rfl rfl ?_
      exact ⟨rfl, rfl⟩
end Go.Proofs.Ytmnmikcpdhnbnaa
