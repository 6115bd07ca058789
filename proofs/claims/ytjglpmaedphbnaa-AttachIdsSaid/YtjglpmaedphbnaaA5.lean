import Derived.Test.YtjglpmaedphbnaaA3
namespace Go.Proofs.Ytjglpmaedphbnaa
open Go

theorem epB_del {R : BM} (ho : OkB R) (k : Int) : epB (delB R k) k = 0 := by
  rw [epB, gB_del ho, if_pos rfl]; rfl
theorem openE_ge {R : BM} {k e : Int} (h : openE R k e = 0) : epB R k ≤ e := by
  unfold openE at h
  split at h
  · split at h
    · cases h
    · omega
  · cases h

theorem attachHall_walk (W : World) (g : Value) (hg : ArgI W 3 g) : FN Try.prog 5 [g] [whole W] (fun v h => v = .bool true ∧ h = [whole W]) := by
  obtain ⟨ga, glen, gcap, rfl, -, hgs⟩ := hg
  refine FN.intro 94 [(0, .slice ga glen gcap)] Try.func5 rfl (enters Try.func5 (by kernel_rfl) rfl) Try.ntmps5 rfl rfl ?_
  refine WP.seq <| WP.region <| v0 (S0.assign rfl) rfl <| vE <| WP.seq <| WP.region <| ?_  -- op t10 := call F10{rivulet/attach.Empty}()
  refine vc (S1.callF rfl (empty_spec) take0) rfl ?_
  rintro _ _ ⟨hb, c0, rfl, rfl, hc0⟩
  refine app ?_
  refine v0 (S0.assign rfl) rfl <| vE <| WP.seq <| WP.seq <| WP.region <| v0 (S0.move rfl) rfl <| v0 (S0.nilP rfl rfl rfl rfl) rfl <| vE <| ?_  -- cond
  refine WP.condFh rfl (rfl) ?_
  refine WP.skip <| ?_  -- cut
  refine WP.cutS (fun s : Nat => True) (fun s : Nat => [(3, .pointer (some ⟨hb, 0, none⟩))]) (fun s : Nat => [whole W]) ?_ (fun s hinv => ?_)
  · refine WP.seq <| WP.region <| v0 (S0.assign rfl) rfl <| vE <| WP.block <| ?_  -- Code.loop
    refine WP.loop (fun s : Nat × BM × List Blk => s.1 ≤ 80 ∧ OkH s.2.1 ∧ IsH hb s.2.1 s.2.2) (fun s : Nat × BM × List Blk => [(0, .slice ga glen gcap), (3, .pointer (some ⟨hb, 0, none⟩)), (4, .int .i64 (s.1 : Int))]) (fun s : Nat × BM × List Blk => [s.2.2, whole W]) (fun s : Nat × BM × List Blk => 80 - s.1) ((0, [], c0)) (⟨Nat.zero_le _, .nil, hc0⟩) ⟨rfl, rfl, rfl, trivial⟩ ⟨_, (take1 at0 (take1 at0 take0))⟩ (fun s hinv => ?_) 
    obtain ⟨i, R, c⟩ := s
    obtain ⟨hi, hO, hc⟩ := hinv
    dsimp only at hi hO hc ⊢
    refine WP.seq <| WP.seq <| WP.region <| v0 (S0.move rfl) rfl <| v0 (S0.move rfl) rfl <| v0 (S0.lenSl rfl) rfl <| v0 (S0.cmp rfl rfl rfl) rfl <| v0 (S0.move rfl) rfl <| ?_  -- guard t17 (wants True) at t18 := move t4 [if #4=True]
    first | refine csP (t := 17) rfl (fun h1 => ?_) (fun h1 => ?_) | refine csN (t := 17) rfl (fun h1 => ?_) (fun h1 => ?_) | refine cs (t := 17) rfl (fun h1 => ?_) (fun h1 => ?_)
    · skip
      refine gT rfl <| v0 (S0.move rfl) rfl <| gT rfl <| v0 (S0.cmp rfl rfl rfl) rfl <| v0 (S0.pickT rfl rfl) rfl <| vE <| ?_  -- cond
      first | refine WP.condP rfl (fun h2 => ?_) (fun h2 => ?_) | refine WP.condN rfl (fun h2 => ?_) (fun h2 => ?_) | refine WP.cond rfl (fun h2 => ?_) (fun h2 => ?_)
      · skip
        rcases hgs with h0 | ⟨gb, go, GL, GU, gfz, rfl, hgb, hcell⟩
        · omega
        have hlt : i < glen := by omega
        obtain ⟨kd, hkd, -⟩ := hcell i 0 hlt (by decide)
        obtain ⟨who, hwho, -⟩ := hcell i 1 hlt (by decide)
        obtain ⟨n, hn, -⟩ := hcell i 2 hlt (by decide)
        have : HasC (whole W) gb (.cells ⟨GL⟩ GU gfz) := ⟨whole_mem.2 hgb⟩
        refine WP.skip <| WP.seq <| WP.block <| WP.seq <| WP.region <| v0 (S0.move rfl) rfl <| v0 (S0.move rfl) rfl <| ?_  -- op t25 := indexAddr 22 t23 t24
        refine v0 (S0.indexO rfl rfl hlt) rfl <| ?_
        refine v0 (S0.loadA rfl (take3_of hkd hwho hn) rfl) rfl <| ?_
        refine vn (S1.alloc) rfl fun b5 => vs (S1.storeA rfl rfl rfl) <| vE <| WP.seq <| WP.region <| v0 (S0.move rfl) rfl <| v0 (S0.fieldAddr rfl) rfl <| v0 (S0.load rfl rfl) rfl <| ?_  -- op t30 := call F26{(*rivulet/attach.Hall).Epoch}(t27, t29)
        refine vcd (S1.callF rfl (hepoch_spec hc who) (take1 (atS at0) take0)) rfl ?_
        refine v0 (S0.assign rfl) rfl <| vE <| WP.seq <| WP.seq <| WP.region <| v0 (S0.fieldAddr rfl) rfl <| v0 (S0.load rfl rfl) rfl <| v0 (S0.cmp rfl rfl rfl) rfl <| vE <| ?_  -- cond
        first | refine WP.condP rfl (fun hk => ?_) (fun hk => ?_) | refine WP.condN rfl (fun hk => ?_) (fun hk => ?_) | refine WP.cond rfl (fun hk => ?_) (fun hk => ?_)
        · skip
          refine WP.seq <| WP.seq <| WP.region <| v0 (S0.move rfl) rfl <| v0 (S0.fieldAddr rfl) rfl <| v0 (S0.load rfl rfl) rfl <| ?_  -- op t37 := call F21{(*rivulet/attach.Hall).Drop}(t34, t36)
          refine vc (S1.callF rfl (hdrop_spec hc hO.ok who) (take1 at0 take0)) rfl ?_
          rintro _ _ ⟨rfl, c2, rfl, hc2⟩
          refine app ?_
          have e1 : (gB R who).isSome = decide (0 < epB R who) := by
            rw [Bool.eq_iff_iff, decide_eq_true_eq, epB_pos hO]
          refine v0 (S0.move rfl) rfl <| v0 (S0.cmp rfl rfl rfl) rfl <| v0 (S0.cmpB rfl rfl rfl) rfl <| v0 (S0.move rfl) rfl <| ?_  -- guard t41 (wants False) at t42 := move t3 [if #7=False]
          refine csFh (t := 41) rfl ((by rw [e1]; simp)) ?_
          refine gT rfl <| v0 (S0.move rfl) rfl <| gT rfl <| v0 (S0.fieldAddr rfl) rfl <| gT rfl <| v0 (S0.load rfl rfl) rfl <| ?_  -- op t45 := call F26{(*rivulet/attach.Hall).Epoch}(t42, t44) [if #7=False]
          refine gT rfl <| vcd (S1.callF rfl (hepoch_spec hc2 who) (take1 at0 take0)) rfl ?_
          refine gT rfl <| v0 (S0.cmp rfl rfl rfl) rfl <| v0 (S0.pickF rfl rfl) rfl <| vE <| ?_  -- cond
          refine WP.condFh rfl ((by rw [epB_del hO.ok]; rfl)) ?_
          refine WP.skip <| WP.exit <| WP.region <| v0 (S0.move rfl) rfl <| v0 (S0.ari rfl rfl rfl (wrap_i64 (by omega))) rfl <| v0 (S0.assign rfl) rfl <| vE <| ?_  -- roundend
          exact ⟨(i + 1, delB R who, c2), (by first | exact ⟨by omega, hO.del who, hc2⟩ | (dsimp only; exact ⟨by omega, hO.del who, hc2⟩)), (show 80 - (i + 1) < 80 - i by omega), ⟨⟨rfl, rfl, rfl, trivial⟩, rfl, rfl⟩, ⟨_, (take1 at0 (take1 (atS at0) take0))⟩⟩
        · skip
          refine WP.skip <| WP.seq <| WP.region <| v0 (S0.move rfl) rfl <| v0 (S0.fieldAddr rfl) rfl <| v0 (S0.load rfl rfl) rfl <| v0 (S0.fieldAddr rfl) rfl <| v0 (S0.load rfl rfl) rfl <| ?_  -- op t54 := call F19{(*rivulet/attach.Hall).Open}(t49, t51, t53)
          refine vc (S1.callF rfl (hopen_spec hc who n) (take1 at0 take0)) rfl ?_
          rintro _ _ ⟨rfl, c2, rfl, hc2⟩
          refine app ?_
          refine v0 (S0.move rfl) rfl <| v0 (S0.extract rfl rfl) rfl <| v0 (S0.extract rfl rfl) rfl <| v0 (S0.assign rfl) rfl <| v0 (S0.assign rfl) rfl <| vE <| WP.seq <| WP.region <| v0 (S0.move rfl) rfl <| v0 (S0.fieldAddr rfl) rfl <| v0 (S0.load rfl rfl) rfl <| ?_  -- op t60 := call F26{(*rivulet/attach.Hall).Epoch}(t57, t59)
          refine vcd (S1.callF rfl (hepoch_spec hc2 who) (take1 at0 take0)) rfl ?_
          have hO2 := hO.open who n
          skip
          by_cases h0 : openE R who n = 0
          · skip
            have hge := openE_ge h0
            have e1 : epB (openR R who n) who = n := by rw [epB_open, if_pos h0]
            have e2 : openB R who n = decide (epB R who < n) := by
              rw [openB, h0, Bool.eq_iff_iff]; simp; omega
            rw [e1, h0]
            refine v0 (S0.assign rfl) rfl <| vE <| WP.seq <| WP.region <| v0 (S0.move rfl) rfl <| v0 (S0.move rfl) rfl <| v0 (S0.cmp rfl rfl rfl) rfl <| v0 (S0.move rfl) rfl <| ?_  -- guard t64 (wants False) at t65 := move t7 [if #3=False]
            refine csFh (t := 64) rfl ((decide_eq_false (by omega))) ?_
            refine gT rfl <| v0 (S0.move rfl) rfl <| gT rfl <| v0 (S0.move rfl) rfl <| gT rfl <| v0 (S0.move rfl) rfl <| gT rfl <| v0 (S0.cmp rfl rfl rfl) rfl <| gT rfl <| v0 (S0.cmpB rfl rfl rfl) rfl <| v0 (S0.pickF rfl rfl) rfl <| v0 (S0.move rfl) rfl <| ?_  -- guard t71 (wants False) at t72 := move t8 [if #10=False]
            refine csFh (t := 71) rfl ((by rw [e2]; simp)) ?_
            refine gT rfl <| v0 (S0.move rfl) rfl <| gT rfl <| v0 (S0.cmp rfl rfl rfl) rfl <| gT rfl <| v0 (S0.move rfl) rfl <| ?_  -- guard t74 (wants True) at t75 := move t9 [if #13=True]
            refine csTh (t := 74) rfl (rfl) ?_
            refine gT rfl <| v0 (S0.move rfl) rfl <| gT rfl <| v0 (S0.fieldAddr rfl) rfl <| gT rfl <| v0 (S0.load rfl rfl) rfl <| gT rfl <| v0 (S0.cmp rfl rfl rfl) rfl <| gT rfl <| v0 (S0.pickT rfl rfl) rfl <| v0 (S0.pickF rfl rfl) rfl <| v0 (S0.move rfl) rfl <| ?_  -- guard t81 (wants False) at t82 := move t8 [if #20=False]
            refine csFh (t := 81) rfl ((by simp)) ?_
            refine gT rfl <| v0 (S0.move rfl) rfl <| gT rfl <| v0 (S0.cmp rfl rfl rfl) rfl <| gT rfl <| v0 (S0.move rfl) rfl <| ?_  -- guard t84 (wants True) at t85 := move t9 [if #23=True]
            refine csFh (t := 84) rfl (rfl) ?_
            refine gF rfl rfl <| gF rfl rfl <| gF rfl rfl <| gF rfl rfl <| gF rfl rfl <| gF rfl rfl <| gT rfl <| v0 (S0.pickF rfl rfl) rfl <| v0 (S0.pickF rfl rfl) rfl <| vE <| WP.condF rfl <| WP.skip <| WP.region <| v0 (S0.move rfl) rfl <| v0 (S0.ari rfl rfl rfl (wrap_i64 (by omega))) rfl <| v0 (S0.assign rfl) rfl <| vE <| ?_  -- roundend
            exact ⟨(i + 1, openR R who n, c2), (by first | exact ⟨by omega, hO2, hc2⟩ | (dsimp only; exact ⟨by omega, hO2, hc2⟩)), (show 80 - (i + 1) < 80 - i by omega), ⟨⟨rfl, rfl, rfl, trivial⟩, rfl, rfl⟩, ⟨_, (take1 at0 (take1 (atS at0) take0))⟩⟩
          · skip
            have e1 : epB (openR R who n) who = epB R who := by rw [epB_open, if_neg h0]
            have e2 : openB R who n = false := by rw [openB, decide_eq_false h0]; rfl
            rw [e1, e2]
            refine v0 (S0.assign rfl) rfl <| vE <| WP.seq <| WP.region <| v0 (S0.move rfl) rfl <| v0 (S0.move rfl) rfl <| v0 (S0.cmp rfl rfl rfl) rfl <| v0 (S0.move rfl) rfl <| ?_  -- guard t64 (wants False) at t65 := move t7 [if #3=False]
            refine csFh (t := 64) rfl ((by simp)) ?_
            refine gT rfl <| v0 (S0.move rfl) rfl <| gT rfl <| v0 (S0.move rfl) rfl <| gT rfl <| v0 (S0.move rfl) rfl <| gT rfl <| v0 (S0.cmp rfl rfl rfl) rfl <| gT rfl <| v0 (S0.cmpB rfl rfl rfl) rfl <| v0 (S0.pickF rfl rfl) rfl <| v0 (S0.move rfl) rfl <| ?_  -- guard t71 (wants False) at t72 := move t8 [if #10=False]
            refine csFh (t := 71) rfl ((by simp)) ?_
            refine gT rfl <| v0 (S0.move rfl) rfl <| gT rfl <| v0 (S0.cmp rfl rfl rfl) rfl <| gT rfl <| v0 (S0.move rfl) rfl <| ?_  -- guard t74 (wants True) at t75 := move t9 [if #13=True]
            refine csFh (t := 74) rfl ((decide_eq_false h0)) ?_
            refine gF rfl rfl <| gF rfl rfl <| gF rfl rfl <| gF rfl rfl <| gT rfl <| v0 (S0.pickF rfl rfl) rfl <| v0 (S0.pickF rfl rfl) rfl <| v0 (S0.move rfl) rfl <| gT rfl <| v0 (S0.move rfl) rfl <| gT rfl <| v0 (S0.cmp rfl rfl rfl) rfl <| gT rfl <| v0 (S0.move rfl) rfl <| ?_  -- guard t84 (wants True) at t85 := move t9 [if #23=True]
            refine csTh (t := 84) rfl ((by simp [h0])) ?_
            refine gT rfl <| v0 (S0.move rfl) rfl <| gT rfl <| v0 (S0.move rfl) rfl <| gT rfl <| v0 (S0.cmp rfl rfl rfl) rfl <| gT rfl <| v0 (S0.move rfl) rfl <| ?_  -- guard t88 (wants False) at t89 := move t7 [if #27=False]
            refine csFh (t := 88) rfl ((by simp)) ?_
            refine gT rfl <| v0 (S0.move rfl) rfl <| gT rfl <| v0 (S0.pickF rfl rfl) rfl <| gT rfl <| v0 (S0.pickT rfl rfl) rfl <| v0 (S0.pickF rfl rfl) rfl <| vE <| ?_  -- cond
            refine WP.condFh rfl (rfl) ?_
            refine WP.skip <| WP.region <| v0 (S0.move rfl) rfl <| v0 (S0.ari rfl rfl rfl (wrap_i64 (by omega))) rfl <| v0 (S0.assign rfl) rfl <| vE <| ?_  -- roundend
            exact ⟨(i + 1, openR R who n, c2), (by first | exact ⟨by omega, hO2, hc2⟩ | (dsimp only; exact ⟨by omega, hO2, hc2⟩)), (show 80 - (i + 1) < 80 - i by omega), ⟨⟨rfl, rfl, rfl, trivial⟩, rfl, rfl⟩, ⟨_, (take1 at0 (take1 (atS at0) take0))⟩⟩
      · skip
        refine WP.exit <| ?_  -- cutend
        exact ⟨0, (by first | exact trivial | (dsimp only; exact trivial)), ⟨⟨rfl, trivial⟩, rfl, rfl⟩, ⟨_, (take1 (atS at0) take0)⟩⟩
    · skip
      refine gF rfl rfl <| gF rfl rfl <| v0 (S0.pickF rfl rfl) rfl <| vE <| WP.condF rfl <| WP.exit <| ?_  -- cutend
      exact ⟨0, (by first | exact trivial | (dsimp only; exact trivial)), ⟨⟨rfl, trivial⟩, rfl, rfl⟩, ⟨_, (take1 (atS at0) take0)⟩⟩
  · skip
    refine WP.seq <| WP.region <| ?_  -- op t93 := call F31{rivulet/rivuletlaw17.fixed}()
    refine vc (S1.callF rfl (fixed_spec) take0) rfl ?_
    rintro _ _ ⟨rfl, rfl⟩
    refine app ?_
    refine v0 (S0.assign rfl) rfl <| vE <| WP.ret <| ?_  -- ret
    refine r1 rfl rfl ?_
    exact ⟨rfl, rfl⟩
end Go.Proofs.Ytjglpmaedphbnaa
