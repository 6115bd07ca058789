import Derived.Test.YtjglpmaedphbnaaA3
namespace Go.Proofs.Ytjglpmaedphbnaa
open Go

structure BothA (hb xb : Nat) (ch : Ch) (R : BM) (hc xc : List Blk) : Prop where
  okc : OkC ch
  okh : OkH R
  ih : IsH hb R hc
  ix : IsRH xb R xc

theorem attachDoes_walk (W : World) (every epoch : Int) (g : Value) (hg : ArgI W 3 g) : FN Try.prog 3 [.int .i64 every, .int .i64 epoch, g] [whole W] (fun v h => v = .bool true ∧ h = [whole W]) := by
  obtain ⟨ga, glen, gcap, rfl, -, hgs⟩ := hg
  refine FN.intro 227 [(0, .int .i64 every), (1, .int .i64 epoch), (2, .slice ga glen gcap)] Try.func3 rfl (enters Try.func3 (by kernel_rfl) rfl) Try.ntmps3 rfl rfl ?_
  refine WP.seq <| WP.region <| v0 (S0.assign rfl) rfl <| vE <| WP.seq <| WP.region <| v0 (S0.move rfl) rfl <| v0 (S0.move rfl) rfl <| ?_  -- op t26 := call F8{rivulet/attach.New}(t24, t25)
  skip
  by_cases hv : (1 ≤ every ∧ every ≤ 1000) ∧ 0 ≤ epoch ∧ epoch < 1099511627776
  · skip
    refine vc (S1.callF rfl (cnew_ok hv) take0) rfl ?_
    rintro _ _ ⟨cb, rfl, rfl⟩
    refine app ?_
    refine v0 (S0.move rfl) rfl <| v0 (S0.extract rfl rfl) rfl <| v0 (S0.extract rfl rfl) rfl <| v0 (S0.assign rfl) rfl <| v0 (S0.assign rfl) rfl <| vE <| WP.seq <| WP.region <| v0 (S0.move rfl) rfl <| v0 (S0.move rfl) rfl <| ?_  -- op t32 := call F9{rivulet/rivuletref17.New}(t30, t31)
    refine vc (S1.callF rfl (rcnew_ok hv) take0) rfl ?_
    rintro _ _ ⟨rb, rfl, rfl⟩
    refine app ?_
    refine v0 (S0.move rfl) rfl <| v0 (S0.extract rfl rfl) rfl <| v0 (S0.extract rfl rfl) rfl <| v0 (S0.assign rfl) rfl <| v0 (S0.assign rfl) rfl <| vE <| WP.seq <| WP.region <| ?_  -- op t35 := call F10{rivulet/attach.Empty}()
    refine vc (S1.callF rfl (empty_spec) take0) rfl ?_
    rintro _ _ ⟨hb, hc0, rfl, rfl, hh0⟩
    refine app ?_
    refine v0 (S0.build rfl (qs := []) rfl) rfl <| vn (S1.box rfl rfl) rfl fun b37 => v0 (S0.assign rfl) rfl <| v0 (S0.assign rfl) rfl <| vE <| WP.seq <| WP.seq <| WP.region <| v0 (S0.move rfl) rfl <| v0 (S0.move rfl) rfl <| v0 (S0.cmp rfl rfl rfl) rfl <| v0 (S0.move rfl) rfl <| ?_  -- guard t41 (wants False) at t42 := move t7 [if #3=False]
    refine csFh (t := 41) rfl ((by simp)) ?_
    refine gT rfl <| v0 (S0.move rfl) rfl <| gT rfl <| v0 (S0.nilP rfl rfl rfl rfl) rfl <| gT rfl <| v0 (S0.move rfl) rfl <| gT rfl <| v0 (S0.nilP rfl rfl rfl rfl) rfl <| gT rfl <| v0 (S0.cmpB rfl rfl rfl) rfl <| v0 (S0.pickF rfl rfl) rfl <| vE <| ?_  -- cond
    refine WP.condFh rfl (rfl) ?_
    refine WP.skip <| ?_  -- cut
    refine WP.cutS (fun s : List Blk => True) (fun s : List Blk => [(11, .pointer (some ⟨hb, 0, none⟩))]) (fun s : List Blk => [whole W]) ?_ (fun s hinv => ?_)
    · refine WP.seq <| WP.region <| v0 (S0.assign rfl) rfl <| vE <| WP.block <| ?_  -- Code.loop
      refine WP.loop (fun s : Nat × Ch × BM × List Blk × List Blk => s.1 ≤ 80 ∧ s.2.2.1.length ≤ s.1 ∧ BothA hb b37 s.2.1 s.2.2.1 s.2.2.2.1 s.2.2.2.2) (fun s : Nat × Ch × BM × List Blk × List Blk => [(2, .slice ga glen gcap), (7, .pointer (some ⟨cb, 0, none⟩)), (9, .pointer (some ⟨rb, 0, none⟩)), (11, .pointer (some ⟨hb, 0, none⟩)), (12, .pointer (some ⟨b37, 0, none⟩)), (13, .int .i64 (s.1 : Int))]) (fun s : Nat × Ch × BM × List Blk × List Blk => [chB cb s.2.1, rchB rb s.2.1, s.2.2.2.1, s.2.2.2.2, whole W]) (fun s : Nat × Ch × BM × List Blk × List Blk => 80 - s.1) ((0, ⟨every, epoch, 0, 0, 0⟩, [], hc0, [(b37, cel [.slice none 0 0] 35)])) (⟨Nat.zero_le _, Nat.le_refl _, ⟨hv.1, by simp; omega, .inl rfl, by simp⟩, .nil, hh0, _, [], .nil, rfl⟩) ⟨rfl, rfl, rfl, rfl, rfl, rfl, trivial⟩ ⟨_, (take1 (atS (atS (atS at0))) (take1 (atS (atS at0)) (take1 (atS at0) (take1 at0 (take1 at0 take0)))))⟩ (fun s hinv => ?_) 
      obtain ⟨i, ch, R, hc, xc⟩ := s
      obtain ⟨hi, hlen, hB⟩ := hinv
      dsimp only at hi hlen hB ⊢
      refine WP.seq <| WP.seq <| WP.region <| v0 (S0.move rfl) rfl <| v0 (S0.nilP rfl rfl rfl rfl) rfl <| v0 (S0.move rfl) rfl <| ?_  -- guard t50 (wants True) at t51 := move t11 [if #2=True]
      refine csTh (t := 50) rfl (rfl) ?_
      refine gT rfl <| v0 (S0.move rfl) rfl <| gT rfl <| v0 (S0.nilP rfl rfl rfl rfl) rfl <| v0 (S0.pickT rfl rfl) rfl <| v0 (S0.move rfl) rfl <| ?_  -- guard t54 (wants True) at t55 := move t13 [if #6=True]
      refine csTh (t := 54) rfl (rfl) ?_
      refine gT rfl <| v0 (S0.move rfl) rfl <| gT rfl <| v0 (S0.move rfl) rfl <| gT rfl <| v0 (S0.lenSl rfl) rfl <| gT rfl <| v0 (S0.cmp rfl rfl rfl) rfl <| v0 (S0.pickT rfl rfl) rfl <| v0 (S0.move rfl) rfl <| ?_  -- guard t60 (wants True) at t61 := move t13 [if #12=True]
      first | refine csP (t := 60) rfl (fun h1 => ?_) (fun h1 => ?_) | refine csN (t := 60) rfl (fun h1 => ?_) (fun h1 => ?_) | refine cs (t := 60) rfl (fun h1 => ?_) (fun h1 => ?_)
      · skip
        refine gT rfl <| v0 (S0.move rfl) rfl <| gT rfl <| v0 (S0.cmp rfl rfl rfl) rfl <| v0 (S0.pickT rfl rfl) rfl <| vE <| ?_  -- cond
        first | refine WP.condP rfl (fun h2 => ?_) (fun h2 => ?_) | refine WP.condN rfl (fun h2 => ?_) (fun h2 => ?_) | refine WP.cond rfl (fun h2 => ?_) (fun h2 => ?_)
        · skip
          rcases hgs with h0 | ⟨gb, go, GL, GU, gfz, rfl, hgb, hcell⟩
          · omega
          have hlt : i < glen := by omega
          obtain ⟨kd, hkd, -⟩ := hcell i 0 hlt (by decide)
          obtain ⟨who, hwho, -⟩ := hcell i 1 hlt (by decide)
          obtain ⟨n, hn, -⟩ := hcell i 2 hlt (by decide)
          have : HasC (whole W) gb (.cells ⟨GL⟩ GU gfz) := ⟨whole_mem.2 hgb⟩
          refine WP.skip <| WP.seq <| WP.block <| WP.seq <| WP.region <| v0 (S0.move rfl) rfl <| v0 (S0.move rfl) rfl <| ?_  -- op t68 := indexAddr 22 t66 t67
          refine v0 (S0.indexO rfl rfl hlt) rfl <| ?_
          refine v0 (S0.loadA rfl (take3_of hkd hwho hn) rfl) rfl <| ?_
          refine vn (S1.alloc) rfl fun b14 => vs (S1.storeA rfl rfl rfl) <| vE <| WP.seq <| WP.region <| v0 (S0.assign rfl) rfl <| v0 (S0.assign rfl) rfl <| v0 (S0.assign rfl) rfl <| v0 (S0.assign rfl) rfl <| v0 (S0.assign rfl) rfl <| v0 (S0.assign rfl) rfl <| vE <| ?_  -- cut
          refine WP.cutS (fun s : Int × Int × Bool × Ch × BM × List Blk × List Blk => s.2.2.2.2.1.length ≤ i + 1 ∧ BothA hb b37 s.2.2.2.1 s.2.2.2.2.1 s.2.2.2.2.2.1 s.2.2.2.2.2.2) (fun s : Int × Int × Bool × Ch × BM × List Blk × List Blk => [(2, .slice (some ⟨gb, go, none⟩) glen gcap), (7, .pointer (some ⟨cb, 0, none⟩)), (9, .pointer (some ⟨rb, 0, none⟩)), (11, .pointer (some ⟨hb, 0, none⟩)), (12, .pointer (some ⟨b37, 0, none⟩)), (13, .int .i64 (i : Int)), (14, .pointer (some ⟨b14, 0, none⟩)), (15, .int .i64 s.1), (16, .int .i64 s.1), (17, .int .i64 s.2.1), (18, .int .i64 s.2.1), (19, .bool s.2.2.1), (20, .bool s.2.2.1)]) (fun s : Int × Int × Bool × Ch × BM × List Blk × List Blk => [[(b14, cel [.int .i64 kd, .int .i64 who, .int .i64 n] 37)], chB cb s.2.2.2.1, rchB rb s.2.2.2.1, s.2.2.2.2.2.1, s.2.2.2.2.2.2, whole W]) ?_ (fun s hinv => ?_)
          · refine WP.seq <| WP.region <| v0 (S0.fieldAddr rfl) rfl <| v0 (S0.load rfl rfl) rfl <| vE <| WP.block <| WP.seq <| WP.region <| v0 (S0.cmp rfl rfl rfl) rfl <| v0 (S0.assign rfl) rfl <| vE <| ?_  -- cond
            first | refine WP.condP rfl (fun hk0 => ?_) (fun hk0 => ?_) | refine WP.condN rfl (fun hk0 => ?_) (fun hk0 => ?_) | refine WP.cond rfl (fun hk0 => ?_) (fun hk0 => ?_)
            · skip
              refine WP.seq <| WP.region <| v0 (S0.move rfl) rfl <| v0 (S0.fieldAddr rfl) rfl <| v0 (S0.load rfl rfl) rfl <| v0 (S0.fieldAddr rfl) rfl <| v0 (S0.load rfl rfl) rfl <| ?_  -- op t88 := call F11{(*rivulet/attach.Child).Ask}(t83, t85, t87)
              refine vcd (S1.callF rfl (ask_spec hB.okc who n) (take1 (atS at0) take0)) rfl ?_
              refine v0 (S0.move rfl) rfl <| v0 (S0.extract rfl rfl) rfl <| v0 (S0.extract rfl rfl) rfl <| v0 (S0.assign rfl) rfl <| v0 (S0.assign rfl) rfl <| vE <| WP.region <| v0 (S0.move rfl) rfl <| v0 (S0.fieldAddr rfl) rfl <| v0 (S0.load rfl rfl) rfl <| v0 (S0.fieldAddr rfl) rfl <| v0 (S0.load rfl rfl) rfl <| ?_  -- op t97 := call F12{(*rivulet/rivuletref17.Child).Ask}(t92, t94, t96)
              refine vcd (S1.callF rfl (rask_spec hB.okc who n) (take1 (atS (atS at0)) take0)) rfl ?_
              refine v0 (S0.move rfl) rfl <| v0 (S0.extract rfl rfl) rfl <| v0 (S0.extract rfl rfl) rfl <| v0 (S0.assign rfl) rfl <| v0 (S0.assign rfl) rfl <| vE <| ?_  -- cutend
              exact ⟨(askV ch who n, askE ch who n, false, askC ch who n, R, hc, xc), (by first | exact ⟨by omega, hB.okc.ask who n, hB.okh, hB.ih, hB.ix⟩ | (dsimp only; exact ⟨by omega, hB.okc.ask who n, hB.okh, hB.ih, hB.ix⟩)), ⟨⟨rfl, rfl, rfl, rfl, rfl, rfl, rfl, rfl, rfl, rfl, rfl, rfl, rfl, trivial⟩, rfl, rfl⟩, ⟨_, (take1 (atS (atS at0)) (take1 (atS at0) (take1 at0 (take1 at0 (take1 at0 (take1 at0 take0))))))⟩⟩
            · skip
              refine WP.seq <| WP.region <| v0 (S0.cmp rfl rfl rfl) rfl <| v0 (S0.assign rfl) rfl <| vE <| ?_  -- cond
              first | refine WP.condP rfl (fun hk1 => ?_) (fun hk1 => ?_) | refine WP.condN rfl (fun hk1 => ?_) (fun hk1 => ?_) | refine WP.cond rfl (fun hk1 => ?_) (fun hk1 => ?_)
              · skip
                refine WP.seq <| WP.region <| v0 (S0.move rfl) rfl <| v0 (S0.fieldAddr rfl) rfl <| v0 (S0.load rfl rfl) rfl <| ?_  -- op t105 := call F13{(*rivulet/attach.Child).Again}(t102, t104)
                refine vcd (S1.callF rfl (again_spec hB.okc n) (take1 (atS at0) take0)) rfl ?_
                refine v0 (S0.assign rfl) rfl <| vE <| WP.region <| v0 (S0.move rfl) rfl <| v0 (S0.fieldAddr rfl) rfl <| v0 (S0.load rfl rfl) rfl <| ?_  -- op t109 := call F14{(*rivulet/rivuletref17.Child).Again}(t106, t108)
                refine vcd (S1.callF rfl (ragain_spec hB.okc n) (take1 (atS (atS at0)) take0)) rfl ?_
                refine v0 (S0.assign rfl) rfl <| vE <| ?_  -- cutend
                exact ⟨(0, 0, againB ch n, againC ch n, R, hc, xc), (by first | exact ⟨by omega, hB.okc.again n, hB.okh, hB.ih, hB.ix⟩ | (dsimp only; exact ⟨by omega, hB.okc.again n, hB.okh, hB.ih, hB.ix⟩)), ⟨⟨rfl, rfl, rfl, rfl, rfl, rfl, rfl, rfl, rfl, rfl, rfl, rfl, rfl, trivial⟩, rfl, rfl⟩, ⟨_, (take1 (atS (atS at0)) (take1 (atS at0) (take1 at0 (take1 at0 (take1 at0 (take1 at0 take0))))))⟩⟩
              · skip
                refine WP.seq <| WP.region <| v0 (S0.cmp rfl rfl rfl) rfl <| v0 (S0.assign rfl) rfl <| vE <| ?_  -- cond
                first | refine WP.condP rfl (fun hk2 => ?_) (fun hk2 => ?_) | refine WP.condN rfl (fun hk2 => ?_) (fun hk2 => ?_) | refine WP.cond rfl (fun hk2 => ?_) (fun hk2 => ?_)
                · skip
                  refine WP.seq <| WP.region <| v0 (S0.move rfl) rfl <| v0 (S0.fieldAddr rfl) rfl <| v0 (S0.load rfl rfl) rfl <| v0 (S0.fieldAddr rfl) rfl <| v0 (S0.load rfl rfl) rfl <| ?_  -- op t117 := call F15{(*rivulet/attach.Child).Welcome}(t112, t114, t116)
                  refine vcd (S1.callF rfl (wel_spec hB.okc who n) (take1 (atS at0) take0)) rfl ?_
                  refine v0 (S0.assign rfl) rfl <| vE <| WP.region <| v0 (S0.move rfl) rfl <| v0 (S0.fieldAddr rfl) rfl <| v0 (S0.load rfl rfl) rfl <| v0 (S0.fieldAddr rfl) rfl <| v0 (S0.load rfl rfl) rfl <| ?_  -- op t123 := call F16{(*rivulet/rivuletref17.Child).Welcome}(t118, t120, t122)
                  refine vcd (S1.callF rfl (rwel_spec ch who n) (take1 (atS (atS at0)) take0)) rfl ?_
                  refine v0 (S0.assign rfl) rfl <| vE <| ?_  -- cutend
                  exact ⟨(0, welE ch who n, false, welC ch who n, R, hc, xc), (by first | exact ⟨by omega, hB.okc.wel who n, hB.okh, hB.ih, hB.ix⟩ | (dsimp only; exact ⟨by omega, hB.okc.wel who n, hB.okh, hB.ih, hB.ix⟩)), ⟨⟨rfl, rfl, rfl, rfl, rfl, rfl, rfl, rfl, rfl, rfl, rfl, rfl, rfl, trivial⟩, rfl, rfl⟩, ⟨_, (take1 (atS (atS at0)) (take1 (atS at0) (take1 at0 (take1 at0 (take1 at0 (take1 at0 take0))))))⟩⟩
                · skip
                  refine WP.seq <| WP.region <| v0 (S0.cmp rfl rfl rfl) rfl <| v0 (S0.assign rfl) rfl <| vE <| ?_  -- cond
                  first | refine WP.condP rfl (fun hk3 => ?_) (fun hk3 => ?_) | refine WP.condN rfl (fun hk3 => ?_) (fun hk3 => ?_) | refine WP.cond rfl (fun hk3 => ?_) (fun hk3 => ?_)
                  · skip
                    refine WP.seq <| WP.region <| v0 (S0.move rfl) rfl <| ?_  -- op t127 := call F17{(*rivulet/attach.Child).Lose}(t126)
                    refine vcd (S1.callF rfl (lose_spec ch) (take1 (atS at0) take0)) rfl ?_
                    refine v0 (S0.assign rfl) rfl <| vE <| WP.region <| v0 (S0.move rfl) rfl <| ?_  -- op t129 := call F18{(*rivulet/rivuletref17.Child).Lose}(t128)
                    refine vcd (S1.callF rfl (rlose_spec hB.okc) (take1 (atS (atS at0)) take0)) rfl ?_
                    refine v0 (S0.assign rfl) rfl <| vE <| ?_  -- cutend
                    exact ⟨(0, 0, loseB ch, loseC ch, R, hc, xc), (by first | exact ⟨by omega, hB.okc.lose, hB.okh, hB.ih, hB.ix⟩ | (dsimp only; exact ⟨by omega, hB.okc.lose, hB.okh, hB.ih, hB.ix⟩)), ⟨⟨rfl, rfl, rfl, rfl, rfl, rfl, rfl, rfl, rfl, rfl, rfl, rfl, rfl, trivial⟩, rfl, rfl⟩, ⟨_, (take1 (atS (atS at0)) (take1 (atS at0) (take1 at0 (take1 at0 (take1 at0 (take1 at0 take0))))))⟩⟩
                  · skip
                    refine WP.seq <| WP.region <| v0 (S0.cmp rfl rfl rfl) rfl <| v0 (S0.assign rfl) rfl <| vE <| ?_  -- cond
                    first | refine WP.condP rfl (fun hk4 => ?_) (fun hk4 => ?_) | refine WP.condN rfl (fun hk4 => ?_) (fun hk4 => ?_) | refine WP.cond rfl (fun hk4 => ?_) (fun hk4 => ?_)
                    · skip
                      refine WP.seq <| WP.region <| v0 (S0.move rfl) rfl <| v0 (S0.fieldAddr rfl) rfl <| v0 (S0.load rfl rfl) rfl <| v0 (S0.fieldAddr rfl) rfl <| v0 (S0.load rfl rfl) rfl <| ?_  -- op t138 := call F19{(*rivulet/attach.Hall).Open}(t133, t135, t137)
                      refine vc (S1.callF rfl (hopen_spec hB.ih who n) (take1 (atS (atS (atS at0))) take0)) rfl ?_
                      rintro _ _ ⟨rfl, hc2, rfl, hh2⟩
                      refine app ?_
                      refine v0 (S0.move rfl) rfl <| v0 (S0.extract rfl rfl) rfl <| v0 (S0.extract rfl rfl) rfl <| v0 (S0.assign rfl) rfl <| v0 (S0.assign rfl) rfl <| vE <| WP.region <| v0 (S0.move rfl) rfl <| v0 (S0.fieldAddr rfl) rfl <| v0 (S0.load rfl rfl) rfl <| v0 (S0.fieldAddr rfl) rfl <| v0 (S0.load rfl rfl) rfl <| ?_  -- op t147 := call F20{(*rivulet/rivuletref17.Hall).Open}(t142, t144, t146)
                      refine vc (S1.callF rfl (rhopen_spec hB.ix hB.okh.ok (by omega) who n) (take1 (atS (atS (atS (atS at0)))) take0)) rfl ?_
                      rintro _ _ ⟨rfl, xc2, rfl, hx2⟩
                      refine app ?_
                      refine v0 (S0.move rfl) rfl <| v0 (S0.extract rfl rfl) rfl <| v0 (S0.extract rfl rfl) rfl <| v0 (S0.assign rfl) rfl <| v0 (S0.assign rfl) rfl <| vE <| ?_  -- cutend
                      exact ⟨(0, openE R who n, openB R who n, ch, openR R who n, hc2, xc2), (by first | exact ⟨by have := open_len R who n; omega, hB.okc, hB.okh.open who n, hh2, hx2⟩ | (dsimp only; exact ⟨by have := open_len R who n; omega, hB.okc, hB.okh.open who n, hh2, hx2⟩)), ⟨⟨rfl, rfl, rfl, rfl, rfl, rfl, rfl, rfl, rfl, rfl, rfl, rfl, rfl, trivial⟩, rfl, rfl⟩, ⟨_, (take1 (atS (atS at0)) (take1 (atS (atS at0)) (take1 (atS (atS at0)) (take1 (atS at0) (take1 at0 (take1 at0 take0))))))⟩⟩
                    · skip
                      refine WP.seq <| WP.region <| v0 (S0.move rfl) rfl <| v0 (S0.fieldAddr rfl) rfl <| v0 (S0.load rfl rfl) rfl <| ?_  -- op t75 := call F21{(*rivulet/attach.Hall).Drop}(t72, t74)
                      refine vc (S1.callF rfl (hdrop_spec hB.ih hB.okh.ok who) (take1 (atS (atS (atS at0))) take0)) rfl ?_
                      rintro _ _ ⟨rfl, hc2, rfl, hh2⟩
                      refine app ?_
                      refine v0 (S0.assign rfl) rfl <| vE <| WP.region <| v0 (S0.move rfl) rfl <| v0 (S0.fieldAddr rfl) rfl <| v0 (S0.load rfl rfl) rfl <| ?_  -- op t79 := call F22{(*rivulet/rivuletref17.Hall).Drop}(t76, t78)
                      refine vc (S1.callF rfl (rhdrop_spec hB.ix hB.okh.ok (by omega) who) (take1 (atS (atS (atS (atS at0)))) take0)) rfl ?_
                      rintro _ _ ⟨rfl, xc2, rfl, hx2⟩
                      refine app ?_
                      refine v0 (S0.assign rfl) rfl <| vE <| ?_  -- cutend
                      exact ⟨(0, 0, (gB R who).isSome, ch, delB R who, hc2, xc2), (by first | exact ⟨by have := del_len R who; omega, hB.okc, hB.okh.del who, hh2, hx2⟩ | (dsimp only; exact ⟨by have := del_len R who; omega, hB.okc, hB.okh.del who, hh2, hx2⟩)), ⟨⟨rfl, rfl, rfl, rfl, rfl, rfl, rfl, rfl, rfl, rfl, rfl, rfl, rfl, trivial⟩, rfl, rfl⟩, ⟨_, (take1 (atS (atS at0)) (take1 (atS (atS at0)) (take1 (atS (atS at0)) (take1 (atS at0) (take1 at0 (take1 at0 take0))))))⟩⟩
          · skip
            obtain ⟨av, pv, sv, ch2, R2, hc2, xc2⟩ := s
            obtain ⟨hlen2, hB2⟩ := hinv
            dsimp only at hlen2 hB2 ⊢
            have hR2 : R2.length ≤ 1000000 := by omega
            have hst : decide (0 < ch2.state) = !decide (ch2.state = 0) := by
              rcases hB2.okc.state with h | h | h <;> rw [h] <;> rfl
            refine WP.seq <| WP.region <| v0 (S0.move rfl) rfl <| ?_  -- op t152 := call F23{(*rivulet/attach.Child).Parent}(t151)
            refine vcd (S1.callF rfl (parent_spec ch2) (take1 (atS at0) take0)) rfl ?_
            refine v0 (S0.move rfl) rfl <| v0 (S0.extract rfl rfl) rfl <| v0 (S0.extract rfl rfl) rfl <| v0 (S0.assign rfl) rfl <| v0 (S0.assign rfl) rfl <| vE <| WP.seq <| WP.drawP [0, 1, 2, 3, 4, 5, 6, 7, 8, 9, 10, 11, 12, 13, 14, 16, 17, 18, 19, 15, 20, 21, 22, 23, 25, 26, 27, 28, 24, 29, 30, 31, 32, 33, 34, 35, 36, 37, 38, 39, 40, 41, 42, 43, 44, 45, 46, 47, 48, 49, 50, 51, 53, 54, 55, 52, 56, 57, 58, 59, 60, 62, 61, 63, 64, 65, 66] mixed (by kernel_rfl) (by kernel_rfl) (by kernel_rfl) (take1 (atS at0) (take1 (atS at0) take0)) <| w0 rfl rfl rfl (S0.move rfl) rfl <| w0 rfl rfl rfl (S0.move rfl) rfl <| w0 rfl rfl rfl (S0.cmp rfl rfl rfl) rfl <| w0 rfl rfl rfl (S0.move rfl) rfl <| ?_  -- guard t158 (wants False) at t159 := move t17 [if #3=False]
            refine wcsFh (t := 158) rfl ((by simp)) ?_
            refine w0 rfl rfl rfl (S0.move rfl) rfl <| w0 rfl rfl rfl (S0.move rfl) rfl <| w0 rfl rfl rfl (S0.cmp rfl rfl rfl) rfl <| w0 rfl rfl rfl (S0.pickF rfl rfl) rfl <| w0 rfl rfl rfl (S0.move rfl) rfl <| ?_  -- guard t163 (wants False) at t164 := move t19 [if #8=False]
            refine wcsFh (t := 163) rfl ((by simp)) ?_
            refine w0 rfl rfl rfl (S0.move rfl) rfl <| w0 rfl rfl rfl (S0.move rfl) rfl <| w0 rfl rfl rfl (S0.cmpB rfl rfl rfl) rfl <| w0 rfl rfl rfl (S0.pickF rfl rfl) rfl <| w0 rfl rfl rfl (S0.move rfl) rfl <| ?_  -- guard t168 (wants False) at t169 := move t7 [if #13=False]
            refine wcsFh (t := 168) rfl ((by simp)) ?_
            refine w0 rfl rfl rfl (S0.move rfl) rfl <| w0 rfl rfl rfl (S0.move rfl) rfl <| w0 rfl rfl rfl (S0.nilCheck rfl) rfl <| w0 rfl rfl rfl (S0.fieldAddr rfl) rfl <| w0 rfl rfl rfl (S0.load rfl rfl) rfl <| ?_  -- op t170 := call F24{(*rivulet/attach.Child).State}(t169) [if #13=False]
            refine wcd rfl rfl rfl (S1.callF rfl (state_spec ch2) (take1 at0 take0)) rfl ?_
            refine w0 rfl rfl rfl (S0.cmp rfl rfl rfl) rfl <| w0 rfl rfl rfl (S0.pickF rfl rfl) rfl <| w0 rfl rfl rfl (S0.move rfl) rfl <| ?_  -- guard t177 (wants False) at t178 := move t7 [if #22=False]
            refine wcsFh (t := 177) rfl ((by simp)) ?_
            refine w0 rfl rfl rfl (S0.move rfl) rfl <| w0 rfl rfl rfl (S0.move rfl) rfl <| w0 rfl rfl rfl (S0.nilCheck rfl) rfl <| w0 rfl rfl rfl (S0.fieldAddr rfl) rfl <| w0 rfl rfl rfl (S0.load rfl rfl) rfl <| ?_  -- op t179 := call F25{(*rivulet/attach.Child).Epoch}(t178) [if #22=False]
            refine wcd rfl rfl rfl (S1.callF rfl (epoch_spec ch2) (take1 at0 take0)) rfl ?_
            refine w0 rfl rfl rfl (S0.cmp rfl rfl rfl) rfl <| w0 rfl rfl rfl (S0.pickF rfl rfl) rfl <| w0 rfl rfl rfl (S0.move rfl) rfl <| ?_  -- guard t186 (wants False) at t187 := move t21 [if #31=False]
            refine wcsFh (t := 186) rfl ((by simp)) ?_
            refine w0 rfl rfl rfl (S0.move rfl) rfl <| w0 rfl rfl rfl (S0.move rfl) rfl <| w0 rfl rfl rfl (S0.nilCheck rfl) rfl <| w0 rfl rfl rfl (S0.fieldAddr rfl) rfl <| w0 rfl rfl rfl (S0.load rfl rfl) rfl <| w0 rfl rfl rfl (S0.cmp rfl rfl rfl) rfl <| w0 rfl rfl rfl (S0.pickF rfl rfl) rfl <| w0 rfl rfl rfl (S0.move rfl) rfl <| ?_  -- guard t194 (wants False) at t195 := move t22 [if #39=False]
            refine wcsFh (t := 194) rfl ((by simp)) ?_
            refine w0 rfl rfl rfl (S0.move rfl) rfl <| w0 rfl rfl rfl (S0.move rfl) rfl <| w0 rfl rfl rfl (S0.nilCheck rfl) rfl <| w0 rfl rfl rfl (S0.fieldAddr rfl) rfl <| w0 rfl rfl rfl (S0.load rfl rfl) rfl <| w0 rfl rfl rfl (S0.cmp rfl rfl rfl) rfl <| w0 rfl rfl rfl (S0.cmpB rfl rfl rfl) rfl <| w0 rfl rfl rfl (S0.pickF rfl rfl) rfl <| w0 rfl rfl rfl (S0.move rfl) rfl <| ?_  -- guard t203 (wants False) at t204 := move t11 [if #48=False]
            refine wcsFh (t := 203) rfl ((by rw [hst]; simp)) ?_
            refine w0 rfl rfl rfl (S0.move rfl) rfl <| w0 rfl rfl rfl (S0.fieldAddr rfl) rfl <| w0 rfl rfl rfl (S0.load rfl rfl) rfl <| w0 rfl rfl rfl (S0.move rfl) rfl <| w0 rfl rfl rfl (S0.fieldAddr rfl) rfl <| w0 rfl rfl rfl (S0.load rfl rfl) rfl <| ?_  -- op t207 := call F26{(*rivulet/attach.Hall).Epoch}(t204, t206) [if #48=False]
            refine wcd rfl rfl rfl (S1.callF rfl (hepoch_spec hB2.ih who) (take1 (atS at0) take0)) rfl ?_
            -- (nothing to walk: op t211 := call F27{(*rivulet/rivuletref17.Hall).Epoch}(t208, t210) [if #48=False])
            refine wcd rfl rfl rfl (S1.callF rfl (rhepoch_spec hB2.ix hR2 who) (take1 (atS (atS at0)) take0)) rfl ?_
            refine w0 rfl rfl rfl (S0.cmp rfl rfl rfl) rfl <| w0 rfl rfl rfl (S0.pickF rfl rfl) rfl <| w0 rfl rfl rfl (S0.move rfl) rfl <| ?_  -- guard t214 (wants False) at t215 := move t11 [if #59=False]
            refine wcsFh (t := 214) rfl ((by simp)) ?_
            refine w0 rfl rfl rfl (S0.move rfl) rfl <| w0 rfl rfl rfl (S0.move rfl) rfl <| ?_  -- op t216 := call F29{(*rivulet/attach.Hall).Ids}(t215) [if #59=False]
            refine wc rfl rfl rfl (S1.callF rfl (hids_spec hB2.ih hB2.okh.ok hR2) (take1 (atS at0) take0)) rfl ?_
            rintro v3 _ ⟨q3, hq3, rfl⟩
            refine wapp ?_
            -- (nothing to walk: op t218 := call F30{(*rivulet/rivuletref17.Hall).Ids}(t217) [if #59=False])
            refine wc rfl rfl rfl (S1.callF rfl (rhids_spec hB2.ix hR2) (take1 (atS (atS at0)) take0)) rfl ?_
            rintro v4 _ ⟨q4, hq4, rfl⟩
            refine wapp ?_
            -- (nothing to walk: op t219 := call F28{rivulet/rivuletref04.Ints}(t216, t218) [if #59=False])
            refine wcd rfl rfl rfl (S1.callF rfl (ints_spec hq3 hq4 (by simp [idsB]; omega)) (take1 (atS (atS at0)) (take1 at0 take0))) rfl ?_
            refine w0 rfl rfl rfl (S0.not rfl) rfl <| w0 rfl rfl rfl (S0.pickF rfl rfl) rfl <| wE <| ?_  -- cond
            refine WP.condFh rfl ((by simp)) ?_
            refine WP.skip <| WP.region <| v0 (S0.move rfl) rfl <| v0 (S0.ari rfl rfl rfl (wrap_i64 (by omega))) rfl <| v0 (S0.assign rfl) rfl <| vE <| ?_  -- roundend
            exact ⟨(i + 1, ch2, R2, hc2, xc2), (by first | exact ⟨by omega, hlen2, hB2⟩ | (dsimp only; exact ⟨by omega, hlen2, hB2⟩)), (show 80 - (i + 1) < 80 - i by omega), ⟨⟨rfl, rfl, rfl, rfl, rfl, rfl, trivial⟩, rfl, rfl⟩, ⟨_, (take1 (atS (atS (atS (atS (atS (atS at0)))))) (take1 (atS at0) (take1 (atS (atS (atS (atS at0)))) (take1 (atS (atS (atS at0))) (take1 (atS (atS (atS at0))) take0)))))⟩⟩
        · skip
          refine WP.exit <| ?_  -- cutend
          exact ⟨[], (by first | exact trivial | (dsimp only; exact trivial)), ⟨⟨rfl, trivial⟩, rfl, rfl⟩, ⟨_, (take1 (atS (atS (atS (atS at0)))) take0)⟩⟩
      · skip
        refine gF rfl rfl <| gF rfl rfl <| v0 (S0.pickF rfl rfl) rfl <| vE <| WP.condF rfl <| WP.exit <| ?_  -- cutend
        exact ⟨[], (by first | exact trivial | (dsimp only; exact trivial)), ⟨⟨rfl, trivial⟩, rfl, rfl⟩, ⟨_, (take1 (atS (atS (atS (atS at0)))) take0)⟩⟩
    · skip
      refine WP.seq <| WP.region <| v0 (S0.move rfl) rfl <| v0 (S0.nilP rfl rfl rfl rfl) rfl <| v0 (S0.move rfl) rfl <| ?_  -- guard t224 (wants True) at t225 := call F31{rivulet/rivuletlaw17.fixed}() [if #2=True]
      refine csTh (t := 224) rfl (rfl) ?_
      -- (nothing to walk: op t225 := call F31{rivulet/rivuletlaw17.fixed}() [if #2=True])
      refine gT rfl <| vc (S1.callF rfl (fixed_spec) take0) rfl ?_
      rintro _ _ ⟨rfl, rfl⟩
      refine app ?_
      refine v0 (S0.pickT rfl rfl) rfl <| v0 (S0.assign rfl) rfl <| vE <| WP.ret <| ?_  -- ret
      refine r1 rfl rfl ?_
      exact ⟨rfl, rfl⟩
  · skip
    refine vcd (S1.callF rfl (cnew_bad hv) take0) rfl ?_
    refine v0 (S0.move rfl) rfl <| v0 (S0.extract rfl rfl) rfl <| v0 (S0.extract rfl rfl) rfl <| v0 (S0.assign rfl) rfl <| v0 (S0.assign rfl) rfl <| vE <| WP.seq <| WP.region <| v0 (S0.move rfl) rfl <| v0 (S0.move rfl) rfl <| ?_  -- op t32 := call F9{rivulet/rivuletref17.New}(t30, t31)
    refine vcd (S1.callF rfl (rcnew_bad hv) take0) rfl ?_
    refine v0 (S0.move rfl) rfl <| v0 (S0.extract rfl rfl) rfl <| v0 (S0.extract rfl rfl) rfl <| v0 (S0.assign rfl) rfl <| v0 (S0.assign rfl) rfl <| vE <| WP.seq <| WP.region <| ?_  -- op t35 := call F10{rivulet/attach.Empty}()
    refine vc (S1.callF rfl (empty_spec) take0) rfl ?_
    rintro _ _ ⟨hb, hc0, rfl, rfl, hh0⟩
    refine app ?_
    refine v0 (S0.build rfl (qs := []) rfl) rfl <| vn (S1.box rfl rfl) rfl fun b37 => v0 (S0.assign rfl) rfl <| v0 (S0.assign rfl) rfl <| vE <| WP.seq <| WP.seq <| WP.region <| v0 (S0.move rfl) rfl <| v0 (S0.move rfl) rfl <| v0 (S0.cmp rfl rfl rfl) rfl <| v0 (S0.move rfl) rfl <| ?_  -- guard t41 (wants False) at t42 := move t7 [if #3=False]
    refine csFh (t := 41) rfl ((by simp)) ?_
    refine gT rfl <| v0 (S0.move rfl) rfl <| gT rfl <| v0 (S0.nilP rfl rfl rfl rfl) rfl <| gT rfl <| v0 (S0.move rfl) rfl <| gT rfl <| v0 (S0.nilP rfl rfl rfl rfl) rfl <| gT rfl <| v0 (S0.cmpB rfl rfl rfl) rfl <| v0 (S0.pickF rfl rfl) rfl <| vE <| ?_  -- cond
    refine WP.condFh rfl (rfl) ?_
    refine WP.skip <| WP.seq <| WP.seq <| WP.region <| v0 (S0.assign rfl) rfl <| vE <| WP.block <| ?_  -- Code.loop
    refine WP.loop (fun s : Nat => True) (fun s : Nat => [(7, .pointer none), (11, .pointer (some ⟨hb, 0, none⟩)), (13, .int .i64 0)]) (fun s : Nat => [whole W]) (fun s : Nat => 0) (0) (trivial) ⟨rfl, rfl, rfl, trivial⟩ ⟨_, (take1 (atS (atS at0)) take0)⟩ (fun s hinv => ?_) 
    refine WP.seq <| WP.seq <| WP.region <| v0 (S0.move rfl) rfl <| v0 (S0.nilP rfl rfl rfl rfl) rfl <| v0 (S0.move rfl) rfl <| ?_  -- guard t50 (wants True) at t51 := move t11 [if #2=True]
    refine csFh (t := 50) rfl (rfl) ?_
    refine gF rfl rfl <| gF rfl rfl <| v0 (S0.pickF rfl rfl) rfl <| v0 (S0.move rfl) rfl <| gF rfl rfl <| gF rfl rfl <| gF rfl rfl <| gF rfl rfl <| v0 (S0.pickF rfl rfl) rfl <| v0 (S0.move rfl) rfl <| gF rfl rfl <| gF rfl rfl <| v0 (S0.pickF rfl rfl) rfl <| vE <| WP.condF rfl <| WP.exit <| WP.seq <| WP.region <| v0 (S0.move rfl) rfl <| v0 (S0.nilP rfl rfl rfl rfl) rfl <| v0 (S0.move rfl) rfl <| ?_  -- guard t224 (wants True) at t225 := call F31{rivulet/rivuletlaw17.fixed}() [if #2=True]
    refine csTh (t := 224) rfl (rfl) ?_
    -- (nothing to walk: op t225 := call F31{rivulet/rivuletlaw17.fixed}() [if #2=True])
    refine gT rfl <| vc (S1.callF rfl (fixed_spec) take0) rfl ?_
    rintro _ _ ⟨rfl, rfl⟩
    refine app ?_
    refine v0 (S0.pickT rfl rfl) rfl <| v0 (S0.assign rfl) rfl <| vE <| WP.ret <| ?_  -- ret
    refine r1 rfl rfl ?_
    exact ⟨rfl, rfl⟩
end Go.Proofs.Ytjglpmaedphbnaa
