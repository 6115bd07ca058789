import Derived.Test.YtmnmikcpdhnbnaaB6
namespace Go.Proofs.Ytmnmikcpdhnbnaa
open Go

theorem rnew_ok {every limit : Int} (h : 1 ≤ every ∧ every ≤ limit ∧ limit ≤ 1000) : FN Try.prog 9 [.int .i64 every, .int .i64 limit] [] (fun v h => ∃ b c, v = .tuple ⟨[.pointer (some ⟨b, 0, none⟩), .int .i64 0]⟩ ∧ h = [c] ∧ IsR b every limit (-1) [] c) :=
  (rnew_spec every limit).mono fun _ _ hp => hp.elim (fun x => absurd h x.1) (fun x => x.2)
theorem rnew_bad {every limit : Int} (h : ¬ (1 ≤ every ∧ every ≤ limit ∧ limit ≤ 1000)) : FN Try.prog 9 [.int .i64 every, .int .i64 limit] [] (is (.tuple ⟨[.pointer none, .int .i64 1]⟩) []) :=
  (rnew_spec every limit).mono fun _ _ hp => hp.elim (fun x => x.2) (fun x => absurd x.1 h)

/-- both stand alike -/
structure Both (b r : Nat) (every limit last : Int) (R : BM) (cb cr : List Blk) : Prop where
  ok : OkB R
  lst : -1 ≤ last ∧ last ≤ 1099511627776
  hb : IsB b every limit last R cb
  hr : IsR r every limit last R cr

theorem dueB_time {every last now : Int} (h : dueB every last now = true) : 0 ≤ now ∧ now ≤ 1099511627776 := by
  simp only [dueB, Bool.and_eq_true] at h
  exact isTime_iff.1 h.1

theorem beatDoes_walk (W : World) (every limit : Int) (g : Value) (hg : ArgI W 3 g) : FN Try.prog 3 [.int .i64 every, .int .i64 limit, g] [whole W] (fun v h => v = .bool true ∧ h = [whole W]) := by
  obtain ⟨ga, glen, gcap, rfl, -, hgs⟩ := hg
  refine FN.intro 156 [(0, .int .i64 every), (1, .int .i64 limit), (2, .slice ga glen gcap)] Try.func3 rfl (enters Try.func3 (by kernel_rfl) rfl) Try.ntmps3 rfl rfl ?_
  refine WP.seq <| WP.region <| v0 (S0.assign rfl) rfl <| vE <| WP.seq <| WP.region <| v0 (S0.move rfl) rfl <| v0 (S0.move rfl) rfl <| ?_  -- op t20 := call F8{rivulet/beat.New}(t18, t19)
  skip
  by_cases hv : 1 ≤ every ∧ every ≤ limit ∧ limit ≤ 1000
  · skip
    refine vc (S1.callF rfl (new_ok hv) take0) rfl ?_
    rintro _ _ ⟨b, cb0, rfl, rfl, hb0⟩
    refine app ?_
    refine v0 (S0.move rfl) rfl <| v0 (S0.extract rfl rfl) rfl <| v0 (S0.extract rfl rfl) rfl <| v0 (S0.assign rfl) rfl <| v0 (S0.assign rfl) rfl <| vE <| WP.seq <| WP.region <| v0 (S0.move rfl) rfl <| v0 (S0.move rfl) rfl <| ?_  -- op t26 := call F9{rivulet/rivuletref15.New}(t24, t25)
    refine vc (S1.callF rfl (rnew_ok hv) take0) rfl ?_
    rintro _ _ ⟨r, cr0, rfl, rfl, hr0⟩
    refine app ?_
    refine v0 (S0.move rfl) rfl <| v0 (S0.extract rfl rfl) rfl <| v0 (S0.extract rfl rfl) rfl <| v0 (S0.assign rfl) rfl <| v0 (S0.assign rfl) rfl <| vE <| WP.seq <| WP.seq <| WP.region <| v0 (S0.move rfl) rfl <| v0 (S0.move rfl) rfl <| v0 (S0.cmp rfl rfl rfl) rfl <| v0 (S0.move rfl) rfl <| ?_  -- guard t32 (wants False) at t33 := move t7 [if #3=False]
    refine csFh (t := 32) rfl ((by simp)) ?_
    refine gT rfl <| v0 (S0.move rfl) rfl <| gT rfl <| v0 (S0.nilP rfl rfl rfl rfl) rfl <| gT rfl <| v0 (S0.move rfl) rfl <| gT rfl <| v0 (S0.nilP rfl rfl rfl rfl) rfl <| gT rfl <| v0 (S0.cmpB rfl rfl rfl) rfl <| v0 (S0.pickF rfl rfl) rfl <| vE <| ?_  -- cond
    refine WP.condFh rfl (rfl) ?_
    refine WP.skip <| ?_  -- cut
    refine WP.cutS (fun s : List Blk => True) (fun s : List Blk => [(0, .int .i64 every)]) (fun s : List Blk => [whole W]) ?_ (fun s hinv => ?_)
    · refine WP.seq <| WP.region <| v0 (S0.assign rfl) rfl <| vE <| WP.block <| ?_  -- Code.loop
      refine WP.loop (fun s : Nat × Int × BM × List Blk × List Blk => s.1 ≤ 80 ∧ s.2.2.1.length ≤ s.1 ∧ Both b r every limit s.2.1 s.2.2.1 s.2.2.2.1 s.2.2.2.2) (fun s : Nat × Int × BM × List Blk × List Blk => [(0, .int .i64 every), (2, .slice ga glen gcap), (7, .pointer (some ⟨b, 0, none⟩)), (9, .pointer (some ⟨r, 0, none⟩)), (11, .int .i64 (s.1 : Int))]) (fun s : Nat × Int × BM × List Blk × List Blk => [s.2.2.2.1, s.2.2.2.2, whole W]) (fun s : Nat × Int × BM × List Blk × List Blk => 80 - s.1) ((0, -1, [], cb0, cr0)) (⟨Nat.zero_le _, Nat.le_refl _, .nil, by simp, hb0, hr0⟩) ⟨rfl, rfl, rfl, rfl, rfl, trivial⟩ ⟨_, (take1 (atS at0) (take1 at0 (take1 at0 take0)))⟩ (fun s hinv => ?_) 
      obtain ⟨i, last, R, cb, cr⟩ := s
      obtain ⟨hi, hlen, hB⟩ := hinv
      dsimp only at hi hlen hB ⊢
      refine WP.seq <| WP.seq <| WP.region <| v0 (S0.move rfl) rfl <| v0 (S0.nilP rfl rfl rfl rfl) rfl <| v0 (S0.move rfl) rfl <| ?_  -- guard t41 (wants True) at t42 := move t11 [if #2=True]
      refine csTh (t := 41) rfl (rfl) ?_
      refine gT rfl <| v0 (S0.move rfl) rfl <| gT rfl <| v0 (S0.move rfl) rfl <| gT rfl <| v0 (S0.lenSl rfl) rfl <| gT rfl <| v0 (S0.cmp rfl rfl rfl) rfl <| v0 (S0.pickT rfl rfl) rfl <| v0 (S0.move rfl) rfl <| ?_  -- guard t47 (wants True) at t48 := move t11 [if #8=True]
      first | refine csP (t := 47) rfl (fun h1 => ?_) (fun h1 => ?_) | refine csN (t := 47) rfl (fun h1 => ?_) (fun h1 => ?_) | refine cs (t := 47) rfl (fun h1 => ?_) (fun h1 => ?_)
      · skip
        refine gT rfl <| v0 (S0.move rfl) rfl <| gT rfl <| v0 (S0.cmp rfl rfl rfl) rfl <| v0 (S0.pickT rfl rfl) rfl <| vE <| ?_  -- cond
        first | refine WP.condP rfl (fun h2 => ?_) (fun h2 => ?_) | refine WP.condN rfl (fun h2 => ?_) (fun h2 => ?_) | refine WP.cond rfl (fun h2 => ?_) (fun h2 => ?_)
        · skip
          rcases hgs with h0 | ⟨gb, go, GL, GU, gfz, rfl, hgb, hcell⟩
          · omega
          have hlt : i < glen := by omega
          obtain ⟨kd, hkd, -⟩ := hcell i 0 hlt (by decide)
          obtain ⟨id, hid, -⟩ := hcell i 1 hlt (by decide)
          obtain ⟨now, hnow, -⟩ := hcell i 2 hlt (by decide)
          have : HasC (whole W) gb (.cells ⟨GL⟩ GU gfz) := ⟨whole_mem.2 hgb⟩
          refine WP.skip <| WP.seq <| WP.block <| WP.seq <| WP.region <| v0 (S0.move rfl) rfl <| v0 (S0.move rfl) rfl <| ?_  -- op t55 := indexAddr 22 t53 t54
          refine v0 (S0.indexO rfl rfl hlt) rfl <| ?_
          refine v0 (S0.loadA rfl (take3_of hkd hid hnow) rfl) rfl <| ?_
          refine vn (S1.alloc rfl) rfl fun b12 => vs (S1.storeA rfl rfl rfl) <| vE <| ?_  -- cut
          refine WP.cutS (fun s : Int × BM × List Blk × List Blk => s.2.1.length ≤ i + 1 ∧ Both b r every limit s.1 s.2.1 s.2.2.1 s.2.2.2) (fun s : Int × BM × List Blk × List Blk => [(0, .int .i64 every), (2, .slice (some ⟨gb, go, none⟩) glen gcap), (7, .pointer (some ⟨b, 0, none⟩)), (9, .pointer (some ⟨r, 0, none⟩)), (11, .int .i64 (i : Int)), (12, .pointer (some ⟨b12, 0, none⟩))]) (fun s : Int × BM × List Blk × List Blk => [[(b12, cel [.int .i64 kd, .int .i64 id, .int .i64 now] 31)], s.2.2.1, s.2.2.2, whole W]) ?_ (fun s hinv => ?_)
          · refine WP.seq <| WP.region <| v0 (S0.fieldAddr rfl) rfl <| v0 (S0.load rfl rfl) rfl <| vE <| WP.block <| WP.seq <| WP.region <| v0 (S0.cmp rfl rfl rfl) rfl <| v0 (S0.assign rfl) rfl <| vE <| ?_  -- cond
            first | refine WP.condP rfl (fun hk0 => ?_) (fun hk0 => ?_) | refine WP.condN rfl (fun hk0 => ?_) (fun hk0 => ?_) | refine WP.cond rfl (fun hk0 => ?_) (fun hk0 => ?_)
            · skip
              refine WP.seq <| WP.drawP [0, 1, 2, 3, 4, 6, 7, 8, 9, 10, 5, 11, 12] mixed (by kernel_rfl) (by kernel_rfl) (by kernel_rfl) (take1 at0 take0) <| w0 rfl rfl rfl (S0.move rfl) rfl <| w0 rfl rfl rfl (S0.fieldAddr rfl) rfl <| w0 rfl rfl rfl (S0.load rfl rfl) rfl <| w0 rfl rfl rfl (S0.fieldAddr rfl) rfl <| w0 rfl rfl rfl (S0.load rfl rfl) rfl <| w0 rfl rfl rfl (S0.move rfl) rfl <| w0 rfl rfl rfl (S0.fieldAddr rfl) rfl <| w0 rfl rfl rfl (S0.load rfl rfl) rfl <| w0 rfl rfl rfl (S0.fieldAddr rfl) rfl <| w0 rfl rfl rfl (S0.load rfl rfl) rfl <| ?_  -- op t75 := call F10{(*rivulet/beat.Beats).Watch}(t70, t72, t74)
              refine wc rfl rfl rfl (S1.callF rfl (watch_spec hB.hb id now) (take1 at0 take0)) rfl ?_
              rintro _ _ ⟨rfl, cb2, rfl, hb2⟩
              refine wapp ?_
              -- (nothing to walk: op t81 := call F11{(*rivulet/rivuletref15.Beats).Watch}(t76, t78, t80))
              refine wc rfl rfl rfl (S1.callF rfl (rwatch_spec hB.hr (by omega) id now) (take1 (atS at0) take0)) rfl ?_
              rintro _ _ ⟨rfl, cr2, rfl, hr2⟩
              refine wapp ?_
              refine w0 rfl rfl rfl (S0.cmp rfl rfl rfl) rfl <| wE <| ?_  -- cond
              refine WP.condFh rfl ((by simp)) ?_
              refine WP.skip <| ?_  -- cutend
              exact ⟨(last, watchR R id now, cb2, cr2), (by first | exact ⟨by have := watch_len R id now; omega, hB.ok.watch id now, hB.lst, hb2, hr2⟩ | (dsimp only; exact ⟨by have := watch_len R id now; omega, hB.ok.watch id now, hB.lst, hb2, hr2⟩)), ⟨⟨rfl, rfl, rfl, rfl, rfl, rfl, trivial⟩, rfl, rfl⟩, ⟨_, (take1 at0 (take1 (atS at0) (take1 at0 (take1 at0 take0))))⟩⟩
            · skip
              refine WP.seq <| WP.region <| v0 (S0.cmp rfl rfl rfl) rfl <| v0 (S0.assign rfl) rfl <| vE <| ?_  -- cond
              first | refine WP.condP rfl (fun hk1 => ?_) (fun hk1 => ?_) | refine WP.condN rfl (fun hk1 => ?_) (fun hk1 => ?_) | refine WP.cond rfl (fun hk1 => ?_) (fun hk1 => ?_)
              · skip
                refine WP.seq <| WP.drawP [0, 1, 2, 3, 4, 6, 7, 8, 9, 10, 5, 11, 12] mixed (by kernel_rfl) (by kernel_rfl) (by kernel_rfl) (take1 at0 take0) <| w0 rfl rfl rfl (S0.move rfl) rfl <| w0 rfl rfl rfl (S0.fieldAddr rfl) rfl <| w0 rfl rfl rfl (S0.load rfl rfl) rfl <| w0 rfl rfl rfl (S0.fieldAddr rfl) rfl <| w0 rfl rfl rfl (S0.load rfl rfl) rfl <| w0 rfl rfl rfl (S0.move rfl) rfl <| w0 rfl rfl rfl (S0.fieldAddr rfl) rfl <| w0 rfl rfl rfl (S0.load rfl rfl) rfl <| w0 rfl rfl rfl (S0.fieldAddr rfl) rfl <| w0 rfl rfl rfl (S0.load rfl rfl) rfl <| ?_  -- op t90 := call F12{(*rivulet/beat.Beats).Heard}(t85, t87, t89)
                refine wc rfl rfl rfl (S1.callF rfl (heard_spec hB.hb id now) (take1 at0 take0)) rfl ?_
                rintro _ _ ⟨rfl, cb2, rfl, hb2⟩
                refine wapp ?_
                -- (nothing to walk: op t96 := call F13{(*rivulet/rivuletref15.Beats).Heard}(t91, t93, t95))
                refine wc rfl rfl rfl (S1.callF rfl (rheard_spec hB.hr (by omega) id now) (take1 (atS at0) take0)) rfl ?_
                rintro _ _ ⟨rfl, cr2, rfl, hr2⟩
                refine wapp ?_
                refine w0 rfl rfl rfl (S0.cmp rfl rfl rfl) rfl <| wE <| ?_  -- cond
                refine WP.condFh rfl ((by simp)) ?_
                refine WP.skip <| ?_  -- cutend
                exact ⟨(last, heardR R id now, cb2, cr2), (by first | exact ⟨by have := heard_len R id now; omega, hB.ok.heard id now, hB.lst, hb2, hr2⟩ | (dsimp only; exact ⟨by have := heard_len R id now; omega, hB.ok.heard id now, hB.lst, hb2, hr2⟩)), ⟨⟨rfl, rfl, rfl, rfl, rfl, rfl, trivial⟩, rfl, rfl⟩, ⟨_, (take1 at0 (take1 (atS at0) (take1 at0 (take1 at0 take0))))⟩⟩
              · skip
                refine WP.seq <| WP.region <| v0 (S0.cmp rfl rfl rfl) rfl <| v0 (S0.assign rfl) rfl <| vE <| ?_  -- cond
                first | refine WP.condP rfl (fun hk2 => ?_) (fun hk2 => ?_) | refine WP.condN rfl (fun hk2 => ?_) (fun hk2 => ?_) | refine WP.cond rfl (fun hk2 => ?_) (fun hk2 => ?_)
                · skip
                  refine WP.seq <| WP.drawP [0, 1, 2, 4, 5, 6, 3, 7, 8] mixed (by kernel_rfl) (by kernel_rfl) (by kernel_rfl) (take1 at0 take0) <| w0 rfl rfl rfl (S0.move rfl) rfl <| w0 rfl rfl rfl (S0.fieldAddr rfl) rfl <| w0 rfl rfl rfl (S0.load rfl rfl) rfl <| w0 rfl rfl rfl (S0.move rfl) rfl <| w0 rfl rfl rfl (S0.fieldAddr rfl) rfl <| w0 rfl rfl rfl (S0.load rfl rfl) rfl <| ?_  -- op t103 := call F14{(*rivulet/beat.Beats).Drop}(t100, t102)
                  refine wc rfl rfl rfl (S1.callF rfl (drop_spec hB.hb hB.ok id) (take1 at0 take0)) rfl ?_
                  rintro _ _ ⟨rfl, cb2, rfl, hb2⟩
                  refine wapp ?_
                  -- (nothing to walk: op t107 := call F15{(*rivulet/rivuletref15.Beats).Drop}(t104, t106))
                  refine wc rfl rfl rfl (S1.callF rfl (rdrop_spec hB.hr (by omega) id) (take1 (atS at0) take0)) rfl ?_
                  rintro _ _ ⟨rfl, cr2, rfl, hr2⟩
                  refine wapp ?_
                  refine w0 rfl rfl rfl (S0.cmpB rfl rfl rfl) rfl <| wE <| ?_  -- cond
                  refine WP.condFh rfl ((by simp)) ?_
                  refine WP.skip <| ?_  -- cutend
                  exact ⟨(last, delB R id, cb2, cr2), (by first | exact ⟨by have := del_len R id; omega, hB.ok.del id, hB.lst, hb2, hr2⟩ | (dsimp only; exact ⟨by have := del_len R id; omega, hB.ok.del id, hB.lst, hb2, hr2⟩)), ⟨⟨rfl, rfl, rfl, rfl, rfl, rfl, trivial⟩, rfl, rfl⟩, ⟨_, (take1 at0 (take1 (atS at0) (take1 at0 (take1 at0 take0))))⟩⟩
                · skip
                  refine WP.seq <| WP.drawP [0, 1, 2, 4, 5, 6, 3, 7, 8] mixed (by kernel_rfl) (by kernel_rfl) (by kernel_rfl) (take1 at0 take0) <| w0 rfl rfl rfl (S0.move rfl) rfl <| w0 rfl rfl rfl (S0.fieldAddr rfl) rfl <| w0 rfl rfl rfl (S0.load rfl rfl) rfl <| w0 rfl rfl rfl (S0.move rfl) rfl <| w0 rfl rfl rfl (S0.fieldAddr rfl) rfl <| w0 rfl rfl rfl (S0.load rfl rfl) rfl <| ?_  -- op t62 := call F16{(*rivulet/beat.Beats).Due}(t59, t61)
                  refine wc rfl rfl rfl (S1.callF rfl (due_spec hB.hb hB.lst now) (take1 at0 take0)) rfl ?_
                  rintro _ _ ⟨rfl, cb2, rfl, hb2⟩
                  refine wapp ?_
                  -- (nothing to walk: op t66 := call F17{(*rivulet/rivuletref15.Beats).Due}(t63, t65))
                  refine wc rfl rfl rfl (S1.callF rfl (rdue_spec hB.hr hB.lst (by omega) now) (take1 (atS at0) take0)) rfl ?_
                  rintro _ _ ⟨rfl, cr2, rfl, hr2⟩
                  refine wapp ?_
                  refine w0 rfl rfl rfl (S0.cmpB rfl rfl rfl) rfl <| wE <| ?_  -- cond
                  refine WP.condFh rfl ((by simp)) ?_
                  refine WP.skip <| ?_  -- cutend
                  have hl2 : -1 ≤ (if dueB every last now then now else last) ∧ (if dueB every last now then now else last) ≤ 1099511627776 := by
                    have := hB.lst
                    split
                    · rename_i h; have := dueB_time h; omega
                    · exact this
                  exact ⟨((if dueB every last now then now else last), R, cb2, cr2), (by first | exact ⟨by omega, hB.ok, hl2, hb2, hr2⟩ | (dsimp only; exact ⟨by omega, hB.ok, hl2, hb2, hr2⟩)), ⟨⟨rfl, rfl, rfl, rfl, rfl, rfl, trivial⟩, rfl, rfl⟩, ⟨_, (take1 at0 (take1 (atS at0) (take1 at0 (take1 at0 take0))))⟩⟩
          · skip
            obtain ⟨last2, R2, cb2, cr2⟩ := s
            obtain ⟨hlen2, hB2⟩ := hinv
            dsimp only at hlen2 hB2 ⊢
            have hlim : 0 ≤ limit ∧ limit ≤ 1000 := by omega
            have hR2 : R2.length ≤ 1000000 := by omega
            refine WP.seq <| WP.region <| v0 (S0.move rfl) rfl <| v0 (S0.fieldAddr rfl) rfl <| v0 (S0.load rfl rfl) rfl <| v0 (S0.fieldAddr rfl) rfl <| v0 (S0.load rfl rfl) rfl <| ?_  -- op t115 := call F18{(*rivulet/beat.Beats).Left}(t110, t112, t114)
            refine vcd (S1.callF rfl (left_spec hB2.hb hB2.ok hlim id now) (take1 (atS at0) take0)) rfl ?_
            refine v0 (S0.move rfl) rfl <| v0 (S0.extract rfl rfl) rfl <| v0 (S0.extract rfl rfl) rfl <| v0 (S0.assign rfl) rfl <| v0 (S0.assign rfl) rfl <| vE <| WP.seq <| WP.region <| v0 (S0.move rfl) rfl <| v0 (S0.fieldAddr rfl) rfl <| v0 (S0.load rfl rfl) rfl <| v0 (S0.fieldAddr rfl) rfl <| v0 (S0.load rfl rfl) rfl <| ?_  -- op t124 := call F19{(*rivulet/rivuletref15.Beats).Left}(t119, t121, t123)
            refine vcd (S1.callF rfl (rleft_spec hB2.hr hB2.ok hR2 hlim id now) (take1 (atS (atS at0)) take0)) rfl ?_
            refine v0 (S0.move rfl) rfl <| v0 (S0.extract rfl rfl) rfl <| v0 (S0.extract rfl rfl) rfl <| v0 (S0.assign rfl) rfl <| v0 (S0.assign rfl) rfl <| vE <| WP.seq <| WP.drawP [0, 1, 2, 3, 4, 5, 6, 7, 8, 9, 10, 11, 13, 14, 15, 12, 16, 17, 18, 19, 20, 21, 23, 22, 24, 25, 26, 27] mixed (by kernel_rfl) (by kernel_rfl) (by kernel_rfl) (take1 (atS (atS at0)) take0) <| w0 rfl rfl rfl (S0.move rfl) rfl <| w0 rfl rfl rfl (S0.move rfl) rfl <| w0 rfl rfl rfl (S0.cmp rfl rfl rfl) rfl <| w0 rfl rfl rfl (S0.move rfl) rfl <| ?_  -- guard t130 (wants False) at t131 := move t14 [if #3=False]
            refine wcsFh (t := 130) rfl ((by simp)) ?_
            refine w0 rfl rfl rfl (S0.move rfl) rfl <| w0 rfl rfl rfl (S0.move rfl) rfl <| w0 rfl rfl rfl (S0.cmpB rfl rfl rfl) rfl <| w0 rfl rfl rfl (S0.pickF rfl rfl) rfl <| w0 rfl rfl rfl (S0.move rfl) rfl <| ?_  -- guard t135 (wants False) at t136 := move t7 [if #8=False]
            refine wcsFh (t := 135) rfl ((by simp)) ?_
            refine w0 rfl rfl rfl (S0.move rfl) rfl <| w0 rfl rfl rfl (S0.fieldAddr rfl) rfl <| w0 rfl rfl rfl (S0.load rfl rfl) rfl <| w0 rfl rfl rfl (S0.move rfl) rfl <| w0 rfl rfl rfl (S0.fieldAddr rfl) rfl <| w0 rfl rfl rfl (S0.load rfl rfl) rfl <| ?_  -- op t139 := call F21{(*rivulet/beat.Beats).Late}(t136, t138) [if #8=False]
            refine wc rfl rfl rfl (S1.callF rfl (late_spec hB2.hb hB2.ok hR2 now) (take1 (atS at0) take0)) rfl ?_
            rintro v1 _ ⟨q1, hq1, rfl⟩
            refine wapp ?_
            -- (nothing to walk: op t143 := call F22{(*rivulet/rivuletref15.Beats).Late}(t140, t142) [if #8=False])
            refine wc rfl rfl rfl (S1.callF rfl (rlate_spec hB2.hr hB2.ok hR2 hlim now) (take1 (atS (atS at0)) take0)) rfl ?_
            rintro v2 _ ⟨q2, hq2, rfl⟩
            refine wapp ?_
            -- (nothing to walk: op t144 := call F20{rivulet/rivuletref04.Ints}(t139, t143) [if #8=False])
            have hlt1 : (lateB R2 limit now).length ≤ 1000000 := by
              unfold lateB; split
              · rw [List.length_map]; exact Nat.le_trans (List.length_filter_le _ _) hR2
              · simp
            refine wcd rfl rfl rfl (S1.callF rfl (ints_spec hq1 hq2 (by omega)) (take1 (atS (atS at0)) (take1 at0 take0))) rfl ?_
            refine w0 rfl rfl rfl (S0.not rfl) rfl <| w0 rfl rfl rfl (S0.pickF rfl rfl) rfl <| w0 rfl rfl rfl (S0.move rfl) rfl <| ?_  -- guard t147 (wants False) at t148 := move t7 [if #20=False]
            refine wcsFh (t := 147) rfl ((by simp)) ?_
            refine w0 rfl rfl rfl (S0.move rfl) rfl <| w0 rfl rfl rfl (S0.move rfl) rfl <| ?_  -- op t149 := call F23{(*rivulet/beat.Beats).Ids}(t148) [if #20=False]
            refine wc rfl rfl rfl (S1.callF rfl (ids_spec hB2.hb hB2.ok hR2) (take1 (atS (atS (atS at0))) take0)) rfl ?_
            rintro v3 _ ⟨q3, hq3, rfl⟩
            refine wapp ?_
            -- (nothing to walk: op t151 := call F24{(*rivulet/rivuletref15.Beats).Ids}(t150) [if #20=False])
            refine wc rfl rfl rfl (S1.callF rfl (rids_spec hB2.hr hR2) (take1 (atS (atS (atS (atS at0)))) take0)) rfl ?_
            rintro v4 _ ⟨q4, hq4, rfl⟩
            refine wapp ?_
            -- (nothing to walk: op t152 := call F20{rivulet/rivuletref04.Ints}(t149, t151) [if #20=False])
            refine wcd rfl rfl rfl (S1.callF rfl (ints_spec hq3 hq4 (by simp [idsB]; omega)) (take1 (atS (atS at0)) (take1 at0 take0))) rfl ?_
            refine w0 rfl rfl rfl (S0.not rfl) rfl <| w0 rfl rfl rfl (S0.pickF rfl rfl) rfl <| wE <| ?_  -- cond
            refine WP.condFh rfl ((by simp)) ?_
            refine WP.skip <| WP.region <| v0 (S0.move rfl) rfl <| v0 (S0.ari rfl rfl rfl (wrap_i64 (by omega))) rfl <| v0 (S0.assign rfl) rfl <| vE <| ?_  -- roundend
            exact ⟨(i + 1, last2, R2, cb2, cr2), (by first | exact ⟨by omega, hlen2, hB2⟩ | (dsimp only; exact ⟨by omega, hlen2, hB2⟩)), (show 80 - (i + 1) < 80 - i by omega), ⟨⟨rfl, rfl, rfl, rfl, rfl, trivial⟩, rfl, rfl⟩, ⟨_, (take1 (atS (atS (atS (atS at0)))) (take1 (atS (atS (atS at0))) (take1 (atS (atS (atS (atS (atS at0))))) take0)))⟩⟩
        · skip
          refine WP.exit <| ?_  -- cutend
          exact ⟨[], (by first | exact trivial | (dsimp only; exact trivial)), ⟨⟨rfl, trivial⟩, rfl, rfl⟩, ⟨_, (take1 (atS (atS at0)) take0)⟩⟩
      · skip
        refine gF rfl rfl <| gF rfl rfl <| v0 (S0.pickF rfl rfl) rfl <| vE <| WP.condF rfl <| WP.exit <| ?_  -- cutend
        exact ⟨[], (by first | exact trivial | (dsimp only; exact trivial)), ⟨⟨rfl, trivial⟩, rfl, rfl⟩, ⟨_, (take1 (atS (atS at0)) take0)⟩⟩
    · skip
      refine WP.seq <| WP.region <| ?_  -- op t155 := call F25{rivulet/rivuletlaw15.fixed}()
      refine vc (S1.callF rfl (fixed_spec) take0) rfl ?_
      rintro _ _ ⟨rfl, rfl⟩
      refine app ?_
      refine v0 (S0.assign rfl) rfl <| vE <| WP.ret <| ?_  -- ret
      refine r1 rfl rfl ?_
      exact ⟨rfl, rfl⟩
  · skip
    refine vcd (S1.callF rfl (new_bad hv) take0) rfl ?_
    refine v0 (S0.move rfl) rfl <| v0 (S0.extract rfl rfl) rfl <| v0 (S0.extract rfl rfl) rfl <| v0 (S0.assign rfl) rfl <| v0 (S0.assign rfl) rfl <| vE <| WP.seq <| WP.region <| v0 (S0.move rfl) rfl <| v0 (S0.move rfl) rfl <| ?_  -- op t26 := call F9{rivulet/rivuletref15.New}(t24, t25)
    refine vcd (S1.callF rfl (rnew_bad hv) take0) rfl ?_
    refine v0 (S0.move rfl) rfl <| v0 (S0.extract rfl rfl) rfl <| v0 (S0.extract rfl rfl) rfl <| v0 (S0.assign rfl) rfl <| v0 (S0.assign rfl) rfl <| vE <| WP.seq <| WP.seq <| WP.region <| v0 (S0.move rfl) rfl <| v0 (S0.move rfl) rfl <| v0 (S0.cmp rfl rfl rfl) rfl <| v0 (S0.move rfl) rfl <| ?_  -- guard t32 (wants False) at t33 := move t7 [if #3=False]
    refine csFh (t := 32) rfl ((by simp)) ?_
    refine gT rfl <| v0 (S0.move rfl) rfl <| gT rfl <| v0 (S0.nilP rfl rfl rfl rfl) rfl <| gT rfl <| v0 (S0.move rfl) rfl <| gT rfl <| v0 (S0.nilP rfl rfl rfl rfl) rfl <| gT rfl <| v0 (S0.cmpB rfl rfl rfl) rfl <| v0 (S0.pickF rfl rfl) rfl <| vE <| ?_  -- cond
    refine WP.condFh rfl (rfl) ?_
    refine WP.skip <| WP.seq <| WP.seq <| WP.region <| v0 (S0.assign rfl) rfl <| vE <| WP.block <| ?_  -- Code.loop
    refine WP.loop (fun s : Nat => True) (fun s : Nat => [(7, .pointer none), (11, .int .i64 0)]) (fun s : Nat => [whole W]) (fun s : Nat => 0) (0) (trivial) ⟨rfl, rfl, trivial⟩ ⟨_, (take1 at0 take0)⟩ (fun s hinv => ?_) 
    refine WP.seq <| WP.seq <| WP.region <| v0 (S0.move rfl) rfl <| v0 (S0.nilP rfl rfl rfl rfl) rfl <| v0 (S0.move rfl) rfl <| ?_  -- guard t41 (wants True) at t42 := move t11 [if #2=True]
    refine csFh (t := 41) rfl (rfl) ?_
    refine gF rfl rfl <| gF rfl rfl <| gF rfl rfl <| gF rfl rfl <| v0 (S0.pickF rfl rfl) rfl <| v0 (S0.move rfl) rfl <| gF rfl rfl <| gF rfl rfl <| v0 (S0.pickF rfl rfl) rfl <| vE <| WP.condF rfl <| WP.exit <| WP.seq <| WP.region <| ?_  -- op t155 := call F25{rivulet/rivuletlaw15.fixed}()
    refine vc (S1.callF rfl (fixed_spec) take0) rfl ?_
    rintro _ _ ⟨rfl, rfl⟩
    refine app ?_
    refine v0 (S0.assign rfl) rfl <| vE <| WP.ret <| ?_  -- ret
    refine r1 rfl rfl ?_
    exact ⟨rfl, rfl⟩
end Go.Proofs.Ytmnmikcpdhnbnaa
