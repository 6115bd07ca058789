import Derived.Test.YtmnmikcpdhnbnaaB7
namespace Go.Proofs.Ytmnmikcpdhnbnaa
open Go

theorem watch_keeps {R : BM} {k k' t now : Int} (h : gB R k' = some t) : gB (watchR R k now) k' = some t := by
  unfold watchR
  split
  · rename_i h0
    have hn : gB R k = none := by
      unfold watchE at h0
      split at h0
      · split at h0
        · cases h0
        · rename_i h2; simpa using h2
      · cases h0
    rw [gB_ins hn]
    have : k' ≠ k := fun e => by rw [e, hn] at h; cases h
    rw [if_neg this]; exact h
  · exact h
theorem heard_other {R : BM} {k k' now : Int} (h : k' ≠ k) : gB (heardR R k now) k' = gB R k' := by
  unfold heardR
  split
  · rename_i h0
    cases hg : gB R k with
    | none => simp only [heardE, hg] at h0; split at h0 <;> omega
    | some u => rw [gB_set hg, if_neg h]
  · rfl
theorem heard_same {R : BM} {k t now : Int} (h : gB R k = some t) : gB (heardR R k now) k = some (if heardE [(k, t)] k now = 0 then now else t) := by
  have e : heardE R k now = heardE [(k, t)] k now := by simp [heardE, h, gB]
  unfold heardR
  rw [e]
  split
  · rw [gB_set h, if_pos rfl]
  · exact h
theorem heard_one {k t now : Int} : heardR [(k, t)] k now = [(k, if heardE [(k, t)] k now = 0 then now else t)] := by
  unfold heardR
  split <;> simp [setB]

theorem beatAlone_walk (W : World) (g : Value) (hg : ArgI W 3 g) : FN Try.prog 7 [g] [whole W] (fun v h => v = .bool true ∧ h = [whole W]) := by
  obtain ⟨ga, glen, gcap, rfl, -, hgs⟩ := hg
  refine FN.intro 118 [(0, .slice ga glen gcap)] Try.func7 rfl (enters Try.func7 (by kernel_rfl) rfl) Try.ntmps7 rfl rfl ?_
  refine WP.seq <| WP.region <| v0 (S0.assign rfl) rfl <| vE <| WP.seq <| WP.region <| ?_  -- op t14 := call F8{rivulet/beat.New}(2:i64, 7:i64)
  refine vc (S1.callF rfl (new_ok (every := 2) (limit := 7) (by decide)) take0) rfl ?_
  rintro _ _ ⟨a, ca0, rfl, rfl, ha0⟩
  refine app ?_
  refine v0 (S0.move rfl) rfl <| v0 (S0.extract rfl rfl) rfl <| v0 (S0.extract rfl rfl) rfl <| v0 (S0.assign rfl) rfl <| v0 (S0.assign rfl) rfl <| vE <| WP.seq <| WP.region <| ?_  -- op t18 := call F8{rivulet/beat.New}(2:i64, 7:i64)
  refine vc (S1.callF rfl (new_ok (every := 2) (limit := 7) (by decide)) take0) rfl ?_
  rintro _ _ ⟨b, cb0, rfl, rfl, hb0⟩
  refine app ?_
  refine v0 (S0.move rfl) rfl <| v0 (S0.extract rfl rfl) rfl <| v0 (S0.extract rfl rfl) rfl <| v0 (S0.assign rfl) rfl <| v0 (S0.assign rfl) rfl <| vE <| WP.seq <| WP.seq <| WP.region <| v0 (S0.move rfl) rfl <| v0 (S0.nilP rfl rfl rfl rfl) rfl <| v0 (S0.move rfl) rfl <| ?_  -- guard t23 (wants False) at t24 := move t5 [if #2=False]
  refine csFh (t := 23) rfl (rfl) ?_
  refine gT rfl <| v0 (S0.move rfl) rfl <| gT rfl <| v0 (S0.nilP rfl rfl rfl rfl) rfl <| v0 (S0.pickF rfl rfl) rfl <| v0 (S0.move rfl) rfl <| ?_  -- guard t27 (wants False) at t28 := move t4 [if #6=False]
  refine csFh (t := 27) rfl (rfl) ?_
  refine gT rfl <| v0 (S0.move rfl) rfl <| gT rfl <| v0 (S0.cmp rfl rfl rfl) rfl <| v0 (S0.pickF rfl rfl) rfl <| v0 (S0.move rfl) rfl <| ?_  -- guard t31 (wants False) at t32 := move t6 [if #10=False]
  refine csFh (t := 31) rfl (rfl) ?_
  refine gT rfl <| v0 (S0.move rfl) rfl <| gT rfl <| v0 (S0.cmp rfl rfl rfl) rfl <| v0 (S0.pickF rfl rfl) rfl <| v0 (S0.move rfl) rfl <| ?_  -- guard t35 (wants False) at t36 := move t3 [if #14=False]
  refine csFh (t := 35) rfl (rfl) ?_
  refine gT rfl <| v0 (S0.move rfl) rfl <| ?_  -- op t37 := call F10{(*rivulet/beat.Beats).Watch}(t36, 1:i64, 0:i64) [if #14=False]
  refine gT rfl <| vc (S1.callF rfl (watch_spec ha0 1 0) (take1 (atS at0) take0)) rfl ?_
  rintro _ _ ⟨rfl, ca1, rfl, ha1⟩
  refine app ?_
  rw [show watchR [] 1 0 = [(1, 0)] from by decide] at ha1
  refine gT rfl <| v0 (S0.cmp rfl rfl rfl) rfl <| v0 (S0.pickF rfl rfl) rfl <| v0 (S0.move rfl) rfl <| ?_  -- guard t40 (wants False) at t41 := move t5 [if #19=False]
  refine csFh (t := 40) rfl ((by decide)) ?_
  refine gT rfl <| v0 (S0.move rfl) rfl <| ?_  -- op t42 := call F10{(*rivulet/beat.Beats).Watch}(t41, 1:i64, 0:i64) [if #19=False]
  refine gT rfl <| vc (S1.callF rfl (watch_spec hb0 1 0) (take1 (atS at0) take0)) rfl ?_
  rintro _ _ ⟨rfl, cb1, rfl, hb1⟩
  refine app ?_
  rw [show watchR [] 1 0 = [(1, 0)] from by decide] at hb1
  refine gT rfl <| v0 (S0.cmp rfl rfl rfl) rfl <| v0 (S0.pickF rfl rfl) rfl <| vE <| ?_  -- cond
  refine WP.condFh rfl ((by decide)) ?_
  refine WP.skip <| ?_  -- cut
  refine WP.cutS (fun s : Int × List Blk => 0 ≤ s.1 ∧ s.1 ≤ 1099511627776 ∧ IsB b 2 7 (-1) [(1, s.1)] s.2) (fun s : Int × List Blk => [(5, .pointer (some ⟨b, 0, none⟩))]) (fun s : Int × List Blk => [s.2, whole W]) ?_ (fun s hinv => ?_)
  · refine WP.seq <| WP.region <| v0 (S0.assign rfl) rfl <| vE <| WP.block <| ?_  -- Code.loop
    refine WP.loop (fun s : Nat × Int × BM × List Blk × List Blk => s.1 ≤ 80 ∧ s.2.2.1.length ≤ s.1 + 1 ∧ OkB s.2.2.1 ∧ gB s.2.2.1 1 = some s.2.1 ∧ IsB a 2 7 (-1) s.2.2.1 s.2.2.2.1 ∧ IsB b 2 7 (-1) [(1, s.2.1)] s.2.2.2.2) (fun s : Nat × Int × BM × List Blk × List Blk => [(0, .slice ga glen gcap), (3, .pointer (some ⟨a, 0, none⟩)), (5, .pointer (some ⟨b, 0, none⟩)), (7, .int .i64 (s.1 : Int))]) (fun s : Nat × Int × BM × List Blk × List Blk => [s.2.2.2.1, s.2.2.2.2, whole W]) (fun s : Nat × Int × BM × List Blk × List Blk => 80 - s.1) ((0, 0, [(1, 0)], ca1, cb1)) (⟨Nat.zero_le _, Nat.le_refl _, ⟨by simp, by simp⟩, rfl, ha1, hb1⟩) ⟨rfl, rfl, rfl, rfl, trivial⟩ ⟨_, (take1 (atS at0) (take1 at0 (take1 at0 take0)))⟩ (fun s hinv => ?_) 
    obtain ⟨i, t, R, ca, cb⟩ := s
    obtain ⟨hi, hlen, hO, hg1, ha, hb⟩ := hinv
    dsimp only at hi hlen hO hg1 ha hb ⊢
    have htm := hO.tm _ (gB_mem hg1)
    dsimp only at htm
    refine WP.seq <| WP.seq <| WP.region <| v0 (S0.move rfl) rfl <| v0 (S0.move rfl) rfl <| v0 (S0.lenSl rfl) rfl <| v0 (S0.cmp rfl rfl rfl) rfl <| v0 (S0.move rfl) rfl <| ?_  -- guard t49 (wants True) at t50 := move t7 [if #4=True]
    first | refine csP (t := 49) rfl (fun h1 => ?_) (fun h1 => ?_) | refine csN (t := 49) rfl (fun h1 => ?_) (fun h1 => ?_) | refine cs (t := 49) rfl (fun h1 => ?_) (fun h1 => ?_)
    · skip
      refine gT rfl <| v0 (S0.move rfl) rfl <| gT rfl <| v0 (S0.cmp rfl rfl rfl) rfl <| v0 (S0.pickT rfl rfl) rfl <| vE <| ?_  -- cond
      first | refine WP.condP rfl (fun h2 => ?_) (fun h2 => ?_) | refine WP.condN rfl (fun h2 => ?_) (fun h2 => ?_) | refine WP.cond rfl (fun h2 => ?_) (fun h2 => ?_)
      · skip
        rcases hgs with h0 | ⟨gb, go, GL, GU, gfz, rfl, hgb, hcell⟩
        · omega
        have hlt : i < glen := by omega
        obtain ⟨kd, hkd, -⟩ := hcell i 0 hlt (by decide)
        obtain ⟨id, hid, -⟩ := hcell i 1 hlt (by decide)
        obtain ⟨now, hnow, -⟩ := hcell i 2 hlt (by decide)
        have : HasC (whole W) gb (.cells ⟨GL⟩ GU gfz) := ⟨whole_mem.2 hgb⟩
        refine WP.skip <| WP.seq <| WP.block <| WP.seq <| WP.region <| v0 (S0.move rfl) rfl <| v0 (S0.move rfl) rfl <| ?_  -- op t57 := indexAddr 22 t55 t56
        refine v0 (S0.indexO rfl rfl hlt) rfl <| ?_
        refine v0 (S0.loadA rfl (take3_of hkd hid hnow) rfl) rfl <| ?_
        refine vn (S1.alloc rfl) rfl fun b8 => vs (S1.storeA rfl rfl rfl) <| vE <| ?_  -- cut
        refine WP.cutS (fun s : BM × List Blk => s.1.length ≤ i + 2 ∧ OkB s.1 ∧ gB s.1 1 = some t ∧ IsB a 2 7 (-1) s.1 s.2) (fun s : BM × List Blk => [(0, .slice (some ⟨gb, go, none⟩) glen gcap), (3, .pointer (some ⟨a, 0, none⟩)), (5, .pointer (some ⟨b, 0, none⟩)), (7, .int .i64 (i : Int)), (8, .pointer (some ⟨b8, 0, none⟩))]) (fun s : BM × List Blk => [[(b8, cel [.int .i64 kd, .int .i64 id, .int .i64 now] 31)], s.2, cb, whole W]) ?_ (fun s hinv => ?_)
        · refine WP.seq <| WP.region <| v0 (S0.fieldAddr rfl) rfl <| v0 (S0.load rfl rfl) rfl <| v0 (S0.cmp rfl rfl rfl) rfl <| vE <| ?_  -- cond
          first | refine WP.condP rfl (fun hk => ?_) (fun hk => ?_) | refine WP.condN rfl (fun hk => ?_) (fun hk => ?_) | refine WP.cond rfl (fun hk => ?_) (fun hk => ?_)
          · skip
            refine WP.region <| v0 (S0.move rfl) rfl <| v0 (S0.fieldAddr rfl) rfl <| v0 (S0.load rfl rfl) rfl <| v0 (S0.fieldAddr rfl) rfl <| v0 (S0.load rfl rfl) rfl <| ?_  -- op t67 := call F10{(*rivulet/beat.Beats).Watch}(t62, t64, t66)
            refine vc (S1.callF rfl (watch_spec ha id now) (take1 (atS at0) take0)) rfl ?_
            rintro _ _ ⟨rfl, ca2, rfl, ha2⟩
            refine app ?_
            refine vE <| ?_  -- cutend
            exact ⟨(watchR R id now, ca2), (by first | exact ⟨by have := watch_len R id now; omega, hO.watch id now, watch_keeps hg1, ha2⟩ | (dsimp only; exact ⟨by have := watch_len R id now; omega, hO.watch id now, watch_keeps hg1, ha2⟩)), ⟨⟨rfl, rfl, rfl, rfl, rfl, trivial⟩, rfl, rfl⟩, ⟨_, (take1 (atS at0) (take1 at0 (take1 at0 (take1 at0 take0))))⟩⟩
          · skip
            refine WP.skip <| ?_  -- cutend
            exact ⟨(R, ca), (by first | exact ⟨by omega, hO, hg1, ha⟩ | (dsimp only; exact ⟨by omega, hO, hg1, ha⟩)), ⟨⟨rfl, rfl, rfl, rfl, rfl, trivial⟩, rfl, rfl⟩, ⟨_, (take1 at0 (take1 at0 (take1 at0 (take1 at0 take0))))⟩⟩
        · skip
          obtain ⟨R2, ca2⟩ := s
          obtain ⟨hlen2, hO2, hg2, ha2⟩ := hinv
          dsimp only at hlen2 hO2 hg2 ha2 ⊢
          generalize ht2 : (if kd = 1 ∧ id = 1 ∧ heardE [(1, t)] 1 now = 0 then now else t) = t2
          -- (nothing to walk: cut)
          refine WP.cutS (fun s : BM × List Blk => s.1.length ≤ i + 2 ∧ OkB s.1 ∧ gB s.1 1 = some t2 ∧ IsB a 2 7 (-1) s.1 s.2) (fun s : BM × List Blk => [(0, .slice (some ⟨gb, go, none⟩) glen gcap), (3, .pointer (some ⟨a, 0, none⟩)), (5, .pointer (some ⟨b, 0, none⟩)), (7, .int .i64 (i : Int)), (8, .pointer (some ⟨b8, 0, none⟩))]) (fun s : BM × List Blk => [[(b8, cel [.int .i64 kd, .int .i64 id, .int .i64 now] 31)], s.2, cb, whole W]) ?_ (fun s hinv => ?_)
          · refine WP.seq <| WP.region <| v0 (S0.fieldAddr rfl) rfl <| v0 (S0.load rfl rfl) rfl <| v0 (S0.cmp rfl rfl rfl) rfl <| vE <| ?_  -- cond
            first | refine WP.condP rfl (fun hk => ?_) (fun hk => ?_) | refine WP.condN rfl (fun hk => ?_) (fun hk => ?_) | refine WP.cond rfl (fun hk => ?_) (fun hk => ?_)
            · skip
              refine WP.region <| v0 (S0.move rfl) rfl <| v0 (S0.fieldAddr rfl) rfl <| v0 (S0.load rfl rfl) rfl <| v0 (S0.fieldAddr rfl) rfl <| v0 (S0.load rfl rfl) rfl <| ?_  -- op t76 := call F12{(*rivulet/beat.Beats).Heard}(t71, t73, t75)
              refine vc (S1.callF rfl (heard_spec ha2 id now) (take1 (atS at0) take0)) rfl ?_
              rintro _ _ ⟨rfl, ca3, rfl, ha3⟩
              refine app ?_
              refine vE <| ?_  -- cutend
              have hg3 : gB (heardR R2 id now) 1 = some t2 := by
                by_cases e : id = 1
                · subst e
                  rw [heard_same hg2, ← ht2]
                  simp [hk]
                · rw [heard_other (fun h => e h.symm), hg2, ← ht2]
                  simp [e]
              exact ⟨(heardR R2 id now, ca3), (by first | exact ⟨by have := heard_len R2 id now; omega, hO2.heard id now, hg3, ha3⟩ | (dsimp only; exact ⟨by have := heard_len R2 id now; omega, hO2.heard id now, hg3, ha3⟩)), ⟨⟨rfl, rfl, rfl, rfl, rfl, trivial⟩, rfl, rfl⟩, ⟨_, (take1 (atS at0) (take1 at0 (take1 at0 (take1 at0 take0))))⟩⟩
            · skip
              refine WP.skip <| ?_  -- cutend
              exact ⟨(R2, ca2), (by first | exact ⟨by omega, hO2, by rw [hg2, ← ht2]; simp [hk], ha2⟩ | (dsimp only; exact ⟨by omega, hO2, by rw [hg2, ← ht2]; simp [hk], ha2⟩)), ⟨⟨rfl, rfl, rfl, rfl, rfl, trivial⟩, rfl, rfl⟩, ⟨_, (take1 at0 (take1 at0 (take1 at0 (take1 at0 take0))))⟩⟩
          · skip
            obtain ⟨R3, ca3⟩ := s
            obtain ⟨hlen3, hO3, hg3, ha3⟩ := hinv
            dsimp only at hlen3 hO3 hg3 ha3 ⊢
            have htm3 := hO3.tm _ (gB_mem hg3)
            dsimp only at htm3
            -- (nothing to walk: cut)
            refine WP.cutS (fun c : List Blk => IsB b 2 7 (-1) [(1, t2)] c) (fun c : List Blk => [(0, .slice (some ⟨gb, go, none⟩) glen gcap), (3, .pointer (some ⟨a, 0, none⟩)), (5, .pointer (some ⟨b, 0, none⟩)), (7, .int .i64 (i : Int)), (8, .pointer (some ⟨b8, 0, none⟩))]) (fun c : List Blk => [[(b8, cel [.int .i64 kd, .int .i64 id, .int .i64 now] 31)], ca3, c, whole W]) ?_ (fun c hinv => ?_)
            · refine WP.seq <| WP.region <| v0 (S0.fieldAddr rfl) rfl <| v0 (S0.load rfl rfl) rfl <| v0 (S0.cmp rfl rfl rfl) rfl <| v0 (S0.move rfl) rfl <| ?_  -- guard t80 (wants True) at t81 := fieldAddr 31 t8 0 [if #3=True]
              first | refine csP (t := 80) rfl (fun hk1 => ?_) (fun hk1 => ?_) | refine csN (t := 80) rfl (fun hk1 => ?_) (fun hk1 => ?_) | refine cs (t := 80) rfl (fun hk1 => ?_) (fun hk1 => ?_)
              · skip
                refine gT rfl <| v0 (S0.fieldAddr rfl) rfl <| gT rfl <| v0 (S0.load rfl rfl) rfl <| gT rfl <| v0 (S0.cmp rfl rfl rfl) rfl <| v0 (S0.pickT rfl rfl) rfl <| vE <| ?_  -- cond
                first | refine WP.condP rfl (fun hk2 => ?_) (fun hk2 => ?_) | refine WP.condN rfl (fun hk2 => ?_) (fun hk2 => ?_) | refine WP.cond rfl (fun hk2 => ?_) (fun hk2 => ?_)
                · skip
                  refine WP.region <| v0 (S0.move rfl) rfl <| v0 (S0.fieldAddr rfl) rfl <| v0 (S0.load rfl rfl) rfl <| ?_  -- op t88 := call F12{(*rivulet/beat.Beats).Heard}(t85, 1:i64, t87)
                  refine vc (S1.callF rfl (heard_spec hb 1 now) (take1 (atS (atS at0)) take0)) rfl ?_
                  rintro _ _ ⟨rfl, cb3, rfl, hb3⟩
                  refine app ?_
                  rw [heard_one] at hb3
                  have e : (if heardE [(1, t)] 1 now = 0 then now else t) = t2 := by rw [← ht2]; simp [hk1, hk2]
                  rw [e] at hb3
                  refine vE <| ?_  -- cutend
                  exact ⟨cb3, (by first | exact hb3 | (dsimp only; exact hb3)), ⟨⟨rfl, rfl, rfl, rfl, rfl, trivial⟩, rfl, rfl⟩, ⟨_, (take1 (atS at0) (take1 (atS at0) (take1 at0 (take1 at0 take0))))⟩⟩
                · skip
                  refine WP.skip <| ?_  -- cutend
                  have e : t = t2 := by rw [← ht2]; simp [hk2]
                  exact ⟨cb, (by first | exact (by rw [← e]; exact hb) | (dsimp only; exact (by rw [← e]; exact hb))), ⟨⟨rfl, rfl, rfl, rfl, rfl, trivial⟩, rfl, rfl⟩, ⟨_, (take1 at0 (take1 at0 (take1 at0 (take1 at0 take0))))⟩⟩
              · skip
                refine gF rfl rfl <| gF rfl rfl <| gF rfl rfl <| v0 (S0.pickF rfl rfl) rfl <| vE <| WP.condF rfl <| WP.skip <| ?_  -- cutend
                have e : t = t2 := by rw [← ht2]; simp [hk1]
                exact ⟨cb, (by first | exact (by rw [← e]; exact hb) | (dsimp only; exact (by rw [← e]; exact hb))), ⟨⟨rfl, rfl, rfl, rfl, rfl, trivial⟩, rfl, rfl⟩, ⟨_, (take1 at0 (take1 at0 (take1 at0 (take1 at0 take0))))⟩⟩
            · skip
              have hO1 : OkB [(1, t2)] := ⟨by simp, by simp; omega⟩
              refine WP.seq <| WP.region <| v0 (S0.move rfl) rfl <| v0 (S0.fieldAddr rfl) rfl <| v0 (S0.load rfl rfl) rfl <| ?_  -- op t93 := call F18{(*rivulet/beat.Beats).Left}(t90, 1:i64, t92)
              refine vcd (S1.callF rfl (left_spec ha3 hO3 (by decide) 1 now) (take1 (atS at0) take0)) rfl ?_
              refine v0 (S0.move rfl) rfl <| v0 (S0.extract rfl rfl) rfl <| v0 (S0.extract rfl rfl) rfl <| v0 (S0.assign rfl) rfl <| v0 (S0.assign rfl) rfl <| vE <| WP.seq <| WP.region <| v0 (S0.move rfl) rfl <| v0 (S0.fieldAddr rfl) rfl <| v0 (S0.load rfl rfl) rfl <| ?_  -- op t100 := call F18{(*rivulet/beat.Beats).Left}(t97, 1:i64, t99)
              refine vcd (S1.callF rfl (left_spec hinv hO1 (by decide) 1 now) (take1 (atS (atS at0)) take0)) rfl ?_
              have e : leftB R3 7 1 now = leftB [(1, t2)] 7 1 now := by simp [leftB, hg3, gB]
              rw [e]
              refine v0 (S0.move rfl) rfl <| v0 (S0.extract rfl rfl) rfl <| v0 (S0.extract rfl rfl) rfl <| v0 (S0.assign rfl) rfl <| v0 (S0.assign rfl) rfl <| vE <| WP.seq <| WP.region <| v0 (S0.move rfl) rfl <| v0 (S0.move rfl) rfl <| v0 (S0.cmp rfl rfl rfl) rfl <| v0 (S0.move rfl) rfl <| ?_  -- guard t106 (wants False) at t107 := move t10 [if #3=False]
              refine csFh (t := 106) rfl ((by simp)) ?_
              refine gT rfl <| v0 (S0.move rfl) rfl <| gT rfl <| v0 (S0.move rfl) rfl <| gT rfl <| v0 (S0.cmpB rfl rfl rfl) rfl <| v0 (S0.pickF rfl rfl) rfl <| vE <| ?_  -- cond
              refine WP.condFh rfl ((by simp)) ?_
              refine WP.skip <| WP.region <| v0 (S0.move rfl) rfl <| v0 (S0.ari rfl rfl rfl (wrap_i64 (by omega))) rfl <| v0 (S0.assign rfl) rfl <| vE <| ?_  -- roundend
              exact ⟨(i + 1, t2, R3, ca3, c), (by first | exact ⟨by omega, by omega, hO3, hg3, ha3, hinv⟩ | (dsimp only; exact ⟨by omega, by omega, hO3, hg3, ha3, hinv⟩)), (show 80 - (i + 1) < 80 - i by omega), ⟨⟨rfl, rfl, rfl, rfl, trivial⟩, rfl, rfl⟩, ⟨_, (take1 (atS at0) (take1 at0 (take1 (atS at0) take0)))⟩⟩
      · skip
        refine WP.exit <| ?_  -- cutend
        exact ⟨(t, cb), (by first | exact ⟨htm.2.1, htm.2.2, hb⟩ | (dsimp only; exact ⟨htm.2.1, htm.2.2, hb⟩)), ⟨⟨rfl, trivial⟩, rfl, rfl⟩, ⟨_, (take1 (atS at0) (take1 (atS at0) take0))⟩⟩
    · skip
      refine gF rfl rfl <| gF rfl rfl <| v0 (S0.pickF rfl rfl) rfl <| vE <| WP.condF rfl <| WP.exit <| ?_  -- cutend
      exact ⟨(t, cb), (by first | exact ⟨htm.2.1, htm.2.2, hb⟩ | (dsimp only; exact ⟨htm.2.1, htm.2.2, hb⟩)), ⟨⟨rfl, trivial⟩, rfl, rfl⟩, ⟨_, (take1 (atS at0) (take1 (atS at0) take0))⟩⟩
  · skip
    obtain ⟨t, c⟩ := s
    obtain ⟨h1, h2, hc⟩ := hinv
    dsimp only at h1 h2 hc ⊢
    have hO1 : OkB [(1, t)] := ⟨by simp, by simp; omega⟩
    refine WP.seq <| WP.region <| v0 (S0.move rfl) rfl <| ?_  -- op t112 := call F23{(*rivulet/beat.Beats).Ids}(t111)
    refine vc (S1.callF rfl (ids_spec hc hO1 (by simp)) (take1 at0 take0)) rfl ?_
    rintro v1 _ ⟨q1, hq1, rfl⟩
    refine app ?_
    refine vnv (S1.buildSlice rfl (qs := [(0, _)]) rfl rfl) rfl fun b113 => ?_  -- op t114 := call F20{rivulet/rivuletref04.Ints}(t112, t113)
    refine vcd (S1.callF rfl (ints_spec (b := [1]) hq1 (IsSl.row (n := 1) (c := 1) (l := [.int .i64 1]) (sp := []) rfl rfl (by decide)) (by simp [idsB])) (take1 (atS at0) (take1 at0 take0))) rfl ?_
    refine v0 (S0.move rfl) rfl <| ?_  -- guard t115 (wants True) at t116 := call F25{rivulet/rivuletlaw15.fixed}() [if #4=True]
    refine csTh (t := 115) rfl ((by simp [idsB])) ?_
    -- (nothing to walk: op t116 := call F25{rivulet/rivuletlaw15.fixed}() [if #4=True])
    refine gT rfl <| vc (S1.callF rfl (fixed_spec) take0) rfl ?_
    rintro _ _ ⟨rfl, rfl⟩
    refine app ?_
    refine v0 (S0.pickT rfl rfl) rfl <| v0 (S0.assign rfl) rfl <| vE <| WP.ret <| ?_  -- ret
    refine Leaves.drop (take1 (atS (atS (atS at0))) take0) ?_
    refine r1 rfl rfl ?_
    exact ⟨rfl, rfl⟩
end Go.Proofs.Ytmnmikcpdhnbnaa
