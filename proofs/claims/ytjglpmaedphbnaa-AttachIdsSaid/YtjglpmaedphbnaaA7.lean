import Derived.Test.YtjglpmaedphbnaaA6
namespace Go.Proofs.Ytjglpmaedphbnaa
open Go

/-- what the law keeps in mind of a child -/
structure UpI (c : Ch) (whom ep : Int) (up : Bool) : Prop where
  ok : OkC c
  ep : ep = c.epoch
  whom : whom = if c.state = 0 then -1 else c.parent
  up : up = decide (c.state = 2)
  par : c.state ≠ 0 → 0 ≤ c.parent

theorem welE_ok {c : Ch} {who n : Int} (he : welE c who n = 0) : c.state = 1 ∧ who = c.parent ∧ n = c.epoch := by
  unfold welE at he
  split at he
  · rename_i hh
    split at he
    · cases he
    · split at he
      · cases he
      · exact ⟨hh.1, hh.2, by omega⟩
  · cases he

theorem attachUp_walk (W : World) (g : Value) (hg : ArgI W 3 g) : FN Try.prog 4 [g] [whole W] (fun v h => v = .bool true ∧ h = [whole W]) := by
  obtain ⟨ga, glen, gcap, rfl, -, hgs⟩ := hg
  refine FN.intro 131 [(0, .slice ga glen gcap)] Try.func4 rfl (enters Try.func4 (by kernel_rfl) rfl) Try.ntmps4 rfl rfl ?_
  refine WP.seq <| WP.region <| v0 (S0.assign rfl) rfl <| vE <| WP.seq <| WP.region <| ?_  -- op t17 := call F8{rivulet/attach.New}(3:i64, 0:i64)
  refine vc (S1.callF rfl (cnew_ok (every := 3) (epoch := 0) (by decide)) take0) rfl ?_
  rintro _ _ ⟨b, rfl, rfl⟩
  refine app ?_
  refine v0 (S0.move rfl) rfl <| v0 (S0.extract rfl rfl) rfl <| v0 (S0.extract rfl rfl) rfl <| v0 (S0.assign rfl) rfl <| v0 (S0.assign rfl) rfl <| vE <| WP.seq <| WP.seq <| WP.region <| v0 (S0.move rfl) rfl <| v0 (S0.nilP rfl rfl rfl rfl) rfl <| v0 (S0.move rfl) rfl <| ?_  -- guard t22 (wants False) at t23 := move t4 [if #2=False]
  refine csFh (t := 22) rfl (rfl) ?_
  refine gT rfl <| v0 (S0.move rfl) rfl <| gT rfl <| v0 (S0.cmp rfl rfl rfl) rfl <| v0 (S0.pickF rfl rfl) rfl <| vE <| ?_  -- cond
  refine WP.condFh rfl (rfl) ?_
  refine WP.skip <| WP.seq <| WP.region <| v0 (S0.assign rfl) rfl <| v0 (S0.assign rfl) rfl <| v0 (S0.assign rfl) rfl <| vE <| ?_  -- cut
  refine WP.cutS (fun s : Nat => True) (fun s : Nat => [(3, .pointer (some ⟨b, 0, none⟩))]) (fun s : Nat => [whole W]) ?_ (fun s hinv => ?_)
  · refine WP.seq <| WP.region <| v0 (S0.assign rfl) rfl <| vE <| WP.block <| ?_  -- Code.loop
    refine WP.loop (fun s : Nat × Ch × Int × Int × Bool => s.1 ≤ 80 ∧ s.2.2.2.1 ≤ (s.1 : Int) ∧ UpI s.2.1 s.2.2.1 s.2.2.2.1 s.2.2.2.2) (fun s : Nat × Ch × Int × Int × Bool => [(0, .slice ga glen gcap), (3, .pointer (some ⟨b, 0, none⟩)), (5, .int .i64 s.2.2.1), (6, .int .i64 s.2.2.2.1), (7, .bool s.2.2.2.2), (8, .int .i64 (s.1 : Int))]) (fun s : Nat × Ch × Int × Int × Bool => [chB b s.2.1, whole W]) (fun s : Nat × Ch × Int × Int × Bool => 80 - s.1) ((0, ⟨3, 0, 0, 0, 0⟩, -1, 0, false)) (⟨Nat.zero_le _, Int.le_refl 0, ⟨⟨by decide, by decide, .inl rfl, by decide⟩, rfl, rfl, rfl, fun h => absurd rfl h⟩⟩) ⟨rfl, rfl, rfl, rfl, rfl, rfl, trivial⟩ ⟨_, (take1 at0 (take1 at0 take0))⟩ (fun s hinv => ?_) 
    obtain ⟨i, c, whom, ep, up⟩ := s
    obtain ⟨hi, hep, hU⟩ := hinv
    dsimp only at hi hep hU ⊢
    have hO := hU.ok
    have hst := hO.state
    have heq := hU.ep
    have hwq := hU.whom
    have huq := hU.up
    have hge := hO.epoch
    refine WP.seq <| WP.seq <| WP.region <| v0 (S0.move rfl) rfl <| v0 (S0.move rfl) rfl <| v0 (S0.lenSl rfl) rfl <| v0 (S0.cmp rfl rfl rfl) rfl <| v0 (S0.move rfl) rfl <| ?_  -- guard t30 (wants True) at t31 := move t8 [if #4=True]
    first | refine csP (t := 30) rfl (fun h1 => ?_) (fun h1 => ?_) | refine csN (t := 30) rfl (fun h1 => ?_) (fun h1 => ?_) | refine cs (t := 30) rfl (fun h1 => ?_) (fun h1 => ?_)
    · skip
      refine gT rfl <| v0 (S0.move rfl) rfl <| gT rfl <| v0 (S0.cmp rfl rfl rfl) rfl <| v0 (S0.pickT rfl rfl) rfl <| vE <| ?_  -- cond
      first | refine WP.condP rfl (fun h2 => ?_) (fun h2 => ?_) | refine WP.condN rfl (fun h2 => ?_) (fun h2 => ?_) | refine WP.cond rfl (fun h2 => ?_) (fun h2 => ?_)
      · skip
        rcases hgs with h0 | ⟨gb, go, GL, GU, gfz, rfl, hgb, hcell⟩
        · omega
        have hlt : i < glen := by omega
        obtain ⟨kd, hkd, -⟩ := hcell i 0 hlt (by decide)
        obtain ⟨who, hwho, -⟩ := hcell i 1 hlt (by decide)
        obtain ⟨n, hn, -⟩ := hcell i 2 hlt (by decide)
        have : HasC (whole W) gb (.cells ⟨GL⟩ GU gfz) := ⟨whole_mem.2 hgb⟩
        refine WP.skip <| WP.seq <| WP.block <| WP.seq <| WP.region <| v0 (S0.move rfl) rfl <| v0 (S0.move rfl) rfl <| ?_  -- op t38 := indexAddr 22 t36 t37
        refine v0 (S0.indexO rfl rfl hlt) rfl <| ?_
        refine v0 (S0.loadA rfl (take3_of hkd hwho hn) rfl) rfl <| ?_
        refine vn (S1.alloc) rfl fun b9 => vs (S1.storeA rfl rfl rfl) <| vE <| ?_  -- cut
        refine WP.cutS (fun s : Ch × Int × Int × Bool => s.2.2.1 ≤ (i : Int) + 1 ∧ UpI s.1 s.2.1 s.2.2.1 s.2.2.2) (fun s : Ch × Int × Int × Bool => [(0, .slice (some ⟨gb, go, none⟩) glen gcap), (3, .pointer (some ⟨b, 0, none⟩)), (5, .int .i64 s.2.1), (6, .int .i64 s.2.2.1), (7, .bool s.2.2.2), (8, .int .i64 (i : Int))]) (fun s : Ch × Int × Int × Bool => [chB b s.1, whole W]) ?_ (fun s hinv => ?_)
        · refine WP.seq <| WP.region <| v0 (S0.fieldAddr rfl) rfl <| v0 (S0.load rfl rfl) rfl <| vE <| WP.block <| WP.seq <| WP.region <| v0 (S0.cmp rfl rfl rfl) rfl <| v0 (S0.assign rfl) rfl <| vE <| ?_  -- cond
          first | refine WP.condP rfl (fun hk0 => ?_) (fun hk0 => ?_) | refine WP.condN rfl (fun hk0 => ?_) (fun hk0 => ?_) | refine WP.cond rfl (fun hk0 => ?_) (fun hk0 => ?_)
          · skip
            refine WP.seq <| WP.region <| v0 (S0.move rfl) rfl <| v0 (S0.fieldAddr rfl) rfl <| v0 (S0.load rfl rfl) rfl <| v0 (S0.fieldAddr rfl) rfl <| v0 (S0.load rfl rfl) rfl <| ?_  -- op t50 := call F11{(*rivulet/attach.Child).Ask}(t45, t47, t49)
            refine vcd (S1.callF rfl (ask_spec hO who n) (take1 (atS at0) take0)) rfl ?_
            refine v0 (S0.move rfl) rfl <| v0 (S0.extract rfl rfl) rfl <| v0 (S0.extract rfl rfl) rfl <| v0 (S0.assign rfl) rfl <| v0 (S0.assign rfl) rfl <| vE <| WP.seq <| WP.region <| v0 (S0.move rfl) rfl <| v0 (S0.cmp rfl rfl rfl) rfl <| vE <| ?_  -- cond
            skip
            by_cases hb : askB c who n = true
            · skip
              have e1 : askE c who n = 0 := by rw [askE, hb]; rfl
              have e2 : askV c who n = ep + 1 := by rw [askV, hb, heq]; rfl
              have e3 : askC c who n = ⟨c.every, c.epoch + 1, 1, who, n⟩ := by rw [askC, hb]; rfl
              have hO2 := hO.ask who n
              rw [e3] at hO2
              rw [e2, e3]
              have hpos : 0 ≤ who := by
                simp only [askB, Bool.and_eq_true, decide_eq_true_eq] at hb; exact hb.1.1
              refine WP.condTh rfl ((by rw [e1]; rfl)) ?_
              refine WP.seq <| WP.region <| v0 (S0.move rfl) rfl <| v0 (S0.ari rfl rfl rfl (wrap_i64 (by omega))) rfl <| v0 (S0.assign rfl) rfl <| vE <| WP.seq <| WP.region <| v0 (S0.fieldAddr rfl) rfl <| v0 (S0.load rfl rfl) rfl <| v0 (S0.assign rfl) rfl <| vE <| WP.seq <| WP.region <| v0 (S0.assign rfl) rfl <| vE <| WP.seq <| WP.region <| v0 (S0.move rfl) rfl <| v0 (S0.move rfl) rfl <| v0 (S0.cmp rfl rfl rfl) rfl <| vE <| ?_  -- cond
              refine WP.condFh rfl ((by simp)) ?_
              refine WP.skip <| ?_  -- cutend
              exact ⟨(⟨c.every, c.epoch + 1, 1, who, n⟩, who, ep + 1, false), (by first | exact ⟨by omega, hO2, by rw [heq], rfl, rfl, fun _ => hpos⟩ | (dsimp only; exact ⟨by omega, hO2, by rw [heq], rfl, rfl, fun _ => hpos⟩)), ⟨⟨rfl, rfl, rfl, rfl, rfl, rfl, trivial⟩, rfl, rfl⟩, ⟨_, (take1 at0 (take1 (atS at0) take0))⟩⟩
            · skip
              have e1 : askE c who n = 1 := by rw [askE, if_neg hb]
              have e3 : askC c who n = c := by rw [askC, if_neg hb]
              rw [e3]
              refine WP.condFh rfl ((by rw [e1]; rfl)) ?_
              refine WP.skip <| ?_  -- cutend
              exact ⟨(c, whom, ep, up), (by first | exact ⟨by omega, hU⟩ | (dsimp only; exact ⟨by omega, hU⟩)), ⟨⟨rfl, rfl, rfl, rfl, rfl, rfl, trivial⟩, rfl, rfl⟩, ⟨_, (take1 at0 (take1 (atS at0) take0))⟩⟩
          · skip
            refine WP.seq <| WP.region <| v0 (S0.cmp rfl rfl rfl) rfl <| v0 (S0.assign rfl) rfl <| vE <| ?_  -- cond
            first | refine WP.condP rfl (fun hk2 => ?_) (fun hk2 => ?_) | refine WP.condN rfl (fun hk2 => ?_) (fun hk2 => ?_) | refine WP.cond rfl (fun hk2 => ?_) (fun hk2 => ?_)
            · skip
              refine WP.seq <| WP.region <| v0 (S0.move rfl) rfl <| v0 (S0.fieldAddr rfl) rfl <| v0 (S0.load rfl rfl) rfl <| v0 (S0.fieldAddr rfl) rfl <| v0 (S0.load rfl rfl) rfl <| ?_  -- op t69 := call F15{(*rivulet/attach.Child).Welcome}(t64, t66, t68)
              refine vcd (S1.callF rfl (wel_spec hO who n) (take1 (atS at0) take0)) rfl ?_
              refine v0 (S0.assign rfl) rfl <| vE <| ?_  -- cut
              refine WP.cutS (fun ok : Bool => ok = decide (welE c who n = 0)) (fun ok : Bool => [(0, .slice (some ⟨gb, go, none⟩) glen gcap), (3, .pointer (some ⟨b, 0, none⟩)), (5, .int .i64 whom), (6, .int .i64 ep), (7, .bool up), (8, .int .i64 (i : Int)), (12, .int .i64 (welE c who n)), (13, .bool ok)]) (fun ok : Bool => [chB b (welC c who n), whole W]) ?_ (fun ok hinv => ?_)
              · skip
                by_cases he : welE c who n = 0
                · skip
                  have hs1 := welE_ok he
                  have hw2 : whom = who := by rw [hwq, if_neg (by omega)]; exact hs1.2.1.symm
                  have hp := hU.par (by omega)
                  have hup : up = false := by rw [huq]; exact decide_eq_false (by omega)
                  refine WP.region <| v0 (S0.move rfl) rfl <| v0 (S0.cmp rfl rfl rfl) rfl <| v0 (S0.move rfl) rfl <| ?_  -- guard t72 (wants True) at t73 := move t7 [if #2=True]
                  refine csTh (t := 72) rfl ((decide_eq_true (by omega))) ?_
                  refine gT rfl <| v0 (S0.move rfl) rfl <| gT rfl <| v0 (S0.not rfl) rfl <| v0 (S0.pickT rfl rfl) rfl <| v0 (S0.move rfl) rfl <| ?_  -- guard t76 (wants True) at t77 := fieldAddr 37 t9 1 [if #6=True]
                  refine csTh (t := 76) rfl ((by rw [hup]; rfl)) ?_
                  refine gT rfl <| v0 (S0.fieldAddr rfl) rfl <| gT rfl <| v0 (S0.load rfl rfl) rfl <| gT rfl <| v0 (S0.move rfl) rfl <| gT rfl <| v0 (S0.cmp rfl rfl rfl) rfl <| v0 (S0.pickT rfl rfl) rfl <| v0 (S0.move rfl) rfl <| ?_  -- guard t82 (wants True) at t83 := fieldAddr 37 t9 2 [if #12=True]
                  refine csTh (t := 82) rfl ((decide_eq_true (by omega))) ?_
                  refine gT rfl <| v0 (S0.fieldAddr rfl) rfl <| gT rfl <| v0 (S0.load rfl rfl) rfl <| gT rfl <| v0 (S0.move rfl) rfl <| gT rfl <| v0 (S0.cmp rfl rfl rfl) rfl <| v0 (S0.pickT rfl rfl) rfl <| v0 (S0.assign rfl) rfl <| vE <| ?_  -- cutend
                  exact ⟨decide (n = ep), (by first | exact (by rw [decide_eq_true he]; exact decide_eq_true (by omega)) | (dsimp only; exact (by rw [decide_eq_true he]; exact decide_eq_true (by omega)))), ⟨⟨rfl, rfl, rfl, rfl, rfl, rfl, rfl, rfl, trivial⟩, rfl, rfl⟩, ⟨_, (take1 at0 (take1 (atS at0) take0))⟩⟩
                · skip
                  refine WP.region <| v0 (S0.move rfl) rfl <| v0 (S0.cmp rfl rfl rfl) rfl <| v0 (S0.move rfl) rfl <| ?_  -- guard t72 (wants True) at t73 := move t7 [if #2=True]
                  first | refine csP (t := 72) rfl (fun a1 => ?_) (fun a1 => ?_) | refine csN (t := 72) rfl (fun a1 => ?_) (fun a1 => ?_) | refine cs (t := 72) rfl (fun a1 => ?_) (fun a1 => ?_)
                  · skip
                    refine gT rfl <| v0 (S0.move rfl) rfl <| gT rfl <| v0 (S0.not rfl) rfl <| v0 (S0.pickT rfl rfl) rfl <| v0 (S0.move rfl) rfl <| ?_  -- guard t76 (wants True) at t77 := fieldAddr 37 t9 1 [if #6=True]
                    first | refine csP (t := 76) rfl (fun a2 => ?_) (fun a2 => ?_) | refine csN (t := 76) rfl (fun a2 => ?_) (fun a2 => ?_) | refine cs (t := 76) rfl (fun a2 => ?_) (fun a2 => ?_)
                    · skip
                      refine gT rfl <| v0 (S0.fieldAddr rfl) rfl <| gT rfl <| v0 (S0.load rfl rfl) rfl <| gT rfl <| v0 (S0.move rfl) rfl <| gT rfl <| v0 (S0.cmp rfl rfl rfl) rfl <| v0 (S0.pickT rfl rfl) rfl <| v0 (S0.move rfl) rfl <| ?_  -- guard t82 (wants True) at t83 := fieldAddr 37 t9 2 [if #12=True]
                      first | refine csP (t := 82) rfl (fun a3 => ?_) (fun a3 => ?_) | refine csN (t := 82) rfl (fun a3 => ?_) (fun a3 => ?_) | refine cs (t := 82) rfl (fun a3 => ?_) (fun a3 => ?_)
                      · skip
                        refine gT rfl <| v0 (S0.fieldAddr rfl) rfl <| gT rfl <| v0 (S0.load rfl rfl) rfl <| gT rfl <| v0 (S0.move rfl) rfl <| gT rfl <| v0 (S0.cmp rfl rfl rfl) rfl <| v0 (S0.pickT rfl rfl) rfl <| v0 (S0.assign rfl) rfl <| vE <| ?_  -- cutend
                        have hne : ¬ n = ep := fun e => he (by
                          have hup : ¬ c.state = 2 := by
                            intro h2; rw [huq, decide_eq_true h2] at a2; cases a2
                          have h0 : ¬ c.state = 0 := by
                            intro h0; rw [hwq, if_pos h0] at a1; omega
                          have h1 : c.state = 1 := by omega
                          rw [hwq, if_neg h0] at a3
                          rw [welE, if_pos ⟨h1, a3⟩, if_neg (by omega), if_neg (by omega)])
                        exact ⟨decide (n = ep), (by first | exact (by rw [decide_eq_false he, decide_eq_false hne]) | (dsimp only; exact (by rw [decide_eq_false he, decide_eq_false hne]))), ⟨⟨rfl, rfl, rfl, rfl, rfl, rfl, rfl, rfl, trivial⟩, rfl, rfl⟩, ⟨_, (take1 at0 (take1 (atS at0) take0))⟩⟩
                      · skip
                        refine gF rfl rfl <| gF rfl rfl <| gF rfl rfl <| gF rfl rfl <| v0 (S0.pickF rfl rfl) rfl <| v0 (S0.assign rfl) rfl <| vE <| ?_  -- cutend
                        exact ⟨false, (by first | exact (by rw [decide_eq_false he]) | (dsimp only; exact (by rw [decide_eq_false he]))), ⟨⟨rfl, rfl, rfl, rfl, rfl, rfl, rfl, rfl, trivial⟩, rfl, rfl⟩, ⟨_, (take1 at0 (take1 (atS at0) take0))⟩⟩
                    · skip
                      refine gF rfl rfl <| gF rfl rfl <| gF rfl rfl <| gF rfl rfl <| v0 (S0.pickF rfl rfl) rfl <| v0 (S0.move rfl) rfl <| gF rfl rfl <| gF rfl rfl <| gF rfl rfl <| gF rfl rfl <| v0 (S0.pickF rfl rfl) rfl <| v0 (S0.assign rfl) rfl <| vE <| ?_  -- cutend
                      exact ⟨false, (by first | exact (by rw [decide_eq_false he]) | (dsimp only; exact (by rw [decide_eq_false he]))), ⟨⟨rfl, rfl, rfl, rfl, rfl, rfl, rfl, rfl, trivial⟩, rfl, rfl⟩, ⟨_, (take1 at0 (take1 (atS at0) take0))⟩⟩
                  · skip
                    refine gF rfl rfl <| gF rfl rfl <| v0 (S0.pickF rfl rfl) rfl <| v0 (S0.move rfl) rfl <| gF rfl rfl <| gF rfl rfl <| gF rfl rfl <| gF rfl rfl <| v0 (S0.pickF rfl rfl) rfl <| v0 (S0.move rfl) rfl <| gF rfl rfl <| gF rfl rfl <| gF rfl rfl <| gF rfl rfl <| v0 (S0.pickF rfl rfl) rfl <| v0 (S0.assign rfl) rfl <| vE <| ?_  -- cutend
                    exact ⟨false, (by first | exact (by rw [decide_eq_false he]) | (dsimp only; exact (by rw [decide_eq_false he]))), ⟨⟨rfl, rfl, rfl, rfl, rfl, rfl, rfl, rfl, trivial⟩, rfl, rfl⟩, ⟨_, (take1 at0 (take1 (atS at0) take0))⟩⟩
              · skip
                refine WP.seq <| WP.seq <| WP.region <| v0 (S0.move rfl) rfl <| v0 (S0.cmp rfl rfl rfl) rfl <| v0 (S0.move rfl) rfl <| v0 (S0.cmpB rfl rfl rfl) rfl <| vE <| ?_  -- cond
                refine WP.condFh rfl ((by rw [hinv]; simp)) ?_
                refine WP.skip <| WP.region <| v0 (S0.move rfl) rfl <| v0 (S0.move rfl) rfl <| ?_  -- guard t93 (wants False) at t94 := move t13 [if #1=False]
                have hnx : ∀ up', up' = (up || ok) → UpI (welC c who n) whom ep up' := fun up' hup' => by
                  have hO2 := hO.wel who n
                  by_cases he : welE c who n = 0
                  · have hs1 := welE_ok he
                    have e3 : welC c who n = ⟨c.every, c.epoch, 2, c.parent, c.asked⟩ := by rw [welC, if_pos he]
                    rw [e3] at hO2 ⊢
                    exact ⟨hO2, heq, by rw [hwq, if_neg (by omega)]; rfl, by rw [hup', hinv, decide_eq_true he, Bool.or_true]; rfl, fun _ => hU.par (by omega)⟩
                  · have e3 : welC c who n = c := by rw [welC, if_neg he]
                    rw [e3]
                    refine ⟨hO, heq, hwq, ?_, hU.par⟩
                    rw [hup', hinv, decide_eq_false he, Bool.or_false, huq]
                first | refine csP (t := 93) rfl (fun hup => ?_) (fun hup => ?_) | refine csN (t := 93) rfl (fun hup => ?_) (fun hup => ?_) | refine cs (t := 93) rfl (fun hup => ?_) (fun hup => ?_)
                · skip
                  refine gF rfl rfl <| v0 (S0.pickT rfl rfl) rfl <| v0 (S0.assign rfl) rfl <| vE <| ?_  -- cutend
                  exact ⟨(welC c who n, whom, ep, true), (by first | exact ⟨by omega, hnx true (by rw [hup]; rfl)⟩ | (dsimp only; exact ⟨by omega, hnx true (by rw [hup]; rfl)⟩)), ⟨⟨rfl, rfl, rfl, rfl, rfl, rfl, trivial⟩, rfl, rfl⟩, ⟨_, (take1 at0 (take1 at0 take0))⟩⟩
                · skip
                  refine gT rfl <| v0 (S0.move rfl) rfl <| v0 (S0.pickF rfl rfl) rfl <| v0 (S0.assign rfl) rfl <| vE <| ?_  -- cutend
                  exact ⟨(welC c who n, whom, ep, ok), (by first | exact ⟨by omega, hnx ok (by rw [hup]; rfl)⟩ | (dsimp only; exact ⟨by omega, hnx ok (by rw [hup]; rfl)⟩)), ⟨⟨rfl, rfl, rfl, rfl, rfl, rfl, trivial⟩, rfl, rfl⟩, ⟨_, (take1 at0 (take1 at0 take0))⟩⟩
            · skip
              refine WP.seq <| WP.region <| v0 (S0.cmp rfl rfl rfl) rfl <| v0 (S0.assign rfl) rfl <| vE <| ?_  -- cond
              first | refine WP.condP rfl (fun hk3 => ?_) (fun hk3 => ?_) | refine WP.condN rfl (fun hk3 => ?_) (fun hk3 => ?_) | refine WP.cond rfl (fun hk3 => ?_) (fun hk3 => ?_)
              · skip
                refine WP.seq <| WP.region <| v0 (S0.move rfl) rfl <| ?_  -- op t99 := call F17{(*rivulet/attach.Child).Lose}(t98)
                refine vcd (S1.callF rfl (lose_spec c) (take1 (atS at0) take0)) rfl ?_
                refine vE <| WP.seq <| WP.region <| v0 (S0.assign rfl) rfl <| vE <| WP.region <| v0 (S0.assign rfl) rfl <| vE <| ?_  -- cutend
                exact ⟨(loseC c, -1, ep, false), (by first | exact ⟨by omega, hO.lose, heq, rfl, rfl, fun h => absurd rfl h⟩ | (dsimp only; exact ⟨by omega, hO.lose, heq, rfl, rfl, fun h => absurd rfl h⟩)), ⟨⟨rfl, rfl, rfl, rfl, rfl, rfl, trivial⟩, rfl, rfl⟩, ⟨_, (take1 at0 (take1 (atS at0) take0))⟩⟩
              · skip
                refine WP.skip <| ?_  -- cutend
                exact ⟨(c, whom, ep, up), (by first | exact ⟨by omega, hU⟩ | (dsimp only; exact ⟨by omega, hU⟩)), ⟨⟨rfl, rfl, rfl, rfl, rfl, rfl, trivial⟩, rfl, rfl⟩, ⟨_, (take1 (atS at0) (take1 (atS at0) take0))⟩⟩
        · skip
          obtain ⟨c2, whom2, ep2, up2⟩ := s
          obtain ⟨hep2, hU2⟩ := hinv
          dsimp only at hep2 hU2 ⊢
          have hst2 := hU2.ok.state
          have hpar := hU2.par
          have hwq2 := hU2.whom
          refine WP.seq <| WP.region <| v0 (S0.move rfl) rfl <| ?_  -- op t102 := call F23{(*rivulet/attach.Child).Parent}(t101)
          refine vcd (S1.callF rfl (parent_spec c2) (take1 at0 take0)) rfl ?_
          refine v0 (S0.move rfl) rfl <| v0 (S0.extract rfl rfl) rfl <| v0 (S0.extract rfl rfl) rfl <| v0 (S0.assign rfl) rfl <| v0 (S0.assign rfl) rfl <| vE <| WP.seq <| WP.region <| v0 (S0.move rfl) rfl <| v0 (S0.move rfl) rfl <| v0 (S0.cmp rfl rfl rfl) rfl <| v0 (S0.cmpB rfl rfl rfl) rfl <| v0 (S0.move rfl) rfl <| ?_  -- guard t109 (wants False) at t110 := move t15 [if #4=False]
          have e1 : decide (0 ≤ whom2) = !decide (c2.state = 0) := by
            rw [hwq2]
            by_cases h0 : c2.state = 0
            · simp [h0]
            · have := hpar h0; simp [h0, this]
          refine csFh (t := 109) rfl ((by rw [e1]; simp)) ?_
          refine gT rfl <| v0 (S0.move rfl) rfl <| gT rfl <| v0 (S0.move rfl) rfl <| ?_  -- guard t111 (wants True) at t112 := move t14 [if #6=True]
          first | refine csP (t := 111) rfl (fun hs0 => ?_) (fun hs0 => ?_) | refine csN (t := 111) rfl (fun hs0 => ?_) (fun hs0 => ?_) | refine cs (t := 111) rfl (fun hs0 => ?_) (fun hs0 => ?_)
          · skip
            refine gT rfl <| v0 (S0.move rfl) rfl <| gT rfl <| v0 (S0.move rfl) rfl <| gT rfl <| v0 (S0.cmp rfl rfl rfl) rfl <| gT rfl <| v0 (S0.pickT rfl rfl) rfl <| v0 (S0.pickF rfl rfl) rfl <| v0 (S0.move rfl) rfl <| ?_  -- guard t117 (wants False) at t118 := move t3 [if #12=False]
            refine csFh (t := 117) rfl ((by rw [hwq2, if_neg (by simpa using hs0)]; simp)) ?_
            refine gT rfl <| v0 (S0.move rfl) rfl <| ?_  -- op t119 := call F24{(*rivulet/attach.Child).State}(t118) [if #12=False]
            refine gT rfl <| vcd (S1.callF rfl (state_spec c2) (take1 at0 take0)) rfl ?_
            refine gT rfl <| v0 (S0.cmp rfl rfl rfl) rfl <| gT rfl <| v0 (S0.move rfl) rfl <| gT rfl <| v0 (S0.cmpB rfl rfl rfl) rfl <| v0 (S0.pickF rfl rfl) rfl <| v0 (S0.move rfl) rfl <| ?_  -- guard t124 (wants False) at t125 := move t3 [if #19=False]
            refine csFh (t := 124) rfl ((by rw [hU2.up]; simp)) ?_
            refine gT rfl <| v0 (S0.move rfl) rfl <| ?_  -- op t126 := call F25{(*rivulet/attach.Child).Epoch}(t125) [if #19=False]
            refine gT rfl <| vcd (S1.callF rfl (epoch_spec c2) (take1 at0 take0)) rfl ?_
            refine gT rfl <| v0 (S0.move rfl) rfl <| gT rfl <| v0 (S0.cmp rfl rfl rfl) rfl <| v0 (S0.pickF rfl rfl) rfl <| vE <| ?_  -- cond
            refine WP.condFh rfl ((by rw [hU2.ep]; simp)) ?_
            refine WP.skip <| WP.region <| v0 (S0.move rfl) rfl <| v0 (S0.ari rfl rfl rfl (wrap_i64 (by omega))) rfl <| v0 (S0.assign rfl) rfl <| vE <| ?_  -- roundend
            exact ⟨(i + 1, c2, whom2, ep2, up2), (by first | exact ⟨by omega, by omega, hU2⟩ | (dsimp only; exact ⟨by omega, by omega, hU2⟩)), (show 80 - (i + 1) < 80 - i by omega), ⟨⟨rfl, rfl, rfl, rfl, rfl, rfl, trivial⟩, rfl, rfl⟩, ⟨_, (take1 at0 (take1 at0 take0))⟩⟩
          · skip
            refine gF rfl rfl <| gF rfl rfl <| gF rfl rfl <| gT rfl <| v0 (S0.pickF rfl rfl) rfl <| v0 (S0.pickF rfl rfl) rfl <| v0 (S0.move rfl) rfl <| gT rfl <| v0 (S0.move rfl) rfl <| ?_  -- op t119 := call F24{(*rivulet/attach.Child).State}(t118) [if #12=False]
            refine gT rfl <| vcd (S1.callF rfl (state_spec c2) (take1 at0 take0)) rfl ?_
            refine gT rfl <| v0 (S0.cmp rfl rfl rfl) rfl <| gT rfl <| v0 (S0.move rfl) rfl <| gT rfl <| v0 (S0.cmpB rfl rfl rfl) rfl <| v0 (S0.pickF rfl rfl) rfl <| v0 (S0.move rfl) rfl <| ?_  -- guard t124 (wants False) at t125 := move t3 [if #19=False]
            refine csFh (t := 124) rfl ((by rw [hU2.up]; simp)) ?_
            refine gT rfl <| v0 (S0.move rfl) rfl <| ?_  -- op t126 := call F25{(*rivulet/attach.Child).Epoch}(t125) [if #19=False]
            refine gT rfl <| vcd (S1.callF rfl (epoch_spec c2) (take1 at0 take0)) rfl ?_
            refine gT rfl <| v0 (S0.move rfl) rfl <| gT rfl <| v0 (S0.cmp rfl rfl rfl) rfl <| v0 (S0.pickF rfl rfl) rfl <| vE <| ?_  -- cond
            refine WP.condFh rfl ((by rw [hU2.ep]; simp)) ?_
            refine WP.skip <| WP.region <| v0 (S0.move rfl) rfl <| v0 (S0.ari rfl rfl rfl (wrap_i64 (by omega))) rfl <| v0 (S0.assign rfl) rfl <| vE <| ?_  -- roundend
            exact ⟨(i + 1, c2, whom2, ep2, up2), (by first | exact ⟨by omega, by omega, hU2⟩ | (dsimp only; exact ⟨by omega, by omega, hU2⟩)), (show 80 - (i + 1) < 80 - i by omega), ⟨⟨rfl, rfl, rfl, rfl, rfl, rfl, trivial⟩, rfl, rfl⟩, ⟨_, (take1 at0 (take1 at0 take0))⟩⟩
      · skip
        refine WP.exit <| ?_  -- cutend
        exact ⟨0, (by first | exact trivial | (dsimp only; exact trivial)), ⟨⟨rfl, trivial⟩, rfl, rfl⟩, ⟨_, (take1 (atS at0) take0)⟩⟩
    · skip
      refine gF rfl rfl <| gF rfl rfl <| v0 (S0.pickF rfl rfl) rfl <| vE <| WP.condF rfl <| WP.exit <| ?_  -- cutend
      exact ⟨0, (by first | exact trivial | (dsimp only; exact trivial)), ⟨⟨rfl, trivial⟩, rfl, rfl⟩, ⟨_, (take1 (atS at0) take0)⟩⟩
  · skip
    refine WP.seq <| WP.region <| ?_  -- op t130 := call F31{rivulet/rivuletlaw17.fixed}()
    refine vc (S1.callF rfl (fixed_spec) take0) rfl ?_
    rintro _ _ ⟨rfl, rfl⟩
    refine app ?_
    refine v0 (S0.assign rfl) rfl <| vE <| WP.ret <| ?_  -- ret
    refine r1 rfl rfl ?_
    exact ⟨rfl, rfl⟩
end Go.Proofs.Ytjglpmaedphbnaa
