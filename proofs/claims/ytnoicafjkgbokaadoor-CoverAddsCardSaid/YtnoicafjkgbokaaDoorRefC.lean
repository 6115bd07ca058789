import Derived.Test.YtnoicafjkgbokaaDoorRefB
namespace Go.Proofs.YtnoicafjkgbokaaDoor
open Go

theorem rholds_spec {v : Value} {l : List Str} {c : List Blk} {t : Str} (hr : RdS v l c) (hx : ∀ x ∈ l, x.length ≤ 1000) (ht : t.length ≤ 1000) (hl : l.length ≤ 1000) : FN Tryd.prog 22 [v, sv t] [c] (is (.bool (holdsS l t)) [c]) := by
  obtain ⟨a, cap, rfl, hcap, hr⟩ := hr
  refine FN.intro 18 [(0, .slice a l.length cap), (1, sv t)] Tryd.func22 rfl (enters Tryd.func22 (by kernel_rfl) rfl) Tryd.ntmps22 rfl rfl ?_
  refine WP.seq <| WP.region <| v0 (S0.assign rfl) rfl <| vE <| WP.seq <| WP.seq <| WP.region <| v0 (S0.assign rfl) rfl <| vE <| WP.block <| ?_  -- Code.loop
  refine WP.loop (fun i : Nat => i ≤ l.length ∧ ∀ j y, j < i → l[j]? = some y → coversS y t = false) (fun i : Nat => [(0, .slice a l.length cap), (1, sv t), (5, .int .i64 (i : Int))]) (fun i : Nat => [c]) (fun i : Nat => l.length - i) (0) (⟨Nat.zero_le _, fun j y hj => by omega⟩) ⟨rfl, rfl, rfl, trivial⟩ ⟨_, (take1 at0 take0)⟩ (fun i hinv => ?_) 
  obtain ⟨hi, hno⟩ := hinv
  refine WP.seq <| WP.seq <| WP.region <| v0 (S0.move rfl) rfl <| v0 (S0.move rfl) rfl <| v0 (S0.lenSl rfl) rfl <| v0 (S0.cmp rfl rfl rfl) rfl <| vE <| ?_  -- cond
  first | refine WP.condP rfl (fun h1 => ?_) (fun h1 => ?_) | refine WP.condN rfl (fun h1 => ?_) (fun h1 => ?_) | refine WP.cond rfl (fun h1 => ?_) (fun h1 => ?_)
  · skip
    have hlt : i < l.length := by omega
    rcases hr with e | ⟨b1, o1, L1, U1, fz1, rfl, hm1, he1⟩
    · rw [e] at hlt; simp at hlt
    have : HasC c b1 (.cells ⟨L1⟩ U1 fz1) := ⟨hm1⟩
    have hg : l[i]? = some l[i] := by simp [hlt]
    have hxl := hx _ (List.getElem_mem hlt)
    generalize l[i] = x at hg hxl
    have hxe := he1 i x hg
    skip
    refine WP.skip <| WP.seq <| WP.block <| WP.seq <| WP.region <| v0 (S0.move rfl) rfl <| v0 (S0.move rfl) rfl <| ?_  -- op t14 := indexAddr 22 t12 t13
    refine v0 (S0.indexO1 rfl rfl hlt) rfl <| ?_
    refine v0 (S0.load rfl (rdS_get hxe)) rfl <| ?_
    refine v0 (S0.move rfl) rfl <| ?_  -- op t17 := call F24{rivulet/rivuletref03.Covers}(t15, t16)
    refine vcd (S1.callF rfl (rcovers_spec (show x.length ≤ 100000 by omega) (show t.length ≤ 100000 by omega)) take0) rfl ?_
    refine vE <| ?_  -- cond
    first | refine WP.condP rfl (fun h2 => ?_) (fun h2 => ?_) | refine WP.condN rfl (fun h2 => ?_) (fun h2 => ?_) | refine WP.cond rfl (fun h2 => ?_) (fun h2 => ?_)
    · skip
      refine WP.seq <| WP.region <| v0 (S0.assign rfl) rfl <| vE <| WP.ret <| ?_  -- ret
      refine r1 rfl rfl ⟨?_, rfl⟩
      exact congrArg Value.bool (show holdsS l t = true from List.any_eq_true.2 ⟨x, List.mem_of_getElem? hg, h2⟩).symm
    · skip
      refine WP.skip <| WP.region <| v0 (S0.move rfl) rfl <| v0 (S0.ari rfl rfl rfl (wrap_i64 (by omega))) rfl <| v0 (S0.assign rfl) rfl <| vE <| ?_  -- roundend
      exact ⟨i + 1, (by first | exact ⟨hlt, below_at (p := fun _ y => coversS y t = false) hno hg (by simpa using h2)⟩ | (dsimp only; exact ⟨hlt, below_at (p := fun _ y => coversS y t = false) hno hg (by simpa using h2)⟩)), (by omega), ⟨⟨rfl, rfl, rfl, trivial⟩, rfl, rfl⟩, ⟨_, (take1 at0 take0)⟩⟩
  · skip
    refine WP.exit <| WP.seq <| WP.region <| v0 (S0.assign rfl) rfl <| vE <| WP.ret <| ?_  -- ret
    refine r1 rfl rfl ⟨?_, rfl⟩
    exact congrArg Value.bool (show holdsS l t = false from any_upto fun j y hj hy => hno j y (by omega) hy).symm
theorem rleast_spec {v : Value} {l : List Str} {c : List Blk} (hr : RdS v l c) (hx : ∀ x ∈ l, x.length ≤ 1000) (hl : l.length ≤ 1000) : FN Tryd.prog 13 [v] [c] (fun u h => ∃ row, IsSl 9 1 u (strs (leastS l)) row ∧ h = [row, c]) := by
  have hcs := clean_sorted l
  have hcl := clean_len l
  have hcx : ∀ x ∈ cleanS l, x.length ≤ 1000 := fun x h => hx x (mem_clean.1 h).1
  rw [leastS]
  refine FN.intro 68 [(0, v)] Tryd.func13 rfl (enters Tryd.func13 (by kernel_rfl) rfl) Tryd.ntmps13 rfl rfl ?_
  refine WP.seq <| WP.region <| v0 (S0.assign rfl) rfl <| vE <| WP.seq <| WP.region <| v0 (S0.move rfl) rfl <| ?_  -- op t9 := call F26{rivulet/rivuletref05.Clean}(t8)
  refine vc (S1.callF rfl (rclean_spec hr hx hl) (take1 at0 take0)) rfl ?_
  rintro u _ ⟨crow, hsc, rfl⟩
  refine app ?_
  generalize cleanS l = C at hcs hcl hcx hsc
  obtain ⟨a, cap, rfl, -, hrow⟩ := hsc.strsE
  refine vnv (S1.buildSlice rfl (qs := []) rfl rfl) rfl fun b10 => v0 (S0.assign rfl) rfl <| v0 (S0.assign rfl) rfl <| vE <| WP.seq <| WP.seq <| WP.region <| v0 (S0.assign rfl) rfl <| vE <| WP.block <| ?_  -- Code.loop
  refine WP.loop (fun st : Nat × Value × List Blk => st.1 ≤ C.length ∧ IsSl 9 1 st.2.1 (strs ((C.take st.1).filter fun f => !C.any fun g => domS g f)) st.2.2) (fun st : Nat × Value × List Blk => [(3, .slice a C.length cap), (4, st.2.1), (5, .int .i64 (st.1 : Int))]) (fun st : Nat × Value × List Blk => [st.2.2, crow, c]) (fun st : Nat × Value × List Blk => C.length - st.1) ((0, _, [(b10, .cells ⟨[]⟩ 9 (0, 0))])) (⟨Nat.zero_le _, IsSl.row (n := 0) (c := 0) (l := []) (sp := []) rfl rfl (Nat.le_refl _)⟩) ⟨rfl, rfl, rfl, trivial⟩ ⟨_, (take1 at0 (take1 at0 (take1 at0 take0)))⟩ (fun st hinv => ?_) 
  obtain ⟨i, ov, row⟩ := st
  obtain ⟨hi, hsl⟩ := hinv
  dsimp only at hi hsl ⊢
  refine WP.seq <| WP.seq <| WP.region <| v0 (S0.move rfl) rfl <| v0 (S0.move rfl) rfl <| v0 (S0.lenSl rfl) rfl <| v0 (S0.cmp rfl rfl rfl) rfl <| vE <| ?_  -- cond
  first | refine WP.condP rfl (fun h1 => ?_) (fun h1 => ?_) | refine WP.condN rfl (fun h1 => ?_) (fun h1 => ?_) | refine WP.cond rfl (fun h1 => ?_) (fun h1 => ?_)
  · skip
    have hlt : i < C.length := by omega
    rcases hrow with ⟨e, -⟩ | ⟨b1, sp1, rfl, rfl, hsp1⟩
    · rw [e] at hlt; simp at hlt
    have hg : C[i]? = some C[i] := by simp [hlt]
    have hxl := hcx _ (List.getElem_mem hlt)
    generalize C[i] = x at hg hxl
    have htk : C.take (i + 1) = C.take i ++ [x] := by rw [List.take_add_one, hg]; rfl
    have hfl := List.length_filter_le (fun f => !C.any fun g => domS g f) (C.take i)
    have htl : (C.take i).length ≤ C.length := by simp; omega
    refine WP.skip <| WP.seq <| WP.block <| WP.seq <| WP.region <| v0 (S0.assign rfl) rfl <| vE <| WP.seq <| WP.seq <| WP.region <| v0 (S0.assign rfl) rfl <| vE <| WP.block <| ?_  -- Code.loop
    refine WP.loop (fun st : Nat × Bool => st.1 ≤ C.length ∧ (st.2 = true → ∀ j y, j < st.1 → C[j]? = some y → domS y x = false) ∧ (st.2 = false → (C.any fun g => domS g x) = true)) (fun st : Nat × Bool => [(3, .slice (some ⟨b1, 0, none⟩) C.length cap), (4, ov), (5, .int .i64 (i : Int)), (6, .bool st.2), (7, .int .i64 (st.1 : Int))]) (fun st : Nat × Bool => [row, [(b1, .cells ⟨strs C ++ sp1⟩ 9 (0, 0))], c]) (fun st : Nat × Bool => C.length - st.1) ((0, true)) (⟨Nat.zero_le _, fun _ j y hj => by omega, fun e => by cases e⟩) ⟨rfl, rfl, rfl, rfl, rfl, trivial⟩ ⟨_, (take1 at0 (take1 at0 (take1 at0 take0)))⟩ (fun st hinv => ?_) 
    obtain ⟨k, stays⟩ := st
    obtain ⟨hk, hno, hyes⟩ := hinv
    dsimp only at hk hno hyes ⊢
    refine WP.seq <| WP.seq <| WP.region <| v0 (S0.move rfl) rfl <| v0 (S0.move rfl) rfl <| v0 (S0.lenSl rfl) rfl <| v0 (S0.cmp rfl rfl rfl) rfl <| vE <| ?_  -- cond
    first | refine WP.condP rfl (fun h2 => ?_) (fun h2 => ?_) | refine WP.condN rfl (fun h2 => ?_) (fun h2 => ?_) | refine WP.cond rfl (fun h2 => ?_) (fun h2 => ?_)
    · skip
      have hlt2 : k < C.length := by omega
      have hy : C[k]? = some C[k] := by simp [hlt2]
      have hyl := hcx _ (List.getElem_mem hlt2)
      generalize C[k] = y at hy hyl
      obtain ⟨hd1, -⟩ := sorted_at hcs hg hy
      have hgo : domS y x = false → stays = true → ∀ j z, j < k + 1 → C[j]? = some z → domS z x = false := fun e es => below_at (p := fun _ z => domS z x = false) (hno es) hy e
      have hany : domS y x = true → (C.any fun g => domS g x) = true := fun e => List.any_eq_true.2 ⟨y, List.mem_of_getElem? hy, e⟩
      skip
      refine WP.skip <| WP.seq <| WP.block <| WP.seq <| WP.seq <| WP.drawP [(0, none), (1, none), (2, none), (3, none), (4, none), (5, none), (6, none), (7, none), (8, none), (9, none), (10, none), (11, none), (12, none), (13, none), (14, none)] mixed (by kernel_rfl) (by kernel_rfl) (by kernel_rfl) (take1 (atS at0) take0) <| w0 rfl rfl rfl (S0.move rfl) rfl <| w0 rfl rfl rfl (S0.move rfl) rfl <| w0 rfl rfl rfl (S0.cmp rfl rfl rfl) rfl <| w0 rfl rfl rfl (S0.move rfl) rfl <| ?_  -- guard t26 (wants False) at t27 := move t3 [if #3=False]
      first | refine wcsP (t := 26) rfl (fun h3 => ?_) (fun h3 => ?_) | refine wcsN (t := 26) rfl (fun h3 => ?_) (fun h3 => ?_) | refine wcs (t := 26) rfl (fun h3 => ?_) (fun h3 => ?_)
      · skip
        have hki : k = i := by omega
        have hyx : y = x := by rw [hki] at hy; rw [hy] at hg; cases hg; rfl
        refine wF rfl rfl rfl rfl <| wF rfl rfl rfl rfl <| wF rfl rfl rfl rfl <| wF rfl rfl rfl rfl <| wF rfl rfl rfl rfl <| wF rfl rfl rfl rfl <| wF rfl rfl rfl rfl <| wF rfl rfl rfl rfl <| wF rfl rfl rfl rfl <| wF rfl rfl rfl rfl <| w0 rfl rfl rfl (S0.pickT rfl rfl) rfl <| wE <| WP.condT rfl <| WP.exit <| WP.region <| v0 (S0.move rfl) rfl <| v0 (S0.ari rfl rfl rfl (wrap_i64 (by omega))) rfl <| v0 (S0.assign rfl) rfl <| vE <| ?_  -- roundend
        exact ⟨(k + 1, stays), (by first | exact ⟨hlt2, hgo (by rw [hyx]; exact dom_irr x), hyes⟩ | (dsimp only; exact ⟨hlt2, hgo (by rw [hyx]; exact dom_irr x), hyes⟩)), (show C.length - (k + 1) < C.length - k by omega), ⟨⟨rfl, rfl, rfl, rfl, rfl, trivial⟩, rfl, rfl⟩, ⟨_, (take1 (atS at0) (take1 at0 (take1 at0 take0)))⟩⟩
      · skip
        have hki : ¬ k = i := by omega
        have hyx : y ≠ x := fun e => by simp [hki, e] at hd1
        refine w0 rfl rfl rfl (S0.move rfl) rfl <| w0 rfl rfl rfl (S0.move rfl) rfl <| ?_  -- op t29 := indexAddr 22 t27 t28 [if #3=False]
        refine w0 rfl rfl rfl (S0.index1 rfl rfl hlt2) rfl <| ?_
        refine w0 rfl rfl rfl (S0.load rfl (strs_get hy)) rfl <| ?_
        refine w0 rfl rfl rfl (S0.move rfl) rfl <| w0 rfl rfl rfl (S0.move rfl) rfl <| ?_  -- op t33 := indexAddr 22 t31 t32 [if #3=False]
        refine w0 rfl rfl rfl (S0.index1 rfl rfl hlt) rfl <| ?_
        refine w0 rfl rfl rfl (S0.load rfl (strs_get hg)) rfl <| ?_
        -- (nothing to walk: op t35 := call F24{rivulet/rivuletref03.Covers}(t30, t34) [if #3=False])
        refine wcd rfl rfl rfl rfl (S1.callF rfl (rcovers_spec (show y.length ≤ 100000 by omega) (show x.length ≤ 100000 by omega)) take0) rfl ?_
        refine w0 rfl rfl rfl (S0.not rfl) rfl <| w0 rfl rfl rfl (S0.pickF rfl rfl) rfl <| wE <| ?_  -- cond
        first | refine WP.condP rfl (fun h4 => ?_) (fun h4 => ?_) | refine WP.condN rfl (fun h4 => ?_) (fun h4 => ?_) | refine WP.cond rfl (fun h4 => ?_) (fun h4 => ?_)
        · skip
          have h4' : coversS y x = false := by simpa using h4
          refine WP.exit <| WP.region <| v0 (S0.move rfl) rfl <| v0 (S0.ari rfl rfl rfl (wrap_i64 (by omega))) rfl <| v0 (S0.assign rfl) rfl <| vE <| ?_  -- roundend
          exact ⟨(k + 1, stays), (by first | exact ⟨hlt2, hgo (by simp [domS, h4']), hyes⟩ | (dsimp only; exact ⟨hlt2, hgo (by simp [domS, h4']), hyes⟩)), (show C.length - (k + 1) < C.length - k by omega), ⟨⟨rfl, rfl, rfl, rfl, rfl, trivial⟩, rfl, rfl⟩, ⟨_, (take1 (atS at0) (take1 at0 (take1 at0 take0)))⟩⟩
        · skip
          have h4' : coversS y x = true := by simpa using h4
          skip
          refine WP.skip <| WP.seq <| WP.drawP [(0, none), (1, none), (2, none), (3, none), (4, none), (5, none), (6, none), (7, none), (8, none), (9, none), (10, none), (11, none), (12, none), (13, none), (14, none), (15, none), (16, none), (17, none), (18, none), (19, none), (20, none)] mixed (by kernel_rfl) (by kernel_rfl) (by kernel_rfl) (take1 at0 take0) <| w0 rfl rfl rfl (S0.move rfl) rfl <| w0 rfl rfl rfl (S0.move rfl) rfl <| ?_  -- op t40 := indexAddr 22 t38 t39
          refine w0 rfl rfl rfl (S0.index1 rfl rfl hlt) rfl <| ?_
          refine w0 rfl rfl rfl (S0.load rfl (strs_get hg)) rfl <| ?_
          refine w0 rfl rfl rfl (S0.move rfl) rfl <| w0 rfl rfl rfl (S0.move rfl) rfl <| ?_  -- op t44 := indexAddr 22 t42 t43
          refine w0 rfl rfl rfl (S0.index1 rfl rfl hlt2) rfl <| ?_
          refine w0 rfl rfl rfl (S0.load rfl (strs_get hy)) rfl <| ?_
          -- (nothing to walk: op t46 := call F24{rivulet/rivuletref03.Covers}(t41, t45))
          refine wcd rfl rfl rfl rfl (S1.callF rfl (rcovers_spec (show x.length ≤ 100000 by omega) (show y.length ≤ 100000 by omega)) take0) rfl ?_
          refine w0 rfl rfl rfl (S0.not rfl) rfl <| w0 rfl rfl rfl (S0.move rfl) rfl <| ?_  -- guard t48 (wants False) at t49 := move t3 [if #10=False]
          first | refine wcsP (t := 48) rfl (fun h5 => ?_) (fun h5 => ?_) | refine wcsN (t := 48) rfl (fun h5 => ?_) (fun h5 => ?_) | refine wcs (t := 48) rfl (fun h5 => ?_) (fun h5 => ?_)
          · skip
            have h5' : coversS x y = false := by simpa using h5
            refine wF rfl rfl rfl rfl <| wF rfl rfl rfl rfl <| wF rfl rfl rfl rfl <| wF rfl rfl rfl rfl <| wF rfl rfl rfl rfl <| wF rfl rfl rfl rfl <| wF rfl rfl rfl rfl <| wF rfl rfl rfl rfl <| wF rfl rfl rfl rfl <| w0 rfl rfl rfl (S0.pickT rfl rfl) rfl <| wE <| WP.condT rfl <| WP.region <| v0 (S0.assign rfl) rfl <| vE <| WP.region <| v0 (S0.move rfl) rfl <| v0 (S0.ari rfl rfl rfl (wrap_i64 (by omega))) rfl <| v0 (S0.assign rfl) rfl <| vE <| ?_  -- roundend
            exact ⟨(k + 1, false), (by first | exact ⟨hlt2, fun e => (by cases e), fun _ => hany (by simp [domS, hyx, h4', h5'])⟩ | (dsimp only; exact ⟨hlt2, fun e => (by cases e), fun _ => hany (by simp [domS, hyx, h4', h5'])⟩)), (show C.length - (k + 1) < C.length - k by omega), ⟨⟨rfl, rfl, rfl, rfl, rfl, trivial⟩, rfl, rfl⟩, ⟨_, (take1 (atS at0) (take1 at0 (take1 at0 take0)))⟩⟩
          · skip
            have h5' : coversS x y = true := by simpa using h5
            refine w0 rfl rfl rfl (S0.move rfl) rfl <| w0 rfl rfl rfl (S0.move rfl) rfl <| ?_  -- op t51 := indexAddr 22 t49 t50 [if #10=False]
            refine w0 rfl rfl rfl (S0.index1 rfl rfl hlt2) rfl <| ?_
            refine w0 rfl rfl rfl (S0.load rfl (strs_get hy)) rfl <| ?_
            refine w0 rfl rfl rfl (S0.move rfl) rfl <| w0 rfl rfl rfl (S0.move rfl) rfl <| ?_  -- op t55 := indexAddr 22 t53 t54 [if #10=False]
            refine w0 rfl rfl rfl (S0.index1 rfl rfl hlt) rfl <| ?_
            refine w0 rfl rfl rfl (S0.load rfl (strs_get hg)) rfl <| ?_
            -- (nothing to walk: op t57 := call F31{rivulet/rivuletref03.Less}(t52, t56) [if #10=False])
            refine wcd rfl rfl rfl rfl (S1.callF rfl (rless_spec (show y.length ≤ 100000 by omega) (show x.length ≤ 100000 by omega)) take0) rfl ?_
            refine w0 rfl rfl rfl (S0.pickF rfl rfl) rfl <| wE <| ?_  -- cond
            first | refine WP.condP rfl (fun h6 => ?_) (fun h6 => ?_) | refine WP.condN rfl (fun h6 => ?_) (fun h6 => ?_) | refine WP.cond rfl (fun h6 => ?_) (fun h6 => ?_)
            · skip
              refine WP.region <| v0 (S0.assign rfl) rfl <| vE <| WP.region <| v0 (S0.move rfl) rfl <| v0 (S0.ari rfl rfl rfl (wrap_i64 (by omega))) rfl <| v0 (S0.assign rfl) rfl <| vE <| ?_  -- roundend
              exact ⟨(k + 1, false), (by first | exact ⟨hlt2, fun e => (by cases e), fun _ => hany (by simp [domS, hyx, h4', h6])⟩ | (dsimp only; exact ⟨hlt2, fun e => (by cases e), fun _ => hany (by simp [domS, hyx, h4', h6])⟩)), (show C.length - (k + 1) < C.length - k by omega), ⟨⟨rfl, rfl, rfl, rfl, rfl, trivial⟩, rfl, rfl⟩, ⟨_, (take1 (atS at0) (take1 at0 (take1 at0 take0)))⟩⟩
            · skip
              refine WP.skip <| WP.region <| v0 (S0.move rfl) rfl <| v0 (S0.ari rfl rfl rfl (wrap_i64 (by omega))) rfl <| v0 (S0.assign rfl) rfl <| vE <| ?_  -- roundend
              exact ⟨(k + 1, stays), (by first | exact ⟨hlt2, hgo (by simp [domS, h5', h6]), hyes⟩ | (dsimp only; exact ⟨hlt2, hgo (by simp [domS, h5', h6]), hyes⟩)), (show C.length - (k + 1) < C.length - k by omega), ⟨⟨rfl, rfl, rfl, rfl, rfl, trivial⟩, rfl, rfl⟩, ⟨_, (take1 (atS at0) (take1 at0 (take1 at0 take0)))⟩⟩
    · skip
      refine WP.exit <| WP.seq <| WP.region <| v0 (S0.move rfl) rfl <| vE <| ?_  -- cond
      skip
      cases stays with
      | true =>
        skip
        have hany : C.any (fun g => domS g x) = false := any_upto fun j y hj hy => hno rfl j y (by omega) hy
        refine WP.condTh rfl (rfl) ?_
        refine WP.region <| v0 (S0.move rfl) rfl <| v0 (S0.move rfl) rfl <| v0 (S0.move rfl) rfl <| ?_  -- op t63 := indexAddr 22 t61 t62
        refine v0 (S0.index1 rfl rfl hlt) rfl <| ?_
        refine v0 (S0.load rfl (strs_get hg)) rfl <| ?_
        refine vnv (S1.buildSlice rfl (qs := [(0, _)]) rfl rfl) rfl fun b65 => ?_  -- op t66 := append(t60, t65) :[22, 22]
        refine ve (S1.appendL rfl hsl rfl rfl (atS at0) rfl rfl (by rw [strs_len]; simp; omega)) rfl ?_
        rintro v2 _ ⟨row2, hsl2, rfl⟩
        refine v0 (S0.assign rfl) rfl <| vE <| WP.region <| v0 (S0.move rfl) rfl <| v0 (S0.ari rfl rfl rfl (wrap_i64 (by omega))) rfl <| v0 (S0.assign rfl) rfl <| vE <| ?_  -- roundend
        exact ⟨(i + 1, v2, row2), (by first | exact ⟨hlt, by rw [htk, List.filter_append]; simpa [hany, strs] using hsl2⟩ | (dsimp only; exact ⟨hlt, by rw [htk, List.filter_append]; simpa [hany, strs] using hsl2⟩)), (show C.length - (i + 1) < C.length - i by omega), ⟨⟨rfl, rfl, rfl, trivial⟩, rfl, rfl⟩, ⟨_, (take1 at0 (take1 (atS at0) (take1 (atS at0) take0)))⟩⟩
      | false =>
        skip
        have hany := hyes rfl
        refine WP.condFh rfl (rfl) ?_
        refine WP.skip <| WP.region <| v0 (S0.move rfl) rfl <| v0 (S0.ari rfl rfl rfl (wrap_i64 (by omega))) rfl <| v0 (S0.assign rfl) rfl <| vE <| ?_  -- roundend
        exact ⟨(i + 1, ov, row), (by first | exact ⟨hlt, by rw [htk, List.filter_append]; simpa [hany] using hsl⟩ | (dsimp only; exact ⟨hlt, by rw [htk, List.filter_append]; simpa [hany] using hsl⟩)), (show C.length - (i + 1) < C.length - i by omega), ⟨⟨rfl, rfl, rfl, trivial⟩, rfl, rfl⟩, ⟨_, (take1 at0 (take1 at0 (take1 at0 take0)))⟩⟩
  · skip
    have e : i = C.length := by omega
    subst e
    rw [List.take_length] at hsl
    refine WP.exit <| WP.seq <| WP.region <| v0 (S0.move rfl) rfl <| v0 (S0.assign rfl) rfl <| vE <| WP.ret <| ?_  -- ret
    refine Leaves.drop (take1 at0 (take1 (atS at0) take0)) ?_
    refine r1 rfl rfl ?_
    exact ⟨row, hsl, rfl⟩
theorem rwithout_spec {lv mv : Value} {l m : List Str} {lc mc : List Blk} (hl : RdS lv l lc) (hm : RdS mv m mc) (hll : l.length ≤ 1000000) (hml : m.length ≤ 1000000) :
    FN Tryd.prog 25 [lv, mv] [lc, mc] (fun u h => ∃ row, IsSl 9 1 u (strs (withoutS l m)) row ∧ h = [row, lc, mc]) := by
  obtain ⟨la, lcap, rfl, -, hrl⟩ := hl
  obtain ⟨ma, mcap, rfl, -, hrm⟩ := hm
  refine FN.intro 44 [(0, .slice la l.length lcap), (1, .slice ma m.length mcap)] Tryd.func25 rfl (enters Tryd.func25 (by kernel_rfl) rfl) Tryd.ntmps25 rfl rfl ?_
  refine WP.seq <| WP.region <| v0 (S0.assign rfl) rfl <| vE <| WP.seq <| WP.region <| vnv (S1.buildSlice rfl (qs := []) rfl rfl) rfl fun b9 => v0 (S0.assign rfl) rfl <| vE <| WP.seq <| WP.seq <| WP.region <| v0 (S0.assign rfl) rfl <| vE <| WP.block <| ?_  -- Code.loop
  refine WP.loop (fun st : Nat × Value × List Blk => st.1 ≤ l.length ∧ IsSl 9 1 st.2.1 (strs (withoutS (l.take st.1) m)) st.2.2) (fun st : Nat × Value × List Blk => [(0, .slice la l.length lcap), (1, .slice ma m.length mcap), (5, st.2.1), (6, .int .i64 (st.1 : Int))]) (fun st : Nat × Value × List Blk => [st.2.2, lc, mc]) (fun st : Nat × Value × List Blk => l.length - st.1) ((0, _, [(b9, .cells ⟨[]⟩ 9 (0, 0))])) (⟨Nat.zero_le _, IsSl.row (n := 0) (c := 0) (l := []) (sp := []) rfl rfl (Nat.le_refl _)⟩) ⟨rfl, rfl, rfl, rfl, trivial⟩ ⟨_, (take1 at0 (take1 at0 (take1 at0 take0)))⟩ (fun st hinv => ?_) 
  obtain ⟨i, ov, row⟩ := st
  obtain ⟨hi, hsl⟩ := hinv
  dsimp only at hi hsl ⊢
  refine WP.seq <| WP.seq <| WP.region <| v0 (S0.move rfl) rfl <| v0 (S0.move rfl) rfl <| v0 (S0.lenSl rfl) rfl <| v0 (S0.cmp rfl rfl rfl) rfl <| vE <| ?_  -- cond
  first | refine WP.condP rfl (fun h1 => ?_) (fun h1 => ?_) | refine WP.condN rfl (fun h1 => ?_) (fun h1 => ?_) | refine WP.cond rfl (fun h1 => ?_) (fun h1 => ?_)
  · skip
    have hlt : i < l.length := by omega
    rcases hrl with e | ⟨b1, o1, L1, U1, fz1, rfl, hm1, he1⟩
    · rw [e] at hlt; simp at hlt
    have : HasC lc b1 (.cells ⟨L1⟩ U1 fz1) := ⟨hm1⟩
    have hx : l[i]? = some l[i] := by simp [hlt]
    generalize l[i] = x at hx
    have hxe := he1 i x hx
    have htk : l.take (i + 1) = l.take i ++ [x] := by rw [List.take_add_one, hx]; rfl
    have hfl := List.length_filter_le (fun x => !decide (x ∈ m)) (l.take i)
    have htl : (l.take i).length ≤ l.length := by simp; omega
    refine WP.skip <| WP.seq <| WP.block <| WP.seq <| WP.region <| v0 (S0.assign rfl) rfl <| vE <| WP.seq <| WP.seq <| WP.region <| v0 (S0.assign rfl) rfl <| vE <| WP.block <| ?_  -- Code.loop
    refine WP.loop (fun st : Nat × Bool => st.1 ≤ m.length ∧ st.2 = decide (x ∈ m.take st.1)) (fun st : Nat × Bool => [(0, .slice (some ⟨b1, o1, none⟩) l.length lcap), (1, .slice ma m.length mcap), (5, ov), (6, .int .i64 (i : Int)), (7, .bool st.2), (8, .int .i64 (st.1 : Int))]) (fun st : Nat × Bool => [row, lc, mc]) (fun st : Nat × Bool => m.length - st.1) ((0, false)) (⟨Nat.zero_le _, by simp⟩) ⟨rfl, rfl, rfl, rfl, rfl, rfl, trivial⟩ ⟨_, (take1 at0 (take1 at0 (take1 at0 take0)))⟩ (fun st hinv => ?_) 
    obtain ⟨k, inn⟩ := st
    obtain ⟨hk, hinn⟩ := hinv
    dsimp only at hk hinn ⊢
    refine WP.seq <| WP.seq <| WP.region <| v0 (S0.move rfl) rfl <| v0 (S0.move rfl) rfl <| v0 (S0.lenSl rfl) rfl <| v0 (S0.cmp rfl rfl rfl) rfl <| vE <| ?_  -- cond
    first | refine WP.condP rfl (fun h2 => ?_) (fun h2 => ?_) | refine WP.condN rfl (fun h2 => ?_) (fun h2 => ?_) | refine WP.cond rfl (fun h2 => ?_) (fun h2 => ?_)
    · skip
      have hlt2 : k < m.length := by omega
      rcases hrm with e | ⟨b2, o2, L2, U2, fz2, rfl, hm2, he2⟩
      · rw [e] at hlt2; simp at hlt2
      have : HasC mc b2 (.cells ⟨L2⟩ U2 fz2) := ⟨hm2⟩
      have hy : m[k]? = some m[k] := by simp [hlt2]
      generalize m[k] = y at hy
      have hye := he2 k y hy
      have hmk : m.take (k + 1) = m.take k ++ [y] := by rw [List.take_add_one, hy]; rfl
      skip
      refine WP.skip <| WP.seq <| WP.block <| WP.drawP [(0, none), (1, none), (2, none), (3, none), (4, none), (5, none), (6, none), (7, none), (8, none), (9, none), (10, none), (11, none), (12, none)] mixed (by kernel_rfl) (by kernel_rfl) (by kernel_rfl) (take1 (atS at0) (take1 (atS at0) take0)) <| w0 rfl rfl rfl (S0.move rfl) rfl <| w0 rfl rfl rfl (S0.move rfl) rfl <| ?_  -- guard t23 (wants False) at t24 := move t0 [if #1=False]
      skip
      cases inn with
      | true =>
        skip
        have hmem : x ∈ m.take k := of_decide_eq_true hinn.symm
        refine wcsTh (t := 23) rfl (rfl) ?_
        refine wF rfl rfl rfl rfl <| wF rfl rfl rfl rfl <| wF rfl rfl rfl rfl <| wF rfl rfl rfl rfl <| wF rfl rfl rfl rfl <| wF rfl rfl rfl rfl <| wF rfl rfl rfl rfl <| wF rfl rfl rfl rfl <| wF rfl rfl rfl rfl <| w0 rfl rfl rfl (S0.pickT rfl rfl) rfl <| w0 rfl rfl rfl (S0.assign rfl) rfl <| wE <| WP.region <| v0 (S0.move rfl) rfl <| v0 (S0.ari rfl rfl rfl (wrap_i64 (by omega))) rfl <| v0 (S0.assign rfl) rfl <| vE <| ?_  -- roundend
        exact ⟨(k + 1, true), (by first | exact ⟨hlt2, by simp [hmk, hmem]⟩ | (dsimp only; exact ⟨hlt2, by simp [hmk, hmem]⟩)), (show m.length - (k + 1) < m.length - k by omega), ⟨⟨rfl, rfl, rfl, rfl, rfl, rfl, trivial⟩, rfl, rfl⟩, ⟨_, (take1 (atS (atS at0)) (take1 at0 (take1 at0 take0)))⟩⟩
      | false =>
        skip
        have hmem : x ∉ m.take k := of_decide_eq_false hinn.symm
        refine wcsFh (t := 23) rfl (rfl) ?_
        refine w0 rfl rfl rfl (S0.move rfl) rfl <| w0 rfl rfl rfl (S0.move rfl) rfl <| ?_  -- op t26 := indexAddr 22 t24 t25 [if #1=False]
        refine w0 rfl rfl rfl (S0.indexO1 rfl rfl hlt) rfl <| ?_
        refine w0 rfl rfl rfl (S0.load rfl (rdS_get hxe)) rfl <| ?_
        refine w0 rfl rfl rfl (S0.move rfl) rfl <| w0 rfl rfl rfl (S0.move rfl) rfl <| ?_  -- op t30 := indexAddr 22 t28 t29 [if #1=False]
        refine w0 rfl rfl rfl (S0.indexO1 rfl rfl hlt2) rfl <| ?_
        refine w0 rfl rfl rfl (S0.load rfl (rdS_get hye)) rfl <| ?_
        refine w0 rfl rfl rfl (S0.cmpS rfl rfl rfl) rfl <| w0 rfl rfl rfl (S0.pickF rfl rfl) rfl <| w0 rfl rfl rfl (S0.assign rfl) rfl <| wE <| WP.region <| v0 (S0.move rfl) rfl <| v0 (S0.ari rfl rfl rfl (wrap_i64 (by omega))) rfl <| v0 (S0.assign rfl) rfl <| vE <| ?_  -- roundend
        exact ⟨(k + 1, decide (x = y)), (by first | exact ⟨hlt2, by simp [hmk, hmem]⟩ | (dsimp only; exact ⟨hlt2, by simp [hmk, hmem]⟩)), (show m.length - (k + 1) < m.length - k by omega), ⟨⟨rfl, rfl, rfl, rfl, rfl, rfl, trivial⟩, rfl, rfl⟩, ⟨_, (take1 (atS (atS at0)) (take1 at0 (take1 at0 take0)))⟩⟩
    · skip
      have hk' : m.take k = m := List.take_of_length_le (by omega)
      rw [hk'] at hinn
      subst hinn
      refine WP.exit <| WP.seq <| WP.region <| v0 (S0.move rfl) rfl <| v0 (S0.not rfl) rfl <| vE <| ?_  -- cond
      first | refine WP.condP rfl (fun h3 => ?_) (fun h3 => ?_) | refine WP.condN rfl (fun h3 => ?_) (fun h3 => ?_) | refine WP.cond rfl (fun h3 => ?_) (fun h3 => ?_)
      · skip
        have h3' : x ∉ m := by simpa using h3
        skip
        refine WP.region <| v0 (S0.move rfl) rfl <| v0 (S0.move rfl) rfl <| v0 (S0.move rfl) rfl <| ?_  -- op t39 := indexAddr 22 t37 t38
        refine v0 (S0.indexO1 rfl rfl hlt) rfl <| ?_
        refine v0 (S0.load rfl (rdS_get hxe)) rfl <| ?_
        refine vnv (S1.buildSlice rfl (qs := [(0, _)]) rfl rfl) rfl fun b41 => ?_  -- op t42 := append(t36, t41) :[22, 22]
        refine ve (S1.appendL rfl hsl rfl rfl (atS at0) rfl rfl (by rw [strs_len]; unfold withoutS; simp; omega)) rfl ?_
        rintro v2 _ ⟨row2, hsl2, rfl⟩
        refine v0 (S0.assign rfl) rfl <| vE <| WP.region <| v0 (S0.move rfl) rfl <| v0 (S0.ari rfl rfl rfl (wrap_i64 (by omega))) rfl <| v0 (S0.assign rfl) rfl <| vE <| ?_  -- roundend
        exact ⟨(i + 1, v2, row2), (by first | exact ⟨hlt, by rw [htk]; simpa [withoutS, h3', strs] using hsl2⟩ | (dsimp only; exact ⟨hlt, by rw [htk]; simpa [withoutS, h3', strs] using hsl2⟩)), (show l.length - (i + 1) < l.length - i by omega), ⟨⟨rfl, rfl, rfl, rfl, trivial⟩, rfl, rfl⟩, ⟨_, (take1 at0 (take1 (atS at0) (take1 (atS at0) take0)))⟩⟩
      · skip
        have h3' : x ∈ m := by simpa using h3
        refine WP.skip <| WP.region <| v0 (S0.move rfl) rfl <| v0 (S0.ari rfl rfl rfl (wrap_i64 (by omega))) rfl <| v0 (S0.assign rfl) rfl <| vE <| ?_  -- roundend
        exact ⟨(i + 1, ov, row), (by first | exact ⟨hlt, by rw [htk]; simpa [withoutS, h3'] using hsl⟩ | (dsimp only; exact ⟨hlt, by rw [htk]; simpa [withoutS, h3'] using hsl⟩)), (show l.length - (i + 1) < l.length - i by omega), ⟨⟨rfl, rfl, rfl, rfl, trivial⟩, rfl, rfl⟩, ⟨_, (take1 at0 (take1 at0 (take1 at0 take0)))⟩⟩
  · skip
    have e : i = l.length := by omega
    subst e
    rw [List.take_length] at hsl
    refine WP.exit <| WP.seq <| WP.region <| v0 (S0.move rfl) rfl <| v0 (S0.assign rfl) rfl <| vE <| WP.ret <| ?_  -- ret
    refine r1 rfl rfl ?_
    exact ⟨row, hsl, rfl⟩
theorem rdiff_spec {ov nv : Value} {l m : List Str} {oc nc : List Blk} (ho : RdS ov l oc) (hn : RdS nv m nc) (hox : ∀ x ∈ l, x.length ≤ 1000) (hol : l.length ≤ 1000) (hnx : ∀ x ∈ m, x.length ≤ 1000) (hnl : m.length ≤ 1000) :
    FN Tryd.prog 18 [ov, nv] [oc, nc] (fun u h => ∃ v1 v2 r1 r2, IsSl 9 1 v1 (strs (withoutS (cleanS m) (cleanS l))) r1 ∧ IsSl 9 1 v2 (strs (withoutS (cleanS l) (cleanS m))) r2 ∧ u = .tuple ⟨[v1, v2]⟩ ∧ h = [r1, r2, oc, nc]) := by
  have hcl := clean_len l
  have hcm := clean_len m
  refine FN.intro 18 [(0, ov), (1, nv)] Tryd.func18 rfl (enters Tryd.func18 (by kernel_rfl) rfl) Tryd.ntmps18 rfl rfl ?_
  refine WP.seq <| WP.region <| v0 (S0.assign rfl) rfl <| v0 (S0.assign rfl) rfl <| vE <| WP.seq <| WP.region <| v0 (S0.move rfl) rfl <| ?_  -- op t9 := call F26{rivulet/rivuletref05.Clean}(t8)
  refine vc (S1.callF rfl (rclean_spec ho hox hol) (take1 at0 take0)) rfl ?_
  rintro va _ ⟨ra, hsa, rfl⟩
  refine app ?_
  refine v0 (S0.move rfl) rfl <| ?_  -- op t11 := call F26{rivulet/rivuletref05.Clean}(t10)
  refine vc (S1.callF rfl (rclean_spec hn hnx hnl) (take1 (atS (atS at0)) take0)) rfl ?_
  rintro vb _ ⟨rb, hsb, rfl⟩
  refine app ?_
  refine v0 (S0.assign rfl) rfl <| v0 (S0.assign rfl) rfl <| vE <| WP.seq <| WP.region <| v0 (S0.move rfl) rfl <| v0 (S0.move rfl) rfl <| ?_  -- op t14 := call F25{rivulet/rivuletref05.Without}(t12, t13)
  refine vc (S1.callF rfl (rwithout_spec hsb.rdS hsa.rdS (by omega) (by omega)) (take1 at0 (take1 (atS at0) take0))) rfl ?_
  rintro v1 _ ⟨r1', hs1, rfl⟩
  refine app ?_
  refine v0 (S0.move rfl) rfl <| v0 (S0.move rfl) rfl <| ?_  -- op t17 := call F25{rivulet/rivuletref05.Without}(t15, t16)
  refine vc (S1.callF rfl (rwithout_spec hsa.rdS hsb.rdS (by omega) (by omega)) (take1 (atS (atS at0)) (take1 (atS at0) take0))) rfl ?_
  rintro v2 _ ⟨r2', hs2, rfl⟩
  refine app ?_
  refine v0 (S0.assign rfl) rfl <| v0 (S0.assign rfl) rfl <| vE <| WP.ret <| ?_  -- ret
  refine Leaves.drop (take1 (atS (atS (atS at0))) (take1 at0 (take1 (atS (atS (atS at0))) (take1 (atS (atS at0)) take0)))) ?_
  refine r2 rfl rfl rfl ?_
  exact ⟨v1, v2, r1', r2', hs1, hs2, rfl, rfl⟩
theorem rjoin_spec {va vb : Value} {A B : List Str} {ca cb : List Blk} (ha : RdS va A ca) (hb : RdS vb B cb) (hal : A.length ≤ 500) (hbl : B.length ≤ 500) (hax : ∀ x ∈ A, x.length ≤ 1000) (hbx : ∀ x ∈ B, x.length ≤ 1000) :
    FN Tryd.prog 15 [va, vb] [ca, cb] (fun u h => ∃ row, IsSl 9 1 u (strs (leastS (A ++ B))) row ∧ h = [row, ca, cb]) := by
  refine FN.intro 14 [(0, va), (1, vb)] Tryd.func15 rfl (enters Tryd.func15 (by kernel_rfl) rfl) Tryd.ntmps15 rfl rfl ?_
  refine WP.seq <| WP.region <| v0 (S0.assign rfl) rfl <| vE <| WP.seq <| WP.region <| vnv (S1.buildSlice rfl (qs := []) rfl rfl) rfl fun b6 => v0 (S0.move rfl) rfl <| ?_  -- op t8 := append(t6, t7) :[22, 22]
  refine ve (S1.appendRd rfl (IsSl.row (n := 0) (c := 0) (l := []) (sp := []) rfl rfl (Nat.le_refl _)) rfl ha (fun q hq => List.mem_flatten.2 ⟨_, by simp, hq⟩) at0 rfl (by simp; omega)) rfl ?_
  rintro v2 _ ⟨row2, hs2, rfl⟩
  rw [List.nil_append] at hs2
  refine v0 (S0.assign rfl) rfl <| vE <| WP.seq <| WP.region <| v0 (S0.move rfl) rfl <| v0 (S0.move rfl) rfl <| ?_  -- op t11 := append(t9, t10) :[22, 22]
  refine ve (S1.appendRd rfl hs2 rfl hb (fun q hq => List.mem_flatten.2 ⟨_, by simp, hq⟩) at0 rfl (by rw [strs_len]; omega)) rfl ?_
  rintro v3 _ ⟨row3, hs3, rfl⟩
  have hs3' : IsSl 9 1 v3 (strs (A ++ B)) row3 := by simpa [strs] using hs3
  refine v0 (S0.assign rfl) rfl <| vE <| WP.seq <| WP.region <| v0 (S0.move rfl) rfl <| ?_  -- op t13 := call F13{rivulet/rivuletref05.Least}(t12)
  refine vc (S1.callF rfl (rleast_spec hs3'.rdS (fun x hx => (List.mem_append.1 hx).elim (hax x) (hbx x)) (by simp; omega)) (take1 at0 take0)) rfl ?_
  rintro u2 _ ⟨row4, hs4, rfl⟩
  refine app ?_
  refine v0 (S0.assign rfl) rfl <| vE <| WP.ret <| ?_  -- ret
  refine Leaves.drop (take1 at0 (take1 (atS at0) (take1 (atS at0) take0))) ?_
  refine r1 rfl rfl ?_
  exact ⟨row4, hs4, rfl⟩
end Go.Proofs.YtnoicafjkgbokaaDoor
