import Derived.Test.YtipljeomgdomnaaGreatDoorK4
import Derived.Test.YtipljeomgdomnaaGreatDoorK2
import Derived.Test.YtipljeomgdomnaaGreatDoorK1
import Derived.Test.YtipljeomgdomnaaGreatDoorRows
import Derived.ChangeVars
import Derived.JoinedOf
import Derived.LaidLaws
import Derived.LaidHandle
import Derived.SizedLaws
set_option linter.unusedSimpArgs false
set_option linter.unusedVariables false
set_option linter.unnecessarySimpa false
/- RefC -/
namespace Go.Proofs.YtipljeomgdomnaaGreatDoor
open Go

-- left out: rholds_spec (rivulet/rivuletref05.Holds)



































theorem rleast_spec {v : Value} {l : List Str} {c : List Blk} (hr : RdS v l c) (hx : ∀ x ∈ l, x.length ≤ 1000) (hl : l.length ≤ 1000) : FN Tryz.prog 34 [v] [c] (fun u h => ∃ row, IsSl 9 1 u (strs (leastS l)) row ∧ h = [row, c]) := by
  have hcs := clean_sorted l
  have hcl := clean_len l
  have hcx : ∀ x ∈ cleanS l, x.length ≤ 1000 := fun x h => hx x (mem_clean.1 h).1
  rw [leastS]
  refine FN.intro 68 [(0, v)] Tryz.func34 rfl (enters Tryz.func34 (by kernel_rfl) rfl) Tryz.ntmps34 rfl rfl ?_
  refine WP.seq <| WP.region <| v0 (S0.assign rfl) rfl <| vE <| WP.seq <| WP.region <| v0 (S0.move rfl) rfl <| ?_  -- op t9 := call F32{rivulet/rivuletref05.Clean}(t8)
  refine vc (S1.callF rfl (rclean_spec hr hx hl) (take1 at0 take0)) rfl ?_
  rintro u _ ⟨crow, hsc, rfl⟩
  refine app ?_
  generalize cleanS l = C at hcs hcl hcx hsc
  obtain ⟨a, cap, rfl, -, hrow⟩ := hsc.strsE
  refine vnv (S1.buildSlice rfl (qs := []) rfl rfl) rfl fun b10 => v0 (S0.assign rfl) rfl <| v0 (S0.assign rfl) rfl <| vE <| WP.seq <| WP.seq <| WP.region <| v0 (S0.assign rfl) rfl <| vE <| WP.block <| ?_  -- Code.loop
  refine WP.loop (fun st : Nat × Value × List Blk => st.1 ≤ C.length ∧ IsSl 9 1 st.2.1 (strs ((C.take st.1).filter fun f => !C.any fun g => domS g f)) st.2.2) (fun st : Nat × Value × List Blk => [(3, .slice a C.length cap), (4, st.2.1), (5, .int .i64 (st.1 : Int))]) (fun st : Nat × Value × List Blk => [st.2.2, crow, c]) (fun st : Nat × Value × List Blk => C.length - st.1) ((0, _, [(b10, .cells ⟨[]⟩ 9 (0, 0))])) (⟨Nat.zero_le _, IsSl.row (n := 0) (c := 0) (l := []) (sp := []) rfl rfl (Nat.le_refl _)⟩) ⟨rfl, rfl, rfl, trivial⟩ ⟨_, (take1 at0 (take1 at0 (take1 at0 take0)))⟩ (fun st hinv => ?_) 
  obtain ⟨i, ov, row⟩ := st
  obtain ⟨hi, hsl⟩ := hinv
  dsimp only at hi hsl ⊢
  refine WP.seq <| WP.seq <| WP.region <| v0 (S0.move rfl) rfl <| v0 (S0.move rfl) rfl <| v0 (S0.lenSl rfl) rfl <| v0 (S0.cmp rfl rfl rfl) rfl <| vE <| ?_  -- cond
  first | refine WP.condP rfl (fun h1 => ?_) (fun h1 => ?_) | refine WP.condN rfl (fun h1 => ?_) (fun h1 => ?_) | refine WP.cond rfl (fun h1 => ?_) (fun h1 => ?_)
  · skip
    have hlt : i < C.length := by omega
    rcases hrow with ⟨e, -⟩ | ⟨b1, sp1, rfl, rfl, hsp1⟩
    · rw [e] at hlt; simp at hlt
    have hg : C[i]? = some C[i] := by simp [hlt]
    have hxl := hcx _ (List.getElem_mem hlt)
    generalize C[i] = x at hg hxl
    have htk : C.take (i + 1) = C.take i ++ [x] := by rw [List.take_add_one, hg]; rfl
    have hfl := List.length_filter_le (fun f => !C.any fun g => domS g f) (C.take i)
    have htl : (C.take i).length ≤ C.length := by simp; omega
    refine WP.skip <| WP.seq <| WP.block <| WP.seq <| WP.region <| v0 (S0.assign rfl) rfl <| vE <| WP.seq <| WP.seq <| WP.region <| v0 (S0.assign rfl) rfl <| vE <| WP.block <| ?_  -- Code.loop
    refine WP.loop (fun st : Nat × Bool => st.1 ≤ C.length ∧ (st.2 = true → ∀ j y, j < st.1 → C[j]? = some y → domS y x = false) ∧ (st.2 = false → (C.any fun g => domS g x) = true)) (fun st : Nat × Bool => [(3, .slice (some ⟨b1, 0, none⟩) C.length cap), (4, ov), (5, .int .i64 (i : Int)), (6, .bool st.2), (7, .int .i64 (st.1 : Int))]) (fun st : Nat × Bool => [row, [(b1, .cells ⟨strs C ++ sp1⟩ 9 (0, 0))], c]) (fun st : Nat × Bool => C.length - st.1) ((0, true)) (⟨Nat.zero_le _, fun _ j y hj => by omega, fun e => by cases e⟩) ⟨rfl, rfl, rfl, rfl, rfl, trivial⟩ ⟨_, (take1 at0 (take1 at0 (take1 at0 take0)))⟩ (fun st hinv => ?_) 
    obtain ⟨k, stays⟩ := st
    obtain ⟨hk, hno, hyes⟩ := hinv
    dsimp only at hk hno hyes ⊢
    refine WP.seq <| WP.seq <| WP.region <| v0 (S0.move rfl) rfl <| v0 (S0.move rfl) rfl <| v0 (S0.lenSl rfl) rfl <| v0 (S0.cmp rfl rfl rfl) rfl <| vE <| ?_  -- cond
    first | refine WP.condP rfl (fun h2 => ?_) (fun h2 => ?_) | refine WP.condN rfl (fun h2 => ?_) (fun h2 => ?_) | refine WP.cond rfl (fun h2 => ?_) (fun h2 => ?_)
    · skip
      have hlt2 : k < C.length := by omega
      have hy : C[k]? = some C[k] := by simp [hlt2]
      have hyl := hcx _ (List.getElem_mem hlt2)
      generalize C[k] = y at hy hyl
      obtain ⟨hd1, -⟩ := sorted_at hcs hg hy
      have hgo : domS y x = false → stays = true → ∀ j z, j < k + 1 → C[j]? = some z → domS z x = false := fun e es => below_at (p := fun _ z => domS z x = false) (hno es) hy e
      have hany : domS y x = true → (C.any fun g => domS g x) = true := fun e => List.any_eq_true.2 ⟨y, List.mem_of_getElem? hy, e⟩
      skip
      refine WP.skip <| WP.seq <| WP.block <| WP.seq <| WP.seq <| WP.drawP [(0, none), (1, none), (2, none), (3, none), (4, none), (5, none), (6, none), (7, none), (8, none), (9, none), (10, none), (11, none), (12, none), (13, none), (14, none)] mixed (by kernel_rfl) (by kernel_rfl) (by kernel_rfl) (take1 (atS at0) take0) <| w0 rfl rfl rfl (S0.move rfl) rfl <| w0 rfl rfl rfl (S0.move rfl) rfl <| w0 rfl rfl rfl (S0.cmp rfl rfl rfl) rfl <| w0 rfl rfl rfl (S0.move rfl) rfl <| ?_  -- guard t26 (wants False) at t27 := move t3 [if #3=False]
      first | refine wcsP (t := 26) rfl (fun h3 => ?_) (fun h3 => ?_) | refine wcsN (t := 26) rfl (fun h3 => ?_) (fun h3 => ?_) | refine wcs (t := 26) rfl (fun h3 => ?_) (fun h3 => ?_)
      · skip
        have hki : k = i := by omega
        have hyx : y = x := by rw [hki] at hy; rw [hy] at hg; cases hg; rfl
        refine wF rfl rfl rfl rfl <| wF rfl rfl rfl rfl <| wF rfl rfl rfl rfl <| wF rfl rfl rfl rfl <| wF rfl rfl rfl rfl <| wF rfl rfl rfl rfl <| wF rfl rfl rfl rfl <| wF rfl rfl rfl rfl <| wF rfl rfl rfl rfl <| wF rfl rfl rfl rfl <| w0 rfl rfl rfl (S0.pickT rfl rfl) rfl <| wE <| WP.condT rfl <| WP.exit <| WP.region <| v0 (S0.move rfl) rfl <| v0 (S0.ari rfl rfl rfl (wrap_i64 (by omega))) rfl <| v0 (S0.assign rfl) rfl <| vE <| ?_  -- roundend
        exact ⟨(k + 1, stays), (by first | exact ⟨hlt2, hgo (by rw [hyx]; exact dom_irr x), hyes⟩ | (dsimp only; exact ⟨hlt2, hgo (by rw [hyx]; exact dom_irr x), hyes⟩)), (show C.length - (k + 1) < C.length - k by omega), ⟨⟨rfl, rfl, rfl, rfl, rfl, trivial⟩, rfl, rfl⟩, ⟨_, (take1 (atS at0) (take1 at0 (take1 at0 take0)))⟩⟩
      · skip
        have hki : ¬ k = i := by omega
        have hyx : y ≠ x := fun e => by simp [hki, e] at hd1
        refine w0 rfl rfl rfl (S0.move rfl) rfl <| w0 rfl rfl rfl (S0.move rfl) rfl <| ?_  -- op t29 := indexAddr 23 t27 t28 [if #3=False]
        refine w0 rfl rfl rfl (S0.index1 rfl rfl hlt2) rfl <| ?_
        refine w0 rfl rfl rfl (S0.load rfl (strs_get hy)) rfl <| ?_
        refine w0 rfl rfl rfl (S0.move rfl) rfl <| w0 rfl rfl rfl (S0.move rfl) rfl <| ?_  -- op t33 := indexAddr 23 t31 t32 [if #3=False]
        refine w0 rfl rfl rfl (S0.index1 rfl rfl hlt) rfl <| ?_
        refine w0 rfl rfl rfl (S0.load rfl (strs_get hg)) rfl <| ?_
        -- (nothing to walk: op t35 := call F54{rivulet/rivuletref03.Covers}(t30, t34) [if #3=False])
        refine wcd rfl rfl rfl rfl (S1.callF rfl (rcovers_spec (show y.length ≤ 100000 by omega) (show x.length ≤ 100000 by omega)) take0) rfl ?_
        refine w0 rfl rfl rfl (S0.not rfl) rfl <| w0 rfl rfl rfl (S0.pickF rfl rfl) rfl <| wE <| ?_  -- cond
        first | refine WP.condP rfl (fun h4 => ?_) (fun h4 => ?_) | refine WP.condN rfl (fun h4 => ?_) (fun h4 => ?_) | refine WP.cond rfl (fun h4 => ?_) (fun h4 => ?_)
        · skip
          have h4' : coversS y x = false := by simpa using h4
          refine WP.exit <| WP.region <| v0 (S0.move rfl) rfl <| v0 (S0.ari rfl rfl rfl (wrap_i64 (by omega))) rfl <| v0 (S0.assign rfl) rfl <| vE <| ?_  -- roundend
          exact ⟨(k + 1, stays), (by first | exact ⟨hlt2, hgo (by simp [domS, h4']), hyes⟩ | (dsimp only; exact ⟨hlt2, hgo (by simp [domS, h4']), hyes⟩)), (show C.length - (k + 1) < C.length - k by omega), ⟨⟨rfl, rfl, rfl, rfl, rfl, trivial⟩, rfl, rfl⟩, ⟨_, (take1 (atS at0) (take1 at0 (take1 at0 take0)))⟩⟩
        · skip
          have h4' : coversS y x = true := by simpa using h4
          skip
          refine WP.skip <| WP.seq <| WP.drawP [(0, none), (1, none), (2, none), (3, none), (4, none), (5, none), (6, none), (7, none), (8, none), (9, none), (10, none), (11, none), (12, none), (13, none), (14, none), (15, none), (16, none), (17, none), (18, none), (19, none), (20, none)] mixed (by kernel_rfl) (by kernel_rfl) (by kernel_rfl) (take1 at0 take0) <| w0 rfl rfl rfl (S0.move rfl) rfl <| w0 rfl rfl rfl (S0.move rfl) rfl <| ?_  -- op t40 := indexAddr 23 t38 t39
          refine w0 rfl rfl rfl (S0.index1 rfl rfl hlt) rfl <| ?_
          refine w0 rfl rfl rfl (S0.load rfl (strs_get hg)) rfl <| ?_
          refine w0 rfl rfl rfl (S0.move rfl) rfl <| w0 rfl rfl rfl (S0.move rfl) rfl <| ?_  -- op t44 := indexAddr 23 t42 t43
          refine w0 rfl rfl rfl (S0.index1 rfl rfl hlt2) rfl <| ?_
          refine w0 rfl rfl rfl (S0.load rfl (strs_get hy)) rfl <| ?_
          -- (nothing to walk: op t46 := call F54{rivulet/rivuletref03.Covers}(t41, t45))
          refine wcd rfl rfl rfl rfl (S1.callF rfl (rcovers_spec (show x.length ≤ 100000 by omega) (show y.length ≤ 100000 by omega)) take0) rfl ?_
          refine w0 rfl rfl rfl (S0.not rfl) rfl <| w0 rfl rfl rfl (S0.move rfl) rfl <| ?_  -- guard t48 (wants False) at t49 := move t3 [if #10=False]
          first | refine wcsP (t := 48) rfl (fun h5 => ?_) (fun h5 => ?_) | refine wcsN (t := 48) rfl (fun h5 => ?_) (fun h5 => ?_) | refine wcs (t := 48) rfl (fun h5 => ?_) (fun h5 => ?_)
          · skip
            have h5' : coversS x y = false := by simpa using h5
            refine wF rfl rfl rfl rfl <| wF rfl rfl rfl rfl <| wF rfl rfl rfl rfl <| wF rfl rfl rfl rfl <| wF rfl rfl rfl rfl <| wF rfl rfl rfl rfl <| wF rfl rfl rfl rfl <| wF rfl rfl rfl rfl <| wF rfl rfl rfl rfl <| w0 rfl rfl rfl (S0.pickT rfl rfl) rfl <| wE <| WP.condT rfl <| WP.region <| v0 (S0.assign rfl) rfl <| vE <| WP.region <| v0 (S0.move rfl) rfl <| v0 (S0.ari rfl rfl rfl (wrap_i64 (by omega))) rfl <| v0 (S0.assign rfl) rfl <| vE <| ?_  -- roundend
            exact ⟨(k + 1, false), (by first | exact ⟨hlt2, fun e => (by cases e), fun _ => hany (by simp [domS, hyx, h4', h5'])⟩ | (dsimp only; exact ⟨hlt2, fun e => (by cases e), fun _ => hany (by simp [domS, hyx, h4', h5'])⟩)), (show C.length - (k + 1) < C.length - k by omega), ⟨⟨rfl, rfl, rfl, rfl, rfl, trivial⟩, rfl, rfl⟩, ⟨_, (take1 (atS at0) (take1 at0 (take1 at0 take0)))⟩⟩
          · skip
            have h5' : coversS x y = true := by simpa using h5
            refine w0 rfl rfl rfl (S0.move rfl) rfl <| w0 rfl rfl rfl (S0.move rfl) rfl <| ?_  -- op t51 := indexAddr 23 t49 t50 [if #10=False]
            refine w0 rfl rfl rfl (S0.index1 rfl rfl hlt2) rfl <| ?_
            refine w0 rfl rfl rfl (S0.load rfl (strs_get hy)) rfl <| ?_
            refine w0 rfl rfl rfl (S0.move rfl) rfl <| w0 rfl rfl rfl (S0.move rfl) rfl <| ?_  -- op t55 := indexAddr 23 t53 t54 [if #10=False]
            refine w0 rfl rfl rfl (S0.index1 rfl rfl hlt) rfl <| ?_
            refine w0 rfl rfl rfl (S0.load rfl (strs_get hg)) rfl <| ?_
            -- (nothing to walk: op t57 := call F55{rivulet/rivuletref03.Less}(t52, t56) [if #10=False])
            refine wcd rfl rfl rfl rfl (S1.callF rfl (rless_spec (show y.length ≤ 100000 by omega) (show x.length ≤ 100000 by omega)) take0) rfl ?_
            refine w0 rfl rfl rfl (S0.pickF rfl rfl) rfl <| wE <| ?_  -- cond
            first | refine WP.condP rfl (fun h6 => ?_) (fun h6 => ?_) | refine WP.condN rfl (fun h6 => ?_) (fun h6 => ?_) | refine WP.cond rfl (fun h6 => ?_) (fun h6 => ?_)
            · skip
              refine WP.region <| v0 (S0.assign rfl) rfl <| vE <| WP.region <| v0 (S0.move rfl) rfl <| v0 (S0.ari rfl rfl rfl (wrap_i64 (by omega))) rfl <| v0 (S0.assign rfl) rfl <| vE <| ?_  -- roundend
              exact ⟨(k + 1, false), (by first | exact ⟨hlt2, fun e => (by cases e), fun _ => hany (by simp [domS, hyx, h4', h6])⟩ | (dsimp only; exact ⟨hlt2, fun e => (by cases e), fun _ => hany (by simp [domS, hyx, h4', h6])⟩)), (show C.length - (k + 1) < C.length - k by omega), ⟨⟨rfl, rfl, rfl, rfl, rfl, trivial⟩, rfl, rfl⟩, ⟨_, (take1 (atS at0) (take1 at0 (take1 at0 take0)))⟩⟩
            · skip
              refine WP.skip <| WP.region <| v0 (S0.move rfl) rfl <| v0 (S0.ari rfl rfl rfl (wrap_i64 (by omega))) rfl <| v0 (S0.assign rfl) rfl <| vE <| ?_  -- roundend
              exact ⟨(k + 1, stays), (by first | exact ⟨hlt2, hgo (by simp [domS, h5', h6]), hyes⟩ | (dsimp only; exact ⟨hlt2, hgo (by simp [domS, h5', h6]), hyes⟩)), (show C.length - (k + 1) < C.length - k by omega), ⟨⟨rfl, rfl, rfl, rfl, rfl, trivial⟩, rfl, rfl⟩, ⟨_, (take1 (atS at0) (take1 at0 (take1 at0 take0)))⟩⟩
    · skip
      refine WP.exit <| WP.seq <| WP.region <| v0 (S0.move rfl) rfl <| vE <| ?_  -- cond
      skip
      cases stays with
      | true =>
        skip
        have hany : C.any (fun g => domS g x) = false := any_upto fun j y hj hy => hno rfl j y (by omega) hy
        refine WP.condTh rfl (rfl) ?_
        refine WP.region <| v0 (S0.move rfl) rfl <| v0 (S0.move rfl) rfl <| v0 (S0.move rfl) rfl <| ?_  -- op t63 := indexAddr 23 t61 t62
        refine v0 (S0.index1 rfl rfl hlt) rfl <| ?_
        refine v0 (S0.load rfl (strs_get hg)) rfl <| ?_
        refine vnv (S1.buildSlice rfl (qs := [(0, _)]) rfl rfl) rfl fun b65 => ?_  -- op t66 := append(t60, t65) :[23, 23]
        refine ve (S1.appendL rfl hsl rfl rfl (atS at0) rfl rfl (by rw [strs_len]; simp; omega)) rfl ?_
        rintro v2 _ ⟨row2, hsl2, rfl⟩
        refine v0 (S0.assign rfl) rfl <| vE <| WP.region <| v0 (S0.move rfl) rfl <| v0 (S0.ari rfl rfl rfl (wrap_i64 (by omega))) rfl <| v0 (S0.assign rfl) rfl <| vE <| ?_  -- roundend
        exact ⟨(i + 1, v2, row2), (by first | exact ⟨hlt, by rw [htk, List.filter_append]; simpa [hany, strs] using hsl2⟩ | (dsimp only; exact ⟨hlt, by rw [htk, List.filter_append]; simpa [hany, strs] using hsl2⟩)), (show C.length - (i + 1) < C.length - i by omega), ⟨⟨rfl, rfl, rfl, trivial⟩, rfl, rfl⟩, ⟨_, (take1 at0 (take1 (atS at0) (take1 (atS at0) take0)))⟩⟩
      | false =>
        skip
        have hany := hyes rfl
        refine WP.condFh rfl (rfl) ?_
        refine WP.skip <| WP.region <| v0 (S0.move rfl) rfl <| v0 (S0.ari rfl rfl rfl (wrap_i64 (by omega))) rfl <| v0 (S0.assign rfl) rfl <| vE <| ?_  -- roundend
        exact ⟨(i + 1, ov, row), (by first | exact ⟨hlt, by rw [htk, List.filter_append]; simpa [hany] using hsl⟩ | (dsimp only; exact ⟨hlt, by rw [htk, List.filter_append]; simpa [hany] using hsl⟩)), (show C.length - (i + 1) < C.length - i by omega), ⟨⟨rfl, rfl, rfl, trivial⟩, rfl, rfl⟩, ⟨_, (take1 at0 (take1 at0 (take1 at0 take0)))⟩⟩
  · skip
    have e : i = C.length := by omega
    subst e
    rw [List.take_length] at hsl
    refine WP.exit <| WP.seq <| WP.region <| v0 (S0.move rfl) rfl <| v0 (S0.assign rfl) rfl <| vE <| WP.ret <| ?_  -- ret
    refine Leaves.drop (take1 at0 (take1 (atS at0) take0)) ?_
    refine r1 rfl rfl ?_
    exact ⟨row, hsl, rfl⟩
theorem rwithout_spec {lv mv : Value} {l m : List Str} {lc mc : List Blk} (hl : RdS lv l lc) (hm : RdS mv m mc) (hll : l.length ≤ 1000000) (hml : m.length ≤ 1000000) :
    FN Tryz.prog 33 [lv, mv] [lc, mc] (fun u h => ∃ row, IsSl 9 1 u (strs (withoutS l m)) row ∧ h = [row, lc, mc]) := by
  obtain ⟨la, lcap, rfl, -, hrl⟩ := hl
  obtain ⟨ma, mcap, rfl, -, hrm⟩ := hm
  refine FN.intro 44 [(0, .slice la l.length lcap), (1, .slice ma m.length mcap)] Tryz.func33 rfl (enters Tryz.func33 (by kernel_rfl) rfl) Tryz.ntmps33 rfl rfl ?_
  refine WP.seq <| WP.region <| v0 (S0.assign rfl) rfl <| vE <| WP.seq <| WP.region <| vnv (S1.buildSlice rfl (qs := []) rfl rfl) rfl fun b9 => v0 (S0.assign rfl) rfl <| vE <| WP.seq <| WP.seq <| WP.region <| v0 (S0.assign rfl) rfl <| vE <| WP.block <| ?_  -- Code.loop
  refine WP.loop (fun st : Nat × Value × List Blk => st.1 ≤ l.length ∧ IsSl 9 1 st.2.1 (strs (withoutS (l.take st.1) m)) st.2.2) (fun st : Nat × Value × List Blk => [(0, .slice la l.length lcap), (1, .slice ma m.length mcap), (5, st.2.1), (6, .int .i64 (st.1 : Int))]) (fun st : Nat × Value × List Blk => [st.2.2, lc, mc]) (fun st : Nat × Value × List Blk => l.length - st.1) ((0, _, [(b9, .cells ⟨[]⟩ 9 (0, 0))])) (⟨Nat.zero_le _, IsSl.row (n := 0) (c := 0) (l := []) (sp := []) rfl rfl (Nat.le_refl _)⟩) ⟨rfl, rfl, rfl, rfl, trivial⟩ ⟨_, (take1 at0 (take1 at0 (take1 at0 take0)))⟩ (fun st hinv => ?_) 
  obtain ⟨i, ov, row⟩ := st
  obtain ⟨hi, hsl⟩ := hinv
  dsimp only at hi hsl ⊢
  refine WP.seq <| WP.seq <| WP.region <| v0 (S0.move rfl) rfl <| v0 (S0.move rfl) rfl <| v0 (S0.lenSl rfl) rfl <| v0 (S0.cmp rfl rfl rfl) rfl <| vE <| ?_  -- cond
  first | refine WP.condP rfl (fun h1 => ?_) (fun h1 => ?_) | refine WP.condN rfl (fun h1 => ?_) (fun h1 => ?_) | refine WP.cond rfl (fun h1 => ?_) (fun h1 => ?_)
  · skip
    have hlt : i < l.length := by omega
    rcases hrl with e | ⟨b1, o1, L1, U1, fz1, rfl, hm1, he1⟩
    · rw [e] at hlt; simp at hlt
    have : HasC lc b1 (.cells ⟨L1⟩ U1 fz1) := ⟨hm1⟩
    have hx : l[i]? = some l[i] := by simp [hlt]
    generalize l[i] = x at hx
    have hxe := he1 i x hx
    have htk : l.take (i + 1) = l.take i ++ [x] := by rw [List.take_add_one, hx]; rfl
    have hfl := List.length_filter_le (fun x => !decide (x ∈ m)) (l.take i)
    have htl : (l.take i).length ≤ l.length := by simp; omega
    refine WP.skip <| WP.seq <| WP.block <| WP.seq <| WP.region <| v0 (S0.assign rfl) rfl <| vE <| WP.seq <| WP.seq <| WP.region <| v0 (S0.assign rfl) rfl <| vE <| WP.block <| ?_  -- Code.loop
    refine WP.loop (fun st : Nat × Bool => st.1 ≤ m.length ∧ st.2 = decide (x ∈ m.take st.1)) (fun st : Nat × Bool => [(0, .slice (some ⟨b1, o1, none⟩) l.length lcap), (1, .slice ma m.length mcap), (5, ov), (6, .int .i64 (i : Int)), (7, .bool st.2), (8, .int .i64 (st.1 : Int))]) (fun st : Nat × Bool => [row, lc, mc]) (fun st : Nat × Bool => m.length - st.1) ((0, false)) (⟨Nat.zero_le _, by simp⟩) ⟨rfl, rfl, rfl, rfl, rfl, rfl, trivial⟩ ⟨_, (take1 at0 (take1 at0 (take1 at0 take0)))⟩ (fun st hinv => ?_) 
    obtain ⟨k, inn⟩ := st
    obtain ⟨hk, hinn⟩ := hinv
    dsimp only at hk hinn ⊢
    refine WP.seq <| WP.seq <| WP.region <| v0 (S0.move rfl) rfl <| v0 (S0.move rfl) rfl <| v0 (S0.lenSl rfl) rfl <| v0 (S0.cmp rfl rfl rfl) rfl <| vE <| ?_  -- cond
    first | refine WP.condP rfl (fun h2 => ?_) (fun h2 => ?_) | refine WP.condN rfl (fun h2 => ?_) (fun h2 => ?_) | refine WP.cond rfl (fun h2 => ?_) (fun h2 => ?_)
    · skip
      have hlt2 : k < m.length := by omega
      rcases hrm with e | ⟨b2, o2, L2, U2, fz2, rfl, hm2, he2⟩
      · rw [e] at hlt2; simp at hlt2
      have : HasC mc b2 (.cells ⟨L2⟩ U2 fz2) := ⟨hm2⟩
      have hy : m[k]? = some m[k] := by simp [hlt2]
      generalize m[k] = y at hy
      have hye := he2 k y hy
      have hmk : m.take (k + 1) = m.take k ++ [y] := by rw [List.take_add_one, hy]; rfl
      skip
      refine WP.skip <| WP.seq <| WP.block <| WP.drawP [(0, none), (1, none), (2, none), (3, none), (4, none), (5, none), (6, none), (7, none), (8, none), (9, none), (10, none), (11, none), (12, none)] mixed (by kernel_rfl) (by kernel_rfl) (by kernel_rfl) (take1 (atS at0) (take1 (atS at0) take0)) <| w0 rfl rfl rfl (S0.move rfl) rfl <| w0 rfl rfl rfl (S0.move rfl) rfl <| ?_  -- guard t23 (wants False) at t24 := move t0 [if #1=False]
      skip
      cases inn with
      | true =>
        skip
        have hmem : x ∈ m.take k := of_decide_eq_true hinn.symm
        refine wcsTh (t := 23) rfl (rfl) ?_
        refine wF rfl rfl rfl rfl <| wF rfl rfl rfl rfl <| wF rfl rfl rfl rfl <| wF rfl rfl rfl rfl <| wF rfl rfl rfl rfl <| wF rfl rfl rfl rfl <| wF rfl rfl rfl rfl <| wF rfl rfl rfl rfl <| wF rfl rfl rfl rfl <| w0 rfl rfl rfl (S0.pickT rfl rfl) rfl <| w0 rfl rfl rfl (S0.assign rfl) rfl <| wE <| WP.region <| v0 (S0.move rfl) rfl <| v0 (S0.ari rfl rfl rfl (wrap_i64 (by omega))) rfl <| v0 (S0.assign rfl) rfl <| vE <| ?_  -- roundend
        exact ⟨(k + 1, true), (by first | exact ⟨hlt2, by simp [hmk, hmem]⟩ | (dsimp only; exact ⟨hlt2, by simp [hmk, hmem]⟩)), (show m.length - (k + 1) < m.length - k by omega), ⟨⟨rfl, rfl, rfl, rfl, rfl, rfl, trivial⟩, rfl, rfl⟩, ⟨_, (take1 (atS (atS at0)) (take1 at0 (take1 at0 take0)))⟩⟩
      | false =>
        skip
        have hmem : x ∉ m.take k := of_decide_eq_false hinn.symm
        refine wcsFh (t := 23) rfl (rfl) ?_
        refine w0 rfl rfl rfl (S0.move rfl) rfl <| w0 rfl rfl rfl (S0.move rfl) rfl <| ?_  -- op t26 := indexAddr 23 t24 t25 [if #1=False]
        refine w0 rfl rfl rfl (S0.indexO1 rfl rfl hlt) rfl <| ?_
        refine w0 rfl rfl rfl (S0.load rfl (rdS_get hxe)) rfl <| ?_
        refine w0 rfl rfl rfl (S0.move rfl) rfl <| w0 rfl rfl rfl (S0.move rfl) rfl <| ?_  -- op t30 := indexAddr 23 t28 t29 [if #1=False]
        refine w0 rfl rfl rfl (S0.indexO1 rfl rfl hlt2) rfl <| ?_
        refine w0 rfl rfl rfl (S0.load rfl (rdS_get hye)) rfl <| ?_
        refine w0 rfl rfl rfl (S0.cmpS rfl rfl rfl) rfl <| w0 rfl rfl rfl (S0.pickF rfl rfl) rfl <| w0 rfl rfl rfl (S0.assign rfl) rfl <| wE <| WP.region <| v0 (S0.move rfl) rfl <| v0 (S0.ari rfl rfl rfl (wrap_i64 (by omega))) rfl <| v0 (S0.assign rfl) rfl <| vE <| ?_  -- roundend
        exact ⟨(k + 1, decide (x = y)), (by first | exact ⟨hlt2, by simp [hmk, hmem]⟩ | (dsimp only; exact ⟨hlt2, by simp [hmk, hmem]⟩)), (show m.length - (k + 1) < m.length - k by omega), ⟨⟨rfl, rfl, rfl, rfl, rfl, rfl, trivial⟩, rfl, rfl⟩, ⟨_, (take1 (atS (atS at0)) (take1 at0 (take1 at0 take0)))⟩⟩
    · skip
      have hk' : m.take k = m := List.take_of_length_le (by omega)
      rw [hk'] at hinn
      subst hinn
      refine WP.exit <| WP.seq <| WP.region <| v0 (S0.move rfl) rfl <| v0 (S0.not rfl) rfl <| vE <| ?_  -- cond
      first | refine WP.condP rfl (fun h3 => ?_) (fun h3 => ?_) | refine WP.condN rfl (fun h3 => ?_) (fun h3 => ?_) | refine WP.cond rfl (fun h3 => ?_) (fun h3 => ?_)
      · skip
        have h3' : x ∉ m := by simpa using h3
        skip
        refine WP.region <| v0 (S0.move rfl) rfl <| v0 (S0.move rfl) rfl <| v0 (S0.move rfl) rfl <| ?_  -- op t39 := indexAddr 23 t37 t38
        refine v0 (S0.indexO1 rfl rfl hlt) rfl <| ?_
        refine v0 (S0.load rfl (rdS_get hxe)) rfl <| ?_
        refine vnv (S1.buildSlice rfl (qs := [(0, _)]) rfl rfl) rfl fun b41 => ?_  -- op t42 := append(t36, t41) :[23, 23]
        refine ve (S1.appendL rfl hsl rfl rfl (atS at0) rfl rfl (by rw [strs_len]; unfold withoutS; simp; omega)) rfl ?_
        rintro v2 _ ⟨row2, hsl2, rfl⟩
        refine v0 (S0.assign rfl) rfl <| vE <| WP.region <| v0 (S0.move rfl) rfl <| v0 (S0.ari rfl rfl rfl (wrap_i64 (by omega))) rfl <| v0 (S0.assign rfl) rfl <| vE <| ?_  -- roundend
        exact ⟨(i + 1, v2, row2), (by first | exact ⟨hlt, by rw [htk]; simpa [withoutS, h3', strs] using hsl2⟩ | (dsimp only; exact ⟨hlt, by rw [htk]; simpa [withoutS, h3', strs] using hsl2⟩)), (show l.length - (i + 1) < l.length - i by omega), ⟨⟨rfl, rfl, rfl, rfl, trivial⟩, rfl, rfl⟩, ⟨_, (take1 at0 (take1 (atS at0) (take1 (atS at0) take0)))⟩⟩
      · skip
        have h3' : x ∈ m := by simpa using h3
        refine WP.skip <| WP.region <| v0 (S0.move rfl) rfl <| v0 (S0.ari rfl rfl rfl (wrap_i64 (by omega))) rfl <| v0 (S0.assign rfl) rfl <| vE <| ?_  -- roundend
        exact ⟨(i + 1, ov, row), (by first | exact ⟨hlt, by rw [htk]; simpa [withoutS, h3'] using hsl⟩ | (dsimp only; exact ⟨hlt, by rw [htk]; simpa [withoutS, h3'] using hsl⟩)), (show l.length - (i + 1) < l.length - i by omega), ⟨⟨rfl, rfl, rfl, rfl, trivial⟩, rfl, rfl⟩, ⟨_, (take1 at0 (take1 at0 (take1 at0 take0)))⟩⟩
  · skip
    have e : i = l.length := by omega
    subst e
    rw [List.take_length] at hsl
    refine WP.exit <| WP.seq <| WP.region <| v0 (S0.move rfl) rfl <| v0 (S0.assign rfl) rfl <| vE <| WP.ret <| ?_  -- ret
    refine r1 rfl rfl ?_
    exact ⟨row, hsl, rfl⟩
theorem rdiff_spec {ov nv : Value} {l m : List Str} {oc nc : List Blk} (ho : RdS ov l oc) (hn : RdS nv m nc) (hox : ∀ x ∈ l, x.length ≤ 1000) (hol : l.length ≤ 1000) (hnx : ∀ x ∈ m, x.length ≤ 1000) (hnl : m.length ≤ 1000) :
    FN Tryz.prog 13 [ov, nv] [oc, nc] (fun u h => ∃ v1 v2 r1 r2, IsSl 9 1 v1 (strs (withoutS (cleanS m) (cleanS l))) r1 ∧ IsSl 9 1 v2 (strs (withoutS (cleanS l) (cleanS m))) r2 ∧ u = .tuple ⟨[v1, v2]⟩ ∧ h = [r1, r2, oc, nc]) := by
  have hcl := clean_len l
  have hcm := clean_len m
  refine FN.intro 18 [(0, ov), (1, nv)] Tryz.func13 rfl (enters Tryz.func13 (by kernel_rfl) rfl) Tryz.ntmps13 rfl rfl ?_
  refine WP.seq <| WP.region <| v0 (S0.assign rfl) rfl <| v0 (S0.assign rfl) rfl <| vE <| WP.seq <| WP.region <| v0 (S0.move rfl) rfl <| ?_  -- op t9 := call F32{rivulet/rivuletref05.Clean}(t8)
  refine vc (S1.callF rfl (rclean_spec ho hox hol) (take1 at0 take0)) rfl ?_
  rintro va _ ⟨ra, hsa, rfl⟩
  refine app ?_
  refine v0 (S0.move rfl) rfl <| ?_  -- op t11 := call F32{rivulet/rivuletref05.Clean}(t10)
  refine vc (S1.callF rfl (rclean_spec hn hnx hnl) (take1 (atS (atS at0)) take0)) rfl ?_
  rintro vb _ ⟨rb, hsb, rfl⟩
  refine app ?_
  refine v0 (S0.assign rfl) rfl <| v0 (S0.assign rfl) rfl <| vE <| WP.seq <| WP.region <| v0 (S0.move rfl) rfl <| v0 (S0.move rfl) rfl <| ?_  -- op t14 := call F33{rivulet/rivuletref05.Without}(t12, t13)
  refine vc (S1.callF rfl (rwithout_spec hsb.rdS hsa.rdS (by omega) (by omega)) (take1 at0 (take1 (atS at0) take0))) rfl ?_
  rintro v1 _ ⟨r1', hs1, rfl⟩
  refine app ?_
  refine v0 (S0.move rfl) rfl <| v0 (S0.move rfl) rfl <| ?_  -- op t17 := call F33{rivulet/rivuletref05.Without}(t15, t16)
  refine vc (S1.callF rfl (rwithout_spec hsa.rdS hsb.rdS (by omega) (by omega)) (take1 (atS (atS at0)) (take1 (atS at0) take0))) rfl ?_
  rintro v2 _ ⟨r2', hs2, rfl⟩
  refine app ?_
  refine v0 (S0.assign rfl) rfl <| v0 (S0.assign rfl) rfl <| vE <| WP.ret <| ?_  -- ret
  refine Leaves.drop (take1 (atS (atS (atS at0))) (take1 at0 (take1 (atS (atS (atS at0))) (take1 (atS (atS at0)) take0)))) ?_
  refine r2 rfl rfl rfl ?_
  exact ⟨v1, v2, r1', r2', hs1, hs2, rfl, rfl⟩
-- left out: rjoin_spec (rivulet/rivuletref05.Join)














end Go.Proofs.YtipljeomgdomnaaGreatDoor
/- Q1 -/
namespace Go.Proofs.YtipljeomgdomnaaGreatDoor
open Go

/-- an ask as the document keeps it -/
abbrev enA (x : Str × Int × Int) : List Value := [.int .i64 x.2.1, sv x.1]
theorem enA_len (x : Str × Int × Int) : (enA x).length = 1 + 1 := rfl
theorem enA_cv (x : Str × Int × Int) : (enA x).all cellV = true := rfl
abbrev AskRow (L : Asks) (v : Value) (row : List Blk) : Prop := IsSl 65 2 v (L.flatMap enA) row
theorem filt_step {L : Asks} {k : Nat} {x : Str × Int × Int} (hx : L[k]? = some x) (p : Str × Int × Int → Bool) : (L.take (k + 1)).filter p = (L.take k).filter p ++ (if p x = true then [x] else []) := by
  rw [take_one hx, List.filter_append]
  by_cases h : p x = true <;> simp [h]
theorem any_step {α : Type} {l : List α} {k : Nat} {x : α} (h : l[k]? = some x) (p : α → Bool) : (l.take (k + 1)).any p = ((l.take k).any p || p x) := by
  rw [take_one h, List.any_append]; simp
theorem any_has {L : Asks} (hok : AsksOk L) (f : Str) (i : Int) : L.any (isK f i) = decide (hasK L f i ≠ 0) := by
  rw [Bool.eq_iff_iff, List.any_eq_true, decide_eq_true_eq]
  constructor
  · rintro ⟨x, hx, e⟩ hz
    exact has_zero hok hz ⟨x, hx, by simpa [isK] using e⟩
  · intro h
    exact ⟨_, has_ne h, by simp [isK]⟩
theorem rset_spec {v : Value} {L : Asks} {row : List Blk} {m : Nat} (hs : AskRow L v row) (hL : Fine L m) (hm : m ≤ 100000) {f : Str} (hf : f.length ≤ 1000) (i : Int) (on : Bool) :
    FN Tryz.prog 29 [v, .int .i64 i, sv f, .bool on] [row] (fun u h => ∃ v' row', u = .tuple ⟨[v', .int .i64 (setE L f i on)]⟩ ∧ AskRow (setR L f i on) v' row' ∧ h = [row']) := by
  have hlen := hL.b.len
  have hR := setR_plain hL.ok hL.one f i on
  have hE := setE_plain hL.ok f i on
  have hs0 := hs
  obtain ⟨a, cap, rfl, hcap, hrow⟩ := IsSl.elems (k := 1) enA_len hs
  refine FN.intro 71 [(0, .slice a L.length cap), (1, .int .i64 i), (2, sv f), (3, .bool on)] Tryz.func29 rfl (enters Tryz.func29 (by kernel_rfl) rfl) Tryz.ntmps29 rfl rfl ?_
  refine WP.seq <| WP.region <| v0 (S0.assign rfl) rfl <| v0 (S0.assign rfl) rfl <| vE <| WP.seq <| WP.seq <| WP.region <| v0 (S0.move rfl) rfl <| ?_  -- op t14 := call F27{rivulet/rivuletref03.Filter}(t13)
  refine vcd (S1.callF rfl (rfilter_spec (show f.length ≤ 900000 by omega)) take0) rfl ?_
  refine v0 (S0.not rfl) rfl <| v0 (S0.move rfl) rfl <| ?_  -- guard t16 (wants False) at t17 := move t1 [if #3=False]
  skip
  by_cases hF : filtS f = true
  · skip
    refine csFh (t := 16) rfl ((by simp [hF])) ?_
    refine gT rfl <| v0 (S0.move rfl) rfl <| gT rfl <| v0 (S0.cmp rfl rfl rfl) rfl <| v0 (S0.pickF rfl rfl) rfl <| vE <| ?_  -- cond
    first | refine WP.condP rfl (fun hi => ?_) (fun hi => ?_) | refine WP.condN rfl (fun hi => ?_) (fun hi => ?_) | refine WP.cond rfl (fun hi => ?_) (fun hi => ?_)
    · skip
      have hok2 : okA f i = false := by simp [okA]; omega
      rw [hok2] at hR hE
      refine WP.seq <| WP.region <| v0 (S0.move rfl) rfl <| v0 (S0.assign rfl) rfl <| v0 (S0.assign rfl) rfl <| vE <| WP.ret <| ?_  -- ret
      refine r2 rfl rfl rfl ?_
      exact ⟨_, row, by rw [hE]; rfl, by rw [hR]; exact hs0, rfl⟩
    · skip
      have hoka : okA f i = true := by simp [okA, hF]; omega
      rw [if_pos hoka] at hR hE
      refine WP.skip <| WP.seq <| WP.region <| vnv (S1.buildSlice rfl (qs := []) rfl rfl) rfl fun b21 => v0 (S0.assign rfl) rfl <| v0 (S0.assign rfl) rfl <| vE <| WP.seq <| WP.seq <| WP.region <| v0 (S0.assign rfl) rfl <| vE <| WP.block <| ?_  -- Code.loop
      refine WP.loop (fun st : Nat × Value × List Blk => st.1 ≤ L.length ∧ AskRow ((L.take st.1).filter fun x => !isK f i x) st.2.1 st.2.2) (fun st : Nat × Value × List Blk => [(0, .slice a L.length cap), (1, .int .i64 i), (2, sv f), (3, .bool on), (10, st.2.1), (11, .bool ((L.take st.1).any (isK f i))), (12, .int .i64 (st.1 : Int))]) (fun st : Nat × Value × List Blk => [st.2.2, row]) (fun st : Nat × Value × List Blk => L.length - st.1) ((0, _, [(b21, .cells ⟨[]⟩ 65 (0, 0))])) (⟨Nat.zero_le _, IsSl.row (n := 0) (c := 0) (l := []) (sp := []) rfl rfl (Nat.le_refl _)⟩) ⟨rfl, rfl, rfl, rfl, rfl, rfl, rfl, trivial⟩ ⟨_, (take1 at0 (take1 at0 take0))⟩ (fun st hinv => ?_) 
      obtain ⟨k, ov, orow⟩ := st
      obtain ⟨hk, hos⟩ := hinv
      dsimp only at hk hos ⊢
      have hil := List.length_filter_le (fun x => !isK f i x) (L.take k)
      refine WP.seq <| WP.seq <| WP.region <| v0 (S0.move rfl) rfl <| v0 (S0.move rfl) rfl <| v0 (S0.lenSl rfl) rfl <| v0 (S0.cmp rfl rfl rfl) rfl <| vE <| ?_  -- cond
      first | refine WP.condP rfl (fun h1 => ?_) (fun h1 => ?_) | refine WP.condN rfl (fun h1 => ?_) (fun h1 => ?_) | refine WP.cond rfl (fun h1 => ?_) (fun h1 => ?_)
      · skip
        have hlt : k < L.length := by omega
        rcases hrow with ⟨e, -⟩ | ⟨b1, sp1, rfl, rfl, hsp1⟩
        · rw [e] at hlt; simp at hlt
        have hx : L[k]? = some L[k] := by simp [hlt]
        generalize L[k] = x at hx
        have hfs := filt_step hx (fun x => !isK f i x)
        have has := any_step hx (isK f i)
        refine WP.skip <| WP.seq <| WP.block <| WP.seq <| WP.region <| v0 (S0.move rfl) rfl <| v0 (S0.move rfl) rfl <| ?_  -- op t30 := indexAddr 28 t28 t29
        refine v0 (S0.indexN (k := 2) rfl rfl hlt) rfl <| ?_
        refine v0 (S0.fieldAddr rfl) rfl <| ?_  -- limit
        refine v0 (S0.load (v := .int .i64 x.2.1) rfl (flat_get enA_len sp1 L k 0 x hx (by decide))) rfl <| ?_
        refine v0 (S0.move rfl) rfl <| v0 (S0.cmp rfl rfl rfl) rfl <| v0 (S0.move rfl) rfl <| ?_  -- guard t35 (wants True) at t36 := move t0 [if #7=True]
        first | refine csP (t := 35) rfl (fun h2 => ?_) (fun h2 => ?_) | refine csN (t := 35) rfl (fun h2 => ?_) (fun h2 => ?_) | refine cs (t := 35) rfl (fun h2 => ?_) (fun h2 => ?_)
        · skip
          refine gT rfl <| v0 (S0.move rfl) rfl <| gT rfl <| v0 (S0.move rfl) rfl <| ?_  -- op t38 := indexAddr 28 t36 t37 [if #7=True]
          refine gT rfl <| v0 (S0.indexN (k := 2) rfl rfl hlt) rfl <| ?_
          refine gT rfl <| v0 (S0.fieldAddr rfl) rfl <| ?_  -- limit
          refine gT rfl <| v0 (S0.load (v := sv x.1) rfl (flat_get enA_len sp1 L k 1 x hx (by decide))) rfl <| ?_
          refine gT rfl <| v0 (S0.move rfl) rfl <| gT rfl <| v0 (S0.cmpS rfl rfl rfl) rfl <| v0 (S0.pickT rfl rfl) rfl <| vE <| ?_  -- cond
          first | refine WP.condP rfl (fun h3 => ?_) (fun h3 => ?_) | refine WP.condN rfl (fun h3 => ?_) (fun h3 => ?_) | refine WP.cond rfl (fun h3 => ?_) (fun h3 => ?_)
          · skip
            have hk2 : isK f i x = true := by simp [isK, h2, h3]
            rw [hk2] at has hfs
            rw [Bool.or_true] at has
            refine WP.region <| v0 (S0.assign rfl) rfl <| vE <| WP.region <| v0 (S0.move rfl) rfl <| v0 (S0.ari rfl rfl rfl (wrap_i64 (by omega))) rfl <| v0 (S0.assign rfl) rfl <| vE <| ?_  -- roundend
            rw [← has]
            exact ⟨(k + 1, ov, orow), (by first | exact ⟨hlt, by rw [hfs]; simpa using hos⟩ | (dsimp only; exact ⟨hlt, by rw [hfs]; simpa using hos⟩)), (show L.length - (k + 1) < L.length - k by omega), ⟨⟨rfl, rfl, rfl, rfl, rfl, rfl, rfl, trivial⟩, rfl, rfl⟩, ⟨_, (take1 at0 (take1 at0 take0))⟩⟩
          · skip
            have hk2 : isK f i x = false := by simp [isK, h3]
            rw [hk2] at has hfs
            rw [Bool.or_false] at has
            rw [← has]
            refine WP.region <| v0 (S0.move rfl) rfl <| v0 (S0.move rfl) rfl <| v0 (S0.move rfl) rfl <| ?_  -- op t47 := indexAddr 28 t45 t46
            refine v0 (S0.indexN (k := 2) rfl rfl hlt) rfl <| ?_
            refine v0 (S0.loadA rfl (flat_take enA_len sp1 L k x hx) rfl) rfl <| ?_
            refine vnv (S1.buildSlice rfl (qs := [(0, _)]) rfl rfl) rfl fun b49 => ?_  -- op t50 := append(t44, t49) :[28, 28]
            refine ve (S1.appendL rfl hos rfl rfl (atS at0) rfl rfl (by rw [flat_len enA_len]; rw [List.length_take] at hil; simp; omega)) rfl ?_
            rintro v2 _ ⟨row2, hs2, rfl⟩
            refine v0 (S0.assign rfl) rfl <| vE <| WP.region <| v0 (S0.move rfl) rfl <| v0 (S0.ari rfl rfl rfl (wrap_i64 (by omega))) rfl <| v0 (S0.assign rfl) rfl <| vE <| ?_  -- roundend
            exact ⟨(k + 1, v2, row2), (by first | exact ⟨hlt, by rw [hfs]; simpa [AskRow] using hs2⟩ | (dsimp only; exact ⟨hlt, by rw [hfs]; simpa [AskRow] using hs2⟩)), (show L.length - (k + 1) < L.length - k by omega), ⟨⟨rfl, rfl, rfl, rfl, rfl, rfl, rfl, trivial⟩, rfl, rfl⟩, ⟨_, (take1 at0 (take1 (atS at0) take0))⟩⟩
        · skip
          have hk2 : isK f i x = false := by simp [isK, h2]
          rw [hk2] at has hfs
          rw [Bool.or_false] at has
          rw [← has]
          refine gF rfl rfl <| gF rfl rfl <| gF rfl rfl <| gF rfl rfl <| gF rfl rfl <| gF rfl rfl <| gF rfl rfl <| v0 (S0.pickF rfl rfl) rfl <| vE <| WP.condF rfl <| WP.region <| v0 (S0.move rfl) rfl <| v0 (S0.move rfl) rfl <| v0 (S0.move rfl) rfl <| ?_  -- op t47 := indexAddr 28 t45 t46
          refine v0 (S0.indexN (k := 2) rfl rfl hlt) rfl <| ?_
          refine v0 (S0.loadA rfl (flat_take enA_len sp1 L k x hx) rfl) rfl <| ?_
          refine vnv (S1.buildSlice rfl (qs := [(0, _)]) rfl rfl) rfl fun b49 => ?_  -- op t50 := append(t44, t49) :[28, 28]
          refine ve (S1.appendL rfl hos rfl rfl (atS at0) rfl rfl (by rw [flat_len enA_len]; rw [List.length_take] at hil; simp; omega)) rfl ?_
          rintro v2 _ ⟨row2, hs2, rfl⟩
          refine v0 (S0.assign rfl) rfl <| vE <| WP.region <| v0 (S0.move rfl) rfl <| v0 (S0.ari rfl rfl rfl (wrap_i64 (by omega))) rfl <| v0 (S0.assign rfl) rfl <| vE <| ?_  -- roundend
          exact ⟨(k + 1, v2, row2), (by first | exact ⟨hlt, by rw [hfs]; simpa [AskRow] using hs2⟩ | (dsimp only; exact ⟨hlt, by rw [hfs]; simpa [AskRow] using hs2⟩)), (show L.length - (k + 1) < L.length - k by omega), ⟨⟨rfl, rfl, rfl, rfl, rfl, rfl, rfl, trivial⟩, rfl, rfl⟩, ⟨_, (take1 at0 (take1 (atS at0) take0))⟩⟩
      · skip
        have e : k = L.length := by omega
        rw [e, List.take_length] at hos hil
        rw [e, List.take_length, any_has hL.ok]
        refine WP.exit <| WP.seq <| WP.seq <| WP.region <| v0 (S0.move rfl) rfl <| v0 (S0.move rfl) rfl <| ?_  -- guard t52 (wants True) at t53 := move t11 [if #1=True]
        first | refine csP (t := 52) rfl (fun hon => ?_) (fun hon => ?_) | refine csN (t := 52) rfl (fun hon => ?_) (fun hon => ?_) | refine cs (t := 52) rfl (fun hon => ?_) (fun hon => ?_)
        · skip
          subst hon
          rw [if_pos rfl] at hR hE
          refine gT rfl <| v0 (S0.move rfl) rfl <| v0 (S0.pickT rfl rfl) rfl <| vE <| ?_  -- cond
          first | refine WP.condP rfl (fun hh => ?_) (fun hh => ?_) | refine WP.condN rfl (fun hh => ?_) (fun hh => ?_) | refine WP.cond rfl (fun hh => ?_) (fun hh => ?_)
          · skip
            rw [if_pos hh] at hR hE
            refine WP.seq <| WP.region <| v0 (S0.move rfl) rfl <| v0 (S0.assign rfl) rfl <| v0 (S0.assign rfl) rfl <| vE <| WP.ret <| ?_  -- ret
            refine Leaves.drop (take1 (atS at0) take0) ?_
            refine r2 rfl rfl rfl ?_
            exact ⟨_, row, by rw [hE], by rw [hR]; exact hs0, rfl⟩
          · skip
            rw [if_neg hh] at hR hE
            refine WP.skip <| WP.seq <| WP.seq <| WP.region <| v0 (S0.move rfl) rfl <| v0 (S0.not rfl) rfl <| v0 (S0.move rfl) rfl <| ?_  -- guard t58 (wants True) at t59 := move t11 [if #2=True]
            refine csFh (t := 58) rfl (rfl) ?_
            refine gF rfl rfl <| gF rfl rfl <| v0 (S0.pickF rfl rfl) rfl <| vE <| WP.condF rfl <| WP.skip <| WP.seq <| WP.seq <| WP.region <| v0 (S0.move rfl) rfl <| vE <| ?_  -- cond
            refine WP.condTh rfl (rfl) ?_
            refine WP.region <| v0 (S0.move rfl) rfl <| v0 (S0.move rfl) rfl <| v0 (S0.move rfl) rfl <| v0 (S0.build rfl (qs := [(0, _), (1, _)]) rfl) rfl <| vnv (S1.buildSlice rfl (qs := [(0, _)]) rfl rfl) rfl fun b68 => ?_  -- op t69 := append(t64, t68) :[28, 28]
            refine ve (S1.appendL rfl hos rfl rfl (atS at0) rfl rfl (by rw [flat_len enA_len]; simp; omega)) rfl ?_
            rintro v2 _ ⟨row2, hs2, rfl⟩
            refine v0 (S0.assign rfl) rfl <| vE <| WP.seq <| WP.region <| v0 (S0.move rfl) rfl <| v0 (S0.assign rfl) rfl <| v0 (S0.assign rfl) rfl <| vE <| WP.ret <| ?_  -- ret
            refine Leaves.drop (take1 at0 take0) ?_
            refine r2 rfl rfl rfl ?_
            exact ⟨v2, row2, by rw [hE], by rw [hR]; simpa [AskRow] using hs2, rfl⟩
        · skip
          subst hon
          rw [if_neg (by simp)] at hR hE
          refine gF rfl rfl <| v0 (S0.pickF rfl rfl) rfl <| vE <| WP.condF rfl <| WP.skip <| WP.seq <| WP.seq <| WP.region <| v0 (S0.move rfl) rfl <| v0 (S0.not rfl) rfl <| v0 (S0.move rfl) rfl <| ?_  -- guard t58 (wants True) at t59 := move t11 [if #2=True]
          refine csTh (t := 58) rfl (rfl) ?_
          refine gT rfl <| v0 (S0.move rfl) rfl <| gT rfl <| v0 (S0.not rfl) rfl <| v0 (S0.pickT rfl rfl) rfl <| vE <| ?_  -- cond
          first | refine WP.condP rfl (fun hh => ?_) (fun hh => ?_) | refine WP.condN rfl (fun hh => ?_) (fun hh => ?_) | refine WP.cond rfl (fun hh => ?_) (fun hh => ?_)
          · skip
            have hz : hasK L f i = 0 := by
              rcases hL.one.has f i with e | e
              · exact e
              · rw [e] at hh; simp at hh
            have hz2 : ¬ hasK L f i ≠ 0 := by simp [hz]
            rw [if_neg hz2] at hE
            rw [filter_no (has_zero hL.ok hz)] at hR
            refine WP.seq <| WP.region <| v0 (S0.move rfl) rfl <| v0 (S0.assign rfl) rfl <| v0 (S0.assign rfl) rfl <| vE <| WP.ret <| ?_  -- ret
            refine Leaves.drop (take1 (atS at0) take0) ?_
            refine r2 rfl rfl rfl ?_
            exact ⟨_, row, by rw [hE], by rw [hR]; exact hs0, rfl⟩
          · skip
            have hz : hasK L f i ≠ 0 := by simpa using hh
            rw [if_pos hz] at hE
            refine WP.skip <| WP.seq <| WP.seq <| WP.region <| v0 (S0.move rfl) rfl <| vE <| ?_  -- cond
            refine WP.condFh rfl (rfl) ?_
            refine WP.skip <| WP.seq <| WP.region <| v0 (S0.move rfl) rfl <| v0 (S0.assign rfl) rfl <| v0 (S0.assign rfl) rfl <| vE <| WP.ret <| ?_  -- ret
            refine Leaves.drop (take1 at0 take0) ?_
            refine r2 rfl rfl rfl ?_
            exact ⟨ov, orow, by rw [hE], by rw [hR]; exact hos, rfl⟩
  · skip
    have hok2 : okA f i = false := by simp [okA, hF]
    rw [hok2] at hR hE
    refine csTh (t := 16) rfl ((by simp [hF])) ?_
    refine gF rfl rfl <| gF rfl rfl <| v0 (S0.pickT rfl rfl) rfl <| vE <| WP.condT rfl <| WP.seq <| WP.region <| v0 (S0.move rfl) rfl <| v0 (S0.assign rfl) rfl <| v0 (S0.assign rfl) rfl <| vE <| WP.ret <| ?_  -- ret
    refine r2 rfl rfl rfl ?_
    exact ⟨_, row, by rw [hE]; rfl, by rw [hR]; exact hs0, rfl⟩
/-- the document's table -/
def IsRB (rb : Nat) (A B : Asks) (c : List Blk) : Prop := ∃ va vb ra rb', AskRow A va ra ∧ AskRow B vb rb' ∧ c = (rb, cel [va, vb] 30) :: (ra ++ rb')
theorem rtleave_spec {rb : Nat} {A B : Asks} {c : List Blk} {m : Nat} (h : IsRB rb A B c) (hB : Fine B m) (hm : m ≤ 100000) (i : Int) :
    FN Tryz.prog 30 [.pointer (some ⟨rb, 0, none⟩), .int .i64 i] [c] (fun v h => ∃ c', v = .int .i64 ((ofK B i).length : Int) ∧ IsRB rb A (leaveK B i) c' ∧ h = [c']) := by
  have hbl := hB.b.len
  have hlv := leave_len B i
  have hof := ofK_len hB.ok i
  have hdif : (B.length : Int) - ((leaveK B i).length : Int) = ((ofK B i).length : Int) := by omega
  obtain ⟨va, vb, ra, rb', hA, hsl, rfl⟩ := h
  obtain ⟨a, cap, rfl, hcap, hrow⟩ := IsSl.elems (k := 1) enA_len hsl
  refine FN.intro 51 [(0, .pointer (some ⟨rb, 0, none⟩)), (1, .int .i64 i)] Tryz.func30 rfl (enters Tryz.func30 (by kernel_rfl) rfl) Tryz.ntmps30 rfl rfl ?_
  refine WP.seq <| WP.region <| v0 (S0.assign rfl) rfl <| vE <| WP.seq <| WP.region <| vnv (S1.buildSlice rfl (qs := []) rfl rfl) rfl fun b8 => v0 (S0.assign rfl) rfl <| vE <| WP.seq <| WP.seq <| WP.region <| v0 (S0.assign rfl) rfl <| vE <| WP.block <| ?_  -- Code.loop
  refine WP.loop (fun st : Nat × Value × List Blk => st.1 ≤ B.length ∧ AskRow (leaveK (B.take st.1) i) st.2.1 st.2.2) (fun st : Nat × Value × List Blk => [(0, .pointer (some ⟨rb, 0, none⟩)), (1, .int .i64 i), (5, st.2.1), (6, .int .i64 (st.1 : Int))]) (fun st : Nat × Value × List Blk => [st.2.2, (rb, cel [va, .slice a B.length cap] 30) :: (ra ++ rb')]) (fun st : Nat × Value × List Blk => B.length - st.1) ((0, _, [(b8, .cells ⟨[]⟩ 65 (0, 0))])) (⟨Nat.zero_le _, IsSl.row (n := 0) (c := 0) (l := []) (sp := []) rfl rfl (Nat.le_refl _)⟩) ⟨rfl, rfl, rfl, rfl, trivial⟩ ⟨_, (take1 at0 (take1 at0 take0))⟩ (fun st hinv => ?_) 
  obtain ⟨k, ov, orow⟩ := st
  obtain ⟨hk, hos⟩ := hinv
  dsimp only at hk hos ⊢
  have hil := List.length_filter_le (fun x : Str × Int × Int => !decide (x.2.1 = i)) (B.take k)
  refine WP.seq <| WP.seq <| WP.region <| v0 (S0.move rfl) rfl <| v0 (S0.move rfl) rfl <| v0 (S0.nilCheck rfl) rfl <| v0 (S0.fieldAddr rfl) rfl <| v0 (S0.load rfl rfl) rfl <| v0 (S0.lenSl rfl) rfl <| v0 (S0.cmp rfl rfl rfl) rfl <| vE <| ?_  -- cond
  first | refine WP.condP rfl (fun h1 => ?_) (fun h1 => ?_) | refine WP.condN rfl (fun h1 => ?_) (fun h1 => ?_) | refine WP.cond rfl (fun h1 => ?_) (fun h1 => ?_)
  · skip
    have hlt : k < B.length := by omega
    rcases hrow with ⟨e, -⟩ | ⟨b1, sp1, rfl, rfl, hsp1⟩
    · rw [e] at hlt; simp at hlt
    have hx : B[k]? = some B[k] := by simp [hlt]
    generalize B[k] = x at hx
    have hsucc : leaveK (B.take (k + 1)) i = if x.2.1 = i then leaveK (B.take k) i else leaveK (B.take k) i ++ [x] := by
      unfold leaveK
      rw [take_one hx, List.filter_append]
      by_cases h : x.2.1 = i <;> simp [h]
    have : HasC ((rb, cel [va, .slice (some ⟨b1, 0, none⟩) B.length cap] 30) :: (ra ++ [(b1, .cells ⟨B.flatMap enA ++ sp1⟩ 65 (0, 0))])) b1 (.cells ⟨B.flatMap enA ++ sp1⟩ 65 (0, 0)) := ⟨by simp⟩
    refine WP.skip <| WP.seq <| WP.block <| WP.seq <| WP.region <| v0 (S0.move rfl) rfl <| v0 (S0.nilCheck rfl) rfl <| v0 (S0.fieldAddr rfl) rfl <| v0 (S0.load rfl rfl) rfl <| v0 (S0.move rfl) rfl <| ?_  -- op t23 := indexAddr 28 t21 t22
    refine v0 (S0.indexN (k := 2) rfl rfl hlt) rfl <| ?_
    refine v0 (S0.fieldAddr rfl) rfl <| ?_  -- limit
    refine v0 (S0.load (v := .int .i64 x.2.1) rfl (flat_get enA_len sp1 B k 0 x hx (by decide))) rfl <| ?_
    refine v0 (S0.move rfl) rfl <| v0 (S0.cmp rfl rfl rfl) rfl <| vE <| ?_  -- cond
    first | refine WP.condP rfl (fun h2 => ?_) (fun h2 => ?_) | refine WP.condN rfl (fun h2 => ?_) (fun h2 => ?_) | refine WP.cond rfl (fun h2 => ?_) (fun h2 => ?_)
    · skip
      rw [if_neg h2] at hsucc
      refine WP.region <| v0 (S0.move rfl) rfl <| v0 (S0.move rfl) rfl <| v0 (S0.nilCheck rfl) rfl <| v0 (S0.fieldAddr rfl) rfl <| v0 (S0.load rfl rfl) rfl <| v0 (S0.move rfl) rfl <| ?_  -- op t34 := indexAddr 28 t32 t33
      refine v0 (S0.indexN (k := 2) rfl rfl hlt) rfl <| ?_
      refine v0 (S0.loadA rfl (flat_take enA_len sp1 B k x hx) rfl) rfl <| ?_
      refine vnv (S1.buildSlice rfl (qs := [(0, _)]) rfl rfl) rfl fun b36 => ?_  -- op t37 := append(t28, t36) :[28, 28]
      refine ve (S1.appendL rfl hos rfl rfl (atS at0) rfl rfl (by unfold leaveK; rw [flat_len enA_len]; simp at hil ⊢; omega)) rfl ?_
      rintro v2 _ ⟨row2, hs2, rfl⟩
      refine v0 (S0.assign rfl) rfl <| vE <| WP.region <| v0 (S0.move rfl) rfl <| v0 (S0.ari rfl rfl rfl (wrap_i64 (by omega))) rfl <| v0 (S0.assign rfl) rfl <| vE <| ?_  -- roundend
      exact ⟨(k + 1, v2, row2), (by first | exact ⟨hlt, by rw [hsucc, AskRow, List.flatMap_append]; simpa using hs2⟩ | (dsimp only; exact ⟨hlt, by rw [hsucc, AskRow, List.flatMap_append]; simpa using hs2⟩)), (show B.length - (k + 1) < B.length - k by omega), ⟨⟨rfl, rfl, rfl, rfl, trivial⟩, rfl, rfl⟩, ⟨_, (take1 at0 (take1 (atS at0) take0))⟩⟩
    · skip
      rw [if_pos (by simpa using h2)] at hsucc
      refine WP.skip <| WP.region <| v0 (S0.move rfl) rfl <| v0 (S0.ari rfl rfl rfl (wrap_i64 (by omega))) rfl <| v0 (S0.assign rfl) rfl <| vE <| ?_  -- roundend
      exact ⟨(k + 1, ov, orow), (by first | exact ⟨hlt, by rw [hsucc]; exact hos⟩ | (dsimp only; exact ⟨hlt, by rw [hsucc]; exact hos⟩)), (show B.length - (k + 1) < B.length - k by omega), ⟨⟨rfl, rfl, rfl, rfl, trivial⟩, rfl, rfl⟩, ⟨_, (take1 at0 (take1 at0 take0))⟩⟩
  · skip
    have e : k = B.length := by omega
    rw [e, List.take_length] at hos
    obtain ⟨oa, oc, rfl, hoc, -⟩ := IsSl.elems (k := 1) enA_len hos
    refine WP.exit <| WP.seq <| WP.region <| v0 (S0.move rfl) rfl <| v0 (S0.nilCheck rfl) rfl <| v0 (S0.fieldAddr rfl) rfl <| v0 (S0.load rfl rfl) rfl <| v0 (S0.lenSl rfl) rfl <| v0 (S0.move rfl) rfl <| v0 (S0.lenSl rfl) rfl <| v0 (S0.ari rfl rfl rfl (wrap_i64 (by omega))) rfl <| v0 (S0.assign rfl) rfl <| vE <| WP.seq <| WP.region <| v0 (S0.move rfl) rfl <| v0 (S0.move rfl) rfl <| v0 (S0.nilCheck rfl) rfl <| v0 (S0.fieldAddr rfl) rfl <| vs (S1.store rfl rfl (by first | rfl | exact IsSl.cv (by assumption))) <| vE <| WP.seq <| WP.region <| v0 (S0.move rfl) rfl <| v0 (S0.assign rfl) rfl <| vE <| WP.ret <| ?_  -- ret
    refine Leaves.drop (h' := [(rb, cel [va, .slice oa (leaveK B i).length oc] 30) :: (ra ++ orow)]) (k := [rb']) (pm fun a_ => by (try simp only [List.flatten_append, List.flatten_cons, List.flatten_nil, List.append_nil, List.cons_append, List.nil_append, List.append_assoc, nOf_app, nOf_cons, nOf_nil, Nat.add_zero, Nat.zero_add, List.map_append, List.map_cons, List.map_nil, cel, sv]); omega) ?_
    refine r1 rfl rfl ?_
    refine ⟨_, ?_, ⟨_, _, _, _, hA, hos, rfl⟩, rfl⟩
    rw [hdif]
theorem flat_len2 (L : Asks) (k : Nat) : (L.take k).length ≤ L.length := by rw [List.length_take]; omega
theorem strs_step {L : Asks} {k : Nat} {x : Str × Int × Int} (hx : L[k]? = some x) (P : List Str) : strs (P ++ (L.take (k + 1)).map (·.1)) = strs (P ++ (L.take k).map (·.1)) ++ [sv x.1] := by
  rw [take_one hx]; simp [strs]
theorem rtup_spec {rb : Nat} {A B : Asks} {c : List Blk} {m : Nat} (h : IsRB rb A B c) (hA : Fine A m) (hB : Fine B m) (hm : m ≤ 500) :
    FN Tryz.prog 14 [.pointer (some ⟨rb, 0, none⟩)] [c] (fun v h => ∃ row, IsSl 9 1 v (strs (upS A B)) row ∧ h = [row, c]) := by
  have hal := hA.b.len
  have hbl := hB.b.len
  have hax : ∀ y ∈ A.map (·.1), y.length ≤ 1000 := fun y hy => by
    obtain ⟨x, hx, rfl⟩ := List.mem_map.1 hy
    have := filt_len (hA.ok.filt x hx).1; omega
  have hbx : ∀ y ∈ B.map (·.1), y.length ≤ 1000 := fun y hy => by
    obtain ⟨x, hx, rfl⟩ := List.mem_map.1 hy
    have := filt_len (hB.ok.filt x hx).1; omega
  obtain ⟨va, vb, ra, rb', hsa, hsb, rfl⟩ := h
  obtain ⟨aa, acap, rfl, -, harow⟩ := IsSl.elems (k := 1) enA_len hsa
  obtain ⟨ba, bcap, rfl, -, hbrow⟩ := IsSl.elems (k := 1) enA_len hsb
  refine FN.intro 49 [(0, .pointer (some ⟨rb, 0, none⟩))] Tryz.func14 rfl (enters Tryz.func14 (by kernel_rfl) rfl) Tryz.ntmps14 rfl rfl ?_
  refine WP.seq <| WP.region <| v0 (S0.assign rfl) rfl <| vE <| WP.seq <| WP.region <| vnv (S1.buildSlice rfl (qs := []) rfl rfl) rfl fun b6 => v0 (S0.assign rfl) rfl <| vE <| WP.seq <| WP.seq <| WP.region <| v0 (S0.assign rfl) rfl <| vE <| WP.block <| ?_  -- Code.loop
  refine WP.loop (fun st : Nat × Value × List Blk => st.1 ≤ A.length ∧ IsSl 9 1 st.2.1 (strs ([] ++ (A.take st.1).map (·.1))) st.2.2) (fun st : Nat × Value × List Blk => [(0, .pointer (some ⟨rb, 0, none⟩)), (3, st.2.1), (4, .int .i64 (st.1 : Int))]) (fun st : Nat × Value × List Blk => [st.2.2, (rb, cel [.slice aa A.length acap, .slice ba B.length bcap] 30) :: (ra ++ rb')]) (fun st : Nat × Value × List Blk => A.length - st.1) ((0, _, [(b6, .cells ⟨[]⟩ 9 (0, 0))])) (⟨Nat.zero_le _, IsSl.row (n := 0) (c := 0) (l := []) (sp := []) rfl rfl (Nat.le_refl _)⟩) ⟨rfl, rfl, rfl, trivial⟩ ⟨_, (take1 at0 (take1 at0 take0))⟩ (fun st hinv => ?_) 
  obtain ⟨k, ov, orow⟩ := st
  obtain ⟨hk, hos⟩ := hinv
  dsimp only at hk hos ⊢
  have hkl := flat_len2 A k
  refine WP.seq <| WP.seq <| WP.region <| v0 (S0.move rfl) rfl <| v0 (S0.move rfl) rfl <| v0 (S0.nilCheck rfl) rfl <| v0 (S0.fieldAddr rfl) rfl <| v0 (S0.load rfl rfl) rfl <| v0 (S0.lenSl rfl) rfl <| v0 (S0.cmp rfl rfl rfl) rfl <| vE <| ?_  -- cond
  first | refine WP.condP rfl (fun h1 => ?_) (fun h1 => ?_) | refine WP.condN rfl (fun h1 => ?_) (fun h1 => ?_) | refine WP.cond rfl (fun h1 => ?_) (fun h1 => ?_)
  · skip
    have hlt : k < A.length := by omega
    rcases harow with ⟨e, -⟩ | ⟨b1, sp1, rfl, rfl, hsp1⟩
    · rw [e] at hlt; simp at hlt
    have hx : A[k]? = some A[k] := by simp [hlt]
    generalize A[k] = x at hx
    have : HasC ((rb, cel [.slice (some ⟨b1, 0, none⟩) A.length acap, .slice ba B.length bcap] 30) :: ([(b1, .cells ⟨A.flatMap enA ++ sp1⟩ 65 (0, 0))] ++ rb')) b1 (.cells ⟨A.flatMap enA ++ sp1⟩ 65 (0, 0)) := ⟨by simp⟩
    refine WP.skip <| WP.seq <| WP.block <| WP.region <| v0 (S0.move rfl) rfl <| v0 (S0.move rfl) rfl <| v0 (S0.nilCheck rfl) rfl <| v0 (S0.fieldAddr rfl) rfl <| v0 (S0.load rfl rfl) rfl <| v0 (S0.move rfl) rfl <| ?_  -- op t22 := indexAddr 28 t20 t21
    refine v0 (S0.indexN (k := 2) rfl rfl hlt) rfl <| ?_
    refine v0 (S0.fieldAddr rfl) rfl <| ?_  -- limit
    refine v0 (S0.load (v := sv x.1) rfl (flat_get enA_len sp1 A k 1 x hx (by decide))) rfl <| ?_
    refine vnv (S1.buildSlice rfl (qs := [(0, _)]) rfl rfl) rfl fun b25 => ?_  -- op t26 := append(t16, t25) :[23, 23]
    refine ve (S1.appendL rfl hos rfl rfl (atS at0) rfl rfl (by rw [strs_len]; simp at hkl ⊢; omega)) rfl ?_
    rintro v2 _ ⟨row2, hs2, rfl⟩
    refine v0 (S0.assign rfl) rfl <| vE <| WP.region <| v0 (S0.move rfl) rfl <| v0 (S0.ari rfl rfl rfl (wrap_i64 (by omega))) rfl <| v0 (S0.assign rfl) rfl <| vE <| ?_  -- roundend
    exact ⟨(k + 1, v2, row2), (by first | exact ⟨hlt, by rw [strs_step hx]; exact hs2⟩ | (dsimp only; exact ⟨hlt, by rw [strs_step hx]; exact hs2⟩)), (show A.length - (k + 1) < A.length - k by omega), ⟨⟨rfl, rfl, rfl, trivial⟩, rfl, rfl⟩, ⟨_, (take1 at0 (take1 (atS at0) take0))⟩⟩
  · skip
    have e : k = A.length := by omega
    rw [e, List.take_length, List.nil_append] at hos
    refine WP.exit <| WP.seq <| WP.seq <| WP.region <| v0 (S0.assign rfl) rfl <| vE <| WP.block <| ?_  -- Code.loop
    refine WP.loop (fun st : Nat × Value × List Blk => st.1 ≤ B.length ∧ IsSl 9 1 st.2.1 (strs (A.map (·.1) ++ (B.take st.1).map (·.1))) st.2.2) (fun st : Nat × Value × List Blk => [(0, .pointer (some ⟨rb, 0, none⟩)), (3, st.2.1), (5, .int .i64 (st.1 : Int))]) (fun st : Nat × Value × List Blk => [st.2.2, (rb, cel [.slice aa A.length acap, .slice ba B.length bcap] 30) :: (ra ++ rb')]) (fun st : Nat × Value × List Blk => B.length - st.1) ((0, ov, orow)) (⟨Nat.zero_le _, by simpa using hos⟩) ⟨rfl, rfl, rfl, trivial⟩ ⟨_, (take1 at0 (take1 at0 take0))⟩ (fun st hinv => ?_) 
    obtain ⟨k, ov, orow⟩ := st
    obtain ⟨hk, hos⟩ := hinv
    dsimp only at hk hos ⊢
    have hkl := flat_len2 B k
    refine WP.seq <| WP.seq <| WP.region <| v0 (S0.move rfl) rfl <| v0 (S0.move rfl) rfl <| v0 (S0.nilCheck rfl) rfl <| v0 (S0.fieldAddr rfl) rfl <| v0 (S0.load rfl rfl) rfl <| v0 (S0.lenSl rfl) rfl <| v0 (S0.cmp rfl rfl rfl) rfl <| vE <| ?_  -- cond
    first | refine WP.condP rfl (fun h2 => ?_) (fun h2 => ?_) | refine WP.condN rfl (fun h2 => ?_) (fun h2 => ?_) | refine WP.cond rfl (fun h2 => ?_) (fun h2 => ?_)
    · skip
      have hlt : k < B.length := by omega
      rcases hbrow with ⟨e, -⟩ | ⟨b1, sp1, rfl, rfl, hsp1⟩
      · rw [e] at hlt; simp at hlt
      have hx : B[k]? = some B[k] := by simp [hlt]
      generalize B[k] = x at hx
      have : HasC ((rb, cel [.slice aa A.length acap, .slice (some ⟨b1, 0, none⟩) B.length bcap] 30) :: (ra ++ [(b1, .cells ⟨B.flatMap enA ++ sp1⟩ 65 (0, 0))])) b1 (.cells ⟨B.flatMap enA ++ sp1⟩ 65 (0, 0)) := ⟨by simp⟩
      refine WP.skip <| WP.seq <| WP.block <| WP.region <| v0 (S0.move rfl) rfl <| v0 (S0.move rfl) rfl <| v0 (S0.nilCheck rfl) rfl <| v0 (S0.fieldAddr rfl) rfl <| v0 (S0.load rfl rfl) rfl <| v0 (S0.move rfl) rfl <| ?_  -- op t42 := indexAddr 28 t40 t41
      refine v0 (S0.indexN (k := 2) rfl rfl hlt) rfl <| ?_
      refine v0 (S0.fieldAddr rfl) rfl <| ?_  -- limit
      refine v0 (S0.load (v := sv x.1) rfl (flat_get enA_len sp1 B k 1 x hx (by decide))) rfl <| ?_
      refine vnv (S1.buildSlice rfl (qs := [(0, _)]) rfl rfl) rfl fun b45 => ?_  -- op t46 := append(t36, t45) :[23, 23]
      refine ve (S1.appendL rfl hos rfl rfl (atS at0) rfl rfl (by rw [strs_len]; simp at hkl ⊢; omega)) rfl ?_
      rintro v2 _ ⟨row2, hs2, rfl⟩
      refine v0 (S0.assign rfl) rfl <| vE <| WP.region <| v0 (S0.move rfl) rfl <| v0 (S0.ari rfl rfl rfl (wrap_i64 (by omega))) rfl <| v0 (S0.assign rfl) rfl <| vE <| ?_  -- roundend
      exact ⟨(k + 1, v2, row2), (by first | exact ⟨hlt, by rw [strs_step hx]; exact hs2⟩ | (dsimp only; exact ⟨hlt, by rw [strs_step hx]; exact hs2⟩)), (show B.length - (k + 1) < B.length - k by omega), ⟨⟨rfl, rfl, rfl, trivial⟩, rfl, rfl⟩, ⟨_, (take1 at0 (take1 (atS at0) take0))⟩⟩
    · skip
      have e : k = B.length := by omega
      rw [e, List.take_length] at hos
      refine WP.exit <| WP.seq <| WP.region <| v0 (S0.move rfl) rfl <| ?_  -- op t48 := call F34{rivulet/rivuletref05.Least}(t47)
      refine vc (S1.callF rfl (rleast_spec hos.rdS (fun x hx => (List.mem_append.1 hx).elim (hax x) (hbx x)) (by simp; omega)) (take1 at0 take0)) rfl ?_
      rintro u2 _ ⟨row4, hs4, rfl⟩
      refine app ?_
      refine v0 (S0.assign rfl) rfl <| vE <| WP.ret <| ?_  -- ret
      refine Leaves.drop (take1 at0 (take1 (atS at0) take0)) ?_
      refine r1 rfl rfl ?_
      exact ⟨row4, by rw [← up_least]; exact hs4, rfl⟩
theorem who_spec {v : Value} {L : Asks} {row : List Blk} {m : Nat} (hs : AskRow L v row) (hL : Fine L m) (hm : m ≤ 500) {s : Str} (hl : s.length ≤ 1000) :
    FN Tryz.prog 19 [v, sv s] [row] (fun u h => ∃ row2, IsSl 3 1 u (ints (idsK L s)) row2 ∧ h = [row2, row]) := by
  have hlen := hL.b.len
  obtain ⟨a, cap, rfl, hcap, hrow⟩ := IsSl.elems (k := 1) enA_len hs
  refine FN.intro 30 [(0, .slice a L.length cap), (1, sv s)] Tryz.func19 rfl (enters Tryz.func19 (by kernel_rfl) rfl) Tryz.ntmps19 rfl rfl ?_
  refine WP.seq <| WP.region <| v0 (S0.assign rfl) rfl <| vE <| WP.seq <| WP.region <| v0 (S0.build rfl (qs := []) rfl) rfl <| vn (S1.box rfl rfl) rfl fun b8 => v0 (S0.assign rfl) rfl <| vE <| WP.seq <| WP.seq <| WP.region <| v0 (S0.assign rfl) rfl <| vE <| WP.block <| ?_  -- Code.loop
  refine WP.loop (fun st : Nat × List Blk => st.1 ≤ L.length ∧ IsRT b8 (L.take st.1) st.2) (fun st : Nat × List Blk => [(0, .slice a L.length cap), (1, sv s), (5, .pointer (some ⟨b8, 0, none⟩)), (6, .int .i64 (st.1 : Int))]) (fun st : Nat × List Blk => [st.2, row]) (fun st : Nat × List Blk => L.length - st.1) ((0, [(b8, cel [.slice none 0 0] 69)])) (⟨Nat.zero_le _, ⟨_, [], IsSl.nil, rfl⟩⟩) ⟨rfl, rfl, rfl, rfl, trivial⟩ ⟨_, (take1 at0 (take1 at0 take0))⟩ (fun st hinv => ?_) 
  obtain ⟨k, rc⟩ := st
  obtain ⟨hk, hr⟩ := hinv
  dsimp only at hk hr ⊢
  refine WP.seq <| WP.seq <| WP.region <| v0 (S0.move rfl) rfl <| v0 (S0.move rfl) rfl <| v0 (S0.lenSl rfl) rfl <| v0 (S0.cmp rfl rfl rfl) rfl <| vE <| ?_  -- cond
  first | refine WP.condP rfl (fun h1 => ?_) (fun h1 => ?_) | refine WP.condN rfl (fun h1 => ?_) (fun h1 => ?_) | refine WP.cond rfl (fun h1 => ?_) (fun h1 => ?_)
  · skip
    have hlt : k < L.length := by omega
    rcases hrow with ⟨e, -⟩ | ⟨b1, sp1, rfl, rfl, hsp1⟩
    · rw [e] at hlt; simp at hlt
    have hx : L[k]? = some L[k] := by simp [hlt]
    generalize L[k] = x at hx
    have hxl := filt_len (hL.ok.filt x (List.mem_of_getElem? hx)).1
    have hst := who_step hL.ok hL.one hx
    skip
    refine WP.skip <| WP.seq <| WP.block <| WP.drawP [(0, none), (1, none), (2, none), (3, none), (4, none), (5, none), (6, none), (7, none), (8, none), (9, none), (10, none), (11, none)] mixed (by kernel_rfl) (by kernel_rfl) (by kernel_rfl) (take1 (atS at0) take0) <| w0 rfl rfl rfl (S0.move rfl) rfl <| w0 rfl rfl rfl (S0.move rfl) rfl <| w0 rfl rfl rfl (S0.move rfl) rfl <| ?_  -- op t18 := indexAddr 28 t16 t17
    refine w0 rfl rfl rfl (S0.indexN (k := 2) rfl rfl hlt) rfl <| ?_
    refine w0 rfl rfl rfl (S0.fieldAddr rfl) rfl <| ?_  -- limit
    refine w0 rfl rfl rfl (S0.load (v := sv x.1) rfl (flat_get enA_len sp1 L k 1 x hx (by decide))) rfl <| ?_
    refine w0 rfl rfl rfl (S0.move rfl) rfl <| w0 rfl rfl rfl (S0.move rfl) rfl <| ?_  -- op t23 := indexAddr 28 t21 t22
    refine w0 rfl rfl rfl (S0.indexN (k := 2) rfl rfl hlt) rfl <| ?_
    refine w0 rfl rfl rfl (S0.fieldAddr rfl) rfl <| ?_  -- limit
    refine w0 rfl rfl rfl (S0.load (v := .int .i64 x.2.1) rfl (flat_get enA_len sp1 L k 0 x hx (by decide))) rfl <| ?_
    refine wc rfl rfl rfl rfl (S1.callF rfl (radd_spec hr (hL.ok.take k) (hL.b.take k) (by omega) (f := x.1) (by omega) x.2.1) (take1 at0 take0)) rfl ?_
    rintro _ _ ⟨c', rfl, h3, rfl⟩
    refine wapp ?_
    rw [hst] at h3
    refine wE <| WP.region <| v0 (S0.move rfl) rfl <| v0 (S0.ari rfl rfl rfl (wrap_i64 (by omega))) rfl <| v0 (S0.assign rfl) rfl <| vE <| ?_  -- roundend
    exact ⟨(k + 1, c'), (by first | exact ⟨hlt, h3⟩ | (dsimp only; exact ⟨hlt, h3⟩)), (show L.length - (k + 1) < L.length - k by omega), ⟨⟨rfl, rfl, rfl, rfl, trivial⟩, rfl, rfl⟩, ⟨_, (take1 (atS at0) (take1 at0 take0))⟩⟩
  · skip
    have e : k = L.length := by omega
    rw [e, List.take_length] at hr
    refine WP.exit <| WP.seq <| WP.region <| v0 (S0.move rfl) rfl <| v0 (S0.move rfl) rfl <| ?_  -- op t29 := call F39{(*rivulet/rivuletref04.Trie).Match}(t27, t28)
    refine vc (S1.callF rfl (rmatch4_spec hr hL.ok hL.b (by omega) hl) (take1 at0 take0)) rfl ?_
    rintro u _ ⟨row2, h3, rfl⟩
    refine app ?_
    refine v0 (S0.assign rfl) rfl <| vE <| WP.ret <| ?_  -- ret
    refine Leaves.drop (take1 at0 (take1 (atS at0) take0)) ?_
    refine r1 rfl rfl ?_
    exact ⟨row2, h3, rfl⟩
end Go.Proofs.YtipljeomgdomnaaGreatDoor
/- IntsR -/
namespace Go.Proofs.YtipljeomgdomnaaGreatDoor
open Go

theorem ints_spec {v1 v2 : Value} {q1 q2 : List Blk} {a b : List Int} (h1 : IsSl 3 1 v1 (ints a) q1) (h2 : IsSl 3 1 v2 (ints b) q2) (ha : a.length ≤ 1000000000) : FN Tryz.prog 17 [v1, v2] [q1, q2] (is (.bool (decide (a = b))) [q1, q2]) := by
  obtain ⟨a1, c1, rfl, hc1, hr1⟩ := h1.intsE
  obtain ⟨a2, c2, rfl, hc2, hr2⟩ := h2.intsE
  refine FN.intro 26 [(0, .slice a1 a.length c1), (1, .slice a2 b.length c2)] Tryz.func17 rfl (enters Tryz.func17 (by kernel_rfl) rfl) Tryz.ntmps17 rfl rfl ?_
  refine WP.seq <| WP.region <| v0 (S0.assign rfl) rfl <| vE <| WP.seq <| WP.seq <| WP.region <| v0 (S0.move rfl) rfl <| v0 (S0.lenSl rfl) rfl <| v0 (S0.move rfl) rfl <| v0 (S0.lenSl rfl) rfl <| v0 (S0.cmp rfl rfl rfl) rfl <| vE <| ?_  -- cond
  first | refine WP.condP rfl (fun hl => ?_) (fun hl => ?_) | refine WP.condN rfl (fun hl => ?_) (fun hl => ?_) | refine WP.cond rfl (fun hl => ?_) (fun hl => ?_)
  · skip
    refine WP.seq <| WP.region <| v0 (S0.assign rfl) rfl <| vE <| WP.ret <| ?_  -- ret
    refine r1 rfl rfl ⟨?_, rfl⟩
    have : a ≠ b := fun e => hl (by rw [e])
    simp [this]
  · skip
    refine WP.skip <| WP.seq <| WP.seq <| WP.region <| v0 (S0.assign rfl) rfl <| vE <| WP.block <| ?_  -- Code.loop
    refine WP.loop (fun i : Nat => i ≤ a.length ∧ a.take i = b.take i) (fun i : Nat => [(0, .slice a1 a.length c1), (1, .slice a2 b.length c2), (5, .int .i64 (i : Int))]) (fun i : Nat => [q1, q2]) (fun i : Nat => a.length - i) (0) (⟨by omega, rfl⟩) ⟨rfl, rfl, rfl, trivial⟩ ⟨_, (take1 at0 (take1 at0 take0))⟩ (fun i hinv => ?_) 
    obtain ⟨hi, htk⟩ := hinv
    refine WP.seq <| WP.seq <| WP.region <| v0 (S0.move rfl) rfl <| v0 (S0.move rfl) rfl <| v0 (S0.lenSl rfl) rfl <| v0 (S0.cmp rfl rfl rfl) rfl <| vE <| ?_  -- cond
    first | refine WP.condP rfl (fun h3 => ?_) (fun h3 => ?_) | refine WP.condN rfl (fun h3 => ?_) (fun h3 => ?_) | refine WP.cond rfl (fun h3 => ?_) (fun h3 => ?_)
    · skip
      have hlt : i < a.length := by omega
      have hlt2 : i < b.length := by omega
      rcases hr1 with ⟨rfl, -⟩ | ⟨b1, sp1, rfl, rfl, hsp1⟩
      · simp at hlt
      rcases hr2 with ⟨rfl, -⟩ | ⟨b2, sp2, rfl, rfl, hsp2⟩
      · simp at hlt2
      have hx : a[i]? = some a[i] := by simp [hlt]
      have hy : b[i]? = some b[i] := by simp [hlt2]
      skip
      refine WP.skip <| WP.seq <| WP.block <| WP.seq <| WP.drawP [(0, none), (1, none), (2, none), (3, none), (4, none), (5, none), (6, none), (7, none), (8, none)] mixed (by kernel_rfl) (by kernel_rfl) (by kernel_rfl) (take1 at0 (take1 at0 take0)) <| w0 rfl rfl rfl (S0.move rfl) rfl <| w0 rfl rfl rfl (S0.move rfl) rfl <| ?_  -- op t19 := indexAddr 40 t17 t18
      refine w0 rfl rfl rfl (S0.index1 rfl rfl hlt) rfl <| ?_
      refine w0 rfl rfl rfl (S0.load rfl (ints_get hx)) rfl <| ?_
      refine w0 rfl rfl rfl (S0.move rfl) rfl <| w0 rfl rfl rfl (S0.move rfl) rfl <| ?_  -- op t23 := indexAddr 40 t21 t22
      refine w0 rfl rfl rfl (S0.index1 rfl rfl hlt2) rfl <| ?_
      refine w0 rfl rfl rfl (S0.load rfl (ints_get hy)) rfl <| ?_
      refine w0 rfl rfl rfl (S0.cmp rfl rfl rfl) rfl <| wE <| ?_  -- cond
      first | refine WP.condP rfl (fun h4 => ?_) (fun h4 => ?_) | refine WP.condN rfl (fun h4 => ?_) (fun h4 => ?_) | refine WP.cond rfl (fun h4 => ?_) (fun h4 => ?_)
      · skip
        refine WP.seq <| WP.region <| v0 (S0.assign rfl) rfl <| vE <| WP.ret <| ?_  -- ret
        refine r1 rfl rfl ⟨?_, rfl⟩
        have : a ≠ b := fun e => h4 (by subst e; rfl)
        simp [this]
      · skip
        refine WP.skip <| WP.region <| v0 (S0.move rfl) rfl <| v0 (S0.ari rfl rfl rfl (wrap_i64 (by omega))) rfl <| v0 (S0.assign rfl) rfl <| vE <| ?_  -- roundend
        exact ⟨i + 1, (by first | exact ⟨hlt, by rw [List.take_add_one, List.take_add_one, hx, hy, htk]; congr 2; simpa using h4⟩ | (dsimp only; exact ⟨hlt, by rw [List.take_add_one, List.take_add_one, hx, hy, htk]; congr 2; simpa using h4⟩)), (by omega), ⟨⟨rfl, rfl, rfl, trivial⟩, rfl, rfl⟩, ⟨_, (take1 at0 (take1 at0 take0))⟩⟩
    · skip
      refine WP.exit <| WP.seq <| WP.region <| v0 (S0.assign rfl) rfl <| vE <| WP.ret <| ?_  -- ret
      refine r1 rfl rfl ⟨?_, rfl⟩
      have : a = b := by
        rw [List.take_of_length_le (by omega), List.take_of_length_le (by omega)] at htk
        exact htk
      simp [this]
end Go.Proofs.YtipljeomgdomnaaGreatDoor
/- L1 -/
namespace Go.Proofs.YtipljeomgdomnaaGreatDoor
open Go

/-- a call: which, who, a filter, on or off, a topic -/
abbrev OpT := Int × Int × Str × Bool × Str
abbrev enO (x : OpT) : List Value := [.int .i64 x.1, .int .i64 x.2.1, sv x.2.2.1, .bool x.2.2.2.1, sv x.2.2.2.2]
theorem enO_len (x : OpT) : (enO x).length = 4 + 1 := rfl
theorem enO_cv (x : OpT) : (enO x).all cellV = true := rfl
abbrev opK : List CK := [.i .i64, .i .i64, .s, .b, .s]
theorem argOps {W : World} {v : Value} (h : ArgF W opK v) : ∃ l : List OpT, Rd 5 enO v l (whole W) := by
  obtain ⟨a, len, cap, rfl, hc, h⟩ := h
  rcases h with rfl | ⟨b, o, L, U, fz, rfl, hm, hf⟩
  · exact ⟨[], ⟨a, cap, rfl, hc, .inl rfl⟩⟩
  · obtain ⟨l, h1, -, h3⟩ := choose_elems (k := 5) (en := enO) (Q := fun _ => True) (L := L) (o := o) (len := len) fun i hi => by
      have hf := hf i hi
      obtain ⟨_, e0, n0, rfl, -⟩ := hf 0 _ rfl
      obtain ⟨_, e1, n1, rfl, -⟩ := hf 1 _ rfl
      obtain ⟨_, e2, n2, rfl, -⟩ := hf 2 _ rfl
      obtain ⟨_, e3, n3, rfl⟩ := hf 3 _ rfl
      obtain ⟨_, e4, n4, rfl, -⟩ := hf 4 _ rfl
      refine ⟨(n0, n1, n2, n3, n4), trivial, take_cells (enO (n0, n1, n2, n3, n4)) _ fun j x hj => ?_⟩
      match j, hj with
      | 0, hj => cases hj; exact e0
      | 1, hj => cases hj; exact e1
      | 2, hj => cases hj; exact e2
      | 3, hj => cases hj; exact e3
      | 4, hj => cases hj; exact e4
    subst h1
    exact ⟨l, ⟨_, cap, rfl, hc, .inr ⟨b, o, L, U, fz, rfl, whole_mem.2 hm, h3⟩⟩⟩
abbrev stK : List CK := [.s]
theorem argSts {W : World} {v : Value} (h : ArgF W stK v) : ∃ l : List Str, RdS v l (whole W) := by
  obtain ⟨a, len, cap, rfl, hc, h⟩ := h
  rcases h with rfl | ⟨b, o, L, U, fz, rfl, hm, hf⟩
  · exact ⟨[], ⟨a, cap, rfl, hc, .inl rfl⟩⟩
  · obtain ⟨l, h1, -, h3⟩ := choose_elems (k := 1) (en := fun x : Str => [sv x]) (Q := fun _ => True) (L := L) (o := o) (len := len) fun i hi => by
      have hf := hf i hi
      obtain ⟨_, e0, n0, rfl, -⟩ := hf 0 _ rfl
      refine ⟨n0, trivial, take_cells [sv n0] _ fun j x hj => ?_⟩
      match j, hj with
      | 0, hj => cases hj; exact e0
    subst h1
    exact ⟨l, ⟨_, cap, rfl, hc, .inr ⟨b, o, L, U, fz, rfl, whole_mem.2 hm, h3⟩⟩⟩
def cutO (x : OpT) : OpT := (x.1, x.2.1, x.2.2.1.take 120, x.2.2.2.1, x.2.2.2.2.take 120)
def cutOs (l : List OpT) : List OpT := (l.take 50).map cutO
theorem cutOs_len (l : List OpT) : (cutOs l).length ≤ 50 := by simp [cutOs]; omega
theorem cutOs_mem {l : List OpT} : ∀ x ∈ cutOs l, x.2.2.1.length ≤ 120 ∧ x.2.2.2.2.length ≤ 120 := fun x hx => by
  obtain ⟨y, -, rfl⟩ := List.mem_map.1 hx
  simp only [cutO, List.length_take]
  omega
theorem min120 (n : Nat) : (if (120 : Int) < (n : Int) then 120 else (n : Int)) = ((min n 120 : Nat) : Int) := by split <;> omega
theorem take_min120 (l : Str) : (l.drop 0).take (min l.length 120 - 0) = l.take 120 := by
  rw [List.drop_zero, Nat.sub_zero]
  rcases Nat.le_total l.length 120 with h | h
  · rw [Nat.min_eq_left h, List.take_length, List.take_of_length_le h]
  · rw [Nat.min_eq_right h]
theorem take120 (l : Str) : l.take (min l.length 120) = l.take 120 := by simpa using take_min120 l
theorem cut_spec {v : Value} {l : List OpT} {c : List Blk} (hr : Rd 5 enO v l c) : FN Tryz.prog 9 [v] [c] (fun u h => ∃ row, IsSl 33 5 u ((cutOs l).flatMap enO) row ∧ h = [row, c]) := by
  obtain ⟨a, cap, rfl, -, hr⟩ := hr
  refine FN.intro 42 [(0, .slice a l.length cap)] Tryz.func9 rfl (enters Tryz.func9 (by kernel_rfl) rfl) Tryz.ntmps9 rfl rfl ?_
  refine WP.seq <| WP.region <| v0 (S0.assign rfl) rfl <| vE <| WP.seq <| WP.region <| vnv (S1.buildSlice rfl (qs := []) rfl rfl) rfl fun b6 => v0 (S0.assign rfl) rfl <| vE <| WP.seq <| WP.seq <| WP.region <| v0 (S0.assign rfl) rfl <| vE <| WP.block <| ?_  -- Code.loop
  refine WP.loop (fun st : Nat × Value × List Blk => st.1 ≤ l.length ∧ st.1 ≤ 50 ∧ IsSl 33 5 st.2.1 (((l.take st.1).map cutO).flatMap enO) st.2.2) (fun st : Nat × Value × List Blk => [(0, .slice a l.length cap), (3, st.2.1), (4, .int .i64 (st.1 : Int))]) (fun st : Nat × Value × List Blk => [st.2.2, c]) (fun st : Nat × Value × List Blk => l.length - st.1) ((0, _, [(b6, .cells ⟨[]⟩ 33 (0, 0))])) (⟨Nat.zero_le _, Nat.zero_le _, IsSl.row (n := 0) (c := 0) (l := []) (sp := []) rfl rfl (Nat.le_refl _)⟩) ⟨rfl, rfl, rfl, trivial⟩ ⟨_, (take1 at0 (take1 at0 take0))⟩ (fun st hinv => ?_) 
  obtain ⟨i, ov, orow⟩ := st
  obtain ⟨hi, hi2, hosl⟩ := hinv
  dsimp only at hi hi2 hosl ⊢
  refine WP.seq <| WP.seq <| WP.region <| v0 (S0.move rfl) rfl <| v0 (S0.move rfl) rfl <| v0 (S0.lenSl rfl) rfl <| v0 (S0.cmp rfl rfl rfl) rfl <| v0 (S0.move rfl) rfl <| ?_  -- guard t11 (wants True) at t12 := move t4 [if #4=True]
  first | refine csP (t := 11) rfl (fun h1 => ?_) (fun h1 => ?_) | refine csN (t := 11) rfl (fun h1 => ?_) (fun h1 => ?_) | refine cs (t := 11) rfl (fun h1 => ?_) (fun h1 => ?_)
  · skip
    have hlt : i < l.length := by omega
    rcases hr with e | ⟨b, o, GL, U, fz, rfl, hmem, hel⟩
    · rw [e] at hlt; simp at hlt
    have : HasC c b (.cells ⟨GL⟩ U fz) := ⟨hmem⟩
    have hx : l[i]? = some l[i] := by simp [hlt]
    generalize l[i] = x at hx
    obtain ⟨x0, x1, x2, x3, x4⟩ := x
    have hele : (GL.drop (o + i * 5)).take 5 = [.int .i64 x0, .int .i64 x1, sv x2, .bool x3, sv x4] := hel i _ hx
    have htk := take_one hx
    refine gT rfl <| v0 (S0.move rfl) rfl <| gT rfl <| v0 (S0.cmp rfl rfl rfl) rfl <| v0 (S0.pickT rfl rfl) rfl <| vE <| ?_  -- cond
    first | refine WP.condP rfl (fun h2 => ?_) (fun h2 => ?_) | refine WP.condN rfl (fun h2 => ?_) (fun h2 => ?_) | refine WP.cond rfl (fun h2 => ?_) (fun h2 => ?_)
    · skip
      refine WP.skip <| WP.seq <| WP.block <| WP.seq <| WP.region <| v0 (S0.move rfl) rfl <| v0 (S0.move rfl) rfl <| ?_  -- op t19 := indexAddr 22 t17 t18
      refine v0 (S0.indexO (k := 5) rfl rfl hlt) rfl <| ?_
      refine v0 (S0.loadA rfl hele rfl) rfl <| ?_
      refine vn (S1.alloc) rfl fun b5 => vs (S1.storeA rfl rfl rfl) <| vE <| WP.seq <| WP.region <| v0 (S0.fieldAddr rfl) rfl <| v0 (S0.load rfl rfl) rfl <| v0 (S0.fieldAddr rfl) rfl <| v0 (S0.load rfl rfl) rfl <| v0 (S0.lenSt rfl) rfl <| v0 (S0.min2 rfl rfl rfl) rfl <| ?_  -- op t27 := slice 9 t22 none t26 none
      rw [min120]
      refine v0 (S0.sliceSt (i := 0) (j := min x2.length 120) rfl rfl rfl ⟨Nat.zero_le _, by omega⟩) rfl <| ?_
      rw [take_min120]
      refine v0 (S0.fieldAddr rfl) rfl <| vs (S1.store rfl rfl (by first | rfl | exact IsSl.cv (by assumption))) <| vE <| WP.seq <| WP.region <| v0 (S0.fieldAddr rfl) rfl <| v0 (S0.load rfl rfl) rfl <| v0 (S0.fieldAddr rfl) rfl <| v0 (S0.load rfl rfl) rfl <| v0 (S0.lenSt rfl) rfl <| v0 (S0.min2 rfl rfl rfl) rfl <| ?_  -- op t35 := slice 9 t30 none t34 none
      rw [min120]
      refine v0 (S0.sliceSt (i := 0) (j := min x4.length 120) rfl rfl rfl ⟨Nat.zero_le _, by omega⟩) rfl <| ?_
      rw [take_min120]
      refine v0 (S0.fieldAddr rfl) rfl <| vs (S1.store rfl rfl (by first | rfl | exact IsSl.cv (by assumption))) <| vE <| WP.region <| v0 (S0.move rfl) rfl <| v0 (S0.loadAL rfl) rfl <| vnv (S1.buildSlice rfl (qs := [(0, _)]) rfl rfl) rfl fun b39 => ?_  -- op t40 := append(t37, t39) :[22, 22]
      refine ve (S1.appendL rfl hosl rfl rfl (atS (atS at0)) rfl rfl (by rw [flat_len enO_len]; simp; omega)) rfl ?_
      rintro v2 _ ⟨row2, hsl2, rfl⟩
      have hsl3 : IsSl 33 5 v2 (((l.take (i + 1)).map cutO).flatMap enO) row2 := by
        rw [htk, List.map_append, List.flatMap_append]
        simpa [cutO] using hsl2
      refine v0 (S0.assign rfl) rfl <| vE <| WP.region <| v0 (S0.move rfl) rfl <| v0 (S0.ari rfl rfl rfl (wrap_i64 (by omega))) rfl <| v0 (S0.assign rfl) rfl <| vE <| ?_  -- roundend
      exact ⟨(i + 1, v2, row2), (by first | exact ⟨hlt, by omega, hsl3⟩ | (dsimp only; exact ⟨hlt, by omega, hsl3⟩)), (show l.length - (i + 1) < l.length - i by omega), ⟨⟨rfl, rfl, rfl, trivial⟩, rfl, rfl⟩, ⟨_, (take1 at0 (take1 (atS (atS at0)) take0))⟩⟩
    · skip
      refine WP.exit <| WP.seq <| WP.region <| v0 (S0.move rfl) rfl <| v0 (S0.assign rfl) rfl <| vE <| WP.ret <| ?_  -- ret
      refine r1 rfl rfl ?_
      exact ⟨orow, by rw [cutOs, ← show i = 50 by omega]; exact hosl, rfl⟩
  · skip
    refine gF rfl rfl <| gF rfl rfl <| v0 (S0.pickF rfl rfl) rfl <| vE <| WP.condF rfl <| WP.exit <| WP.seq <| WP.region <| v0 (S0.move rfl) rfl <| v0 (S0.assign rfl) rfl <| vE <| WP.ret <| ?_  -- ret
    refine r1 rfl rfl ?_
    exact ⟨orow, by rw [cutOs, List.take_of_length_le (by omega)]; rw [List.take_of_length_le (by omega)] at hosl; exact hosl, rfl⟩
theorem idsK_le {L : Asks} {m : Nat} (hb : AskB L m) (s : Str) : (idsK L s).length ≤ m := by
  have h1 := idsN_len L s L.length
  have h2 := hb.len
  have h3 : idsK L s = idsN L s L.length := by simp [idsK, idsN]
  rw [h3]; omega
/-- what a call makes of the devices' asks, and of the children's -/
def opA (A : Asks) (x : OpT) : Asks := if x.1 = 0 then setR A x.2.2.1 x.2.1 x.2.2.2.1 else A
def opB (B : Asks) (x : OpT) : Asks := if x.1 = 0 then B else if x.1 = 1 then setR B x.2.2.1 x.2.1 x.2.2.2.1 else leaveK B x.2.1
theorem Fine.opA {A : Asks} {m : Nat} (h : Fine A m) (x : OpT) : Fine (opA A x) (m + 1) := by
  unfold Go.Proofs.YtipljeomgdomnaaGreatDoor.opA
  split
  · exact h.set _ _ _
  · exact h.mono (Nat.le_succ m)
theorem Fine.opB {B : Asks} {m : Nat} (h : Fine B m) (x : OpT) : Fine (opB B x) (m + 1) := by
  unfold Go.Proofs.YtipljeomgdomnaaGreatDoor.opB
  split
  · exact h.mono (Nat.le_succ m)
  · split
    · exact h.set _ _ _
    · exact h.leave _
theorem play_spec {tb rb : Nat} {A B : Asks} {c rc : List Blk} {m : Nat} (hT : IsTb tb A B c) (hR : IsRB rb A B rc) (hA : Fine A m) (hB : Fine B m) (hm : m ≤ 400) {x : OpT} (hx : x.2.2.1.length ≤ 1000) :
    FN Tryz.prog 11 [.pointer (some ⟨tb, 0, none⟩), .pointer (some ⟨rb, 0, none⟩), .agg ⟨enO x⟩] [c, rc] (fun v h => ∃ c' rc', v = .bool true ∧ IsTb tb (opA A x) (opB B x) c' ∧ IsRB rb (opA A x) (opB B x) rc' ∧ h = [c', rc']) := by
  obtain ⟨va, vb, ra, rb', hsa, hsb, rfl⟩ := hR
  refine FN.intro 82 [(0, .pointer (some ⟨tb, 0, none⟩)), (1, .pointer (some ⟨rb, 0, none⟩)), (2, .agg ⟨enO x⟩)] Tryz.func11 rfl (enters Tryz.func11 (by kernel_rfl) rfl) Tryz.ntmps11 rfl rfl ?_
  refine WP.perm (h' := [c, [(rb, cel [va, vb] 30)], ra, rb']) (k := []) (List.Perm.of_eq (by first | rfl | simp)) ?_
  refine WP.seq <| WP.region <| vn (S1.box rfl rfl) rfl fun b5 => v0 (S0.assign rfl) rfl <| vE <| WP.seq <| WP.seq <| WP.region <| v0 (S0.fieldAddr rfl) rfl <| v0 (S0.load rfl rfl) rfl <| vE <| WP.block <| WP.seq <| WP.region <| v0 (S0.cmp rfl rfl rfl) rfl <| v0 (S0.assign rfl) rfl <| vE <| ?_  -- cond
  first | refine WP.condP rfl (fun h0 => ?_) (fun h0 => ?_) | refine WP.condN rfl (fun h0 => ?_) (fun h0 => ?_) | refine WP.cond rfl (fun h0 => ?_) (fun h0 => ?_)
  · skip
    have eA : opA A x = setR A x.2.2.1 x.2.1 x.2.2.2.1 := by rw [opA, if_pos h0]
    have eB : opB B x = B := by rw [opB, if_pos h0]
    rw [eA, eB]
    skip
    refine WP.seq <| WP.drawP [(0, none), (1, none), (2, none), (3, none), (4, none), (5, none), (6, none), (7, none), (8, none), (9, none), (10, none), (11, none), (12, none), (13, none), (14, none), (15, none)] mixed (by kernel_rfl) (by kernel_rfl) (by kernel_rfl) (take1 at0 (take1 (atS at0) take0)) <| w0 rfl rfl rfl (S0.move rfl) rfl <| w0 rfl rfl rfl (S0.nilCheck rfl) rfl <| w0 rfl rfl rfl (S0.fieldAddr rfl) rfl <| w0 rfl rfl rfl (S0.load rfl rfl) rfl <| w0 rfl rfl rfl (S0.fieldAddr rfl) rfl <| w0 rfl rfl rfl (S0.load rfl rfl) rfl <| w0 rfl rfl rfl (S0.fieldAddr rfl) rfl <| w0 rfl rfl rfl (S0.load rfl rfl) rfl <| w0 rfl rfl rfl (S0.fieldAddr rfl) rfl <| w0 rfl rfl rfl (S0.load rfl rfl) rfl <| ?_  -- op t26 := call F29{rivulet/rivuletref18.Set}(t19, t21, t23, t25)
    refine wc rfl rfl rfl rfl (S1.callF rfl (rset_spec hsa hA (by omega) hx x.2.1 x.2.2.2.1) (take1 (atS at0) take0)) rfl ?_
    rintro _ _ ⟨v', row', rfl, hs', rfl⟩
    refine wapp ?_
    have hcv := IsSl.cv hs'
    refine w0 rfl rfl rfl (S0.move rfl) rfl <| w0 rfl rfl rfl (S0.extract rfl rfl) rfl <| w0 rfl rfl rfl (S0.extract rfl rfl) rfl <| w0 rfl rfl rfl (S0.assign rfl) rfl <| w0 rfl rfl rfl (S0.assign rfl) rfl <| wE <| WP.seq <| WP.region <| v0 (S0.move rfl) rfl <| v0 (S0.move rfl) rfl <| v0 (S0.nilCheck rfl) rfl <| v0 (S0.fieldAddr rfl) rfl <| vs (S1.store rfl rfl (by first | rfl | exact IsSl.cv (by assumption))) <| vE <| WP.seq <| WP.region <| v0 (S0.move rfl) rfl <| v0 (S0.fieldAddr rfl) rfl <| v0 (S0.load rfl rfl) rfl <| v0 (S0.fieldAddr rfl) rfl <| v0 (S0.load rfl rfl) rfl <| v0 (S0.fieldAddr rfl) rfl <| v0 (S0.load rfl rfl) rfl <| ?_  -- op t40 := call F22{(*rivulet/table.Table).Own}(t33, t35, t37, t39)
    refine vc (S1.callF rfl (own_spec hT hA.b (by omega) hx x.2.1 x.2.2.2.1) (take1 (atS (atS (atS at0))) take0)) rfl ?_
    rintro _ _ ⟨c', rfl, hT', rfl⟩
    refine app ?_
    refine v0 (S0.move rfl) rfl <| v0 (S0.cmp rfl rfl rfl) rfl <| v0 (S0.assign rfl) rfl <| vE <| WP.ret <| ?_  -- ret
    refine Leaves.drop (h' := [c', (rb, cel [v', vb] 30) :: (row' ++ rb')]) (k := [[(b5, cel (enO x) 33)]]) (pm fun a_ => by (try simp only [List.flatten_append, List.flatten_cons, List.flatten_nil, List.append_nil, List.cons_append, List.nil_append, List.append_assoc, nOf_app, nOf_cons, nOf_nil, Nat.add_zero, Nat.zero_add, List.map_append, List.map_cons, List.map_nil, cel, sv]); omega) ?_
    refine r1 rfl rfl ?_
    exact ⟨c', _, by simp, hT', ⟨_, _, _, _, hs', hsb, rfl⟩, rfl⟩
  · skip
    refine WP.seq <| WP.region <| v0 (S0.cmp rfl rfl rfl) rfl <| v0 (S0.assign rfl) rfl <| vE <| ?_  -- cond
    first | refine WP.condP rfl (fun h1 => ?_) (fun h1 => ?_) | refine WP.condN rfl (fun h1 => ?_) (fun h1 => ?_) | refine WP.cond rfl (fun h1 => ?_) (fun h1 => ?_)
    · skip
      have eA : opA A x = A := by rw [opA, if_neg h0]
      have eB : opB B x = setR B x.2.2.1 x.2.1 x.2.2.2.1 := by rw [opB, if_neg h0, if_pos h1]
      rw [eA, eB]
      skip
      refine WP.seq <| WP.drawP [(0, none), (1, none), (2, none), (3, none), (4, none), (5, none), (6, none), (7, none), (8, none), (9, none), (10, none), (11, none), (12, none), (13, none), (14, none), (15, none)] mixed (by kernel_rfl) (by kernel_rfl) (by kernel_rfl) (take1 at0 (take1 (atS at0) take0)) <| w0 rfl rfl rfl (S0.move rfl) rfl <| w0 rfl rfl rfl (S0.nilCheck rfl) rfl <| w0 rfl rfl rfl (S0.fieldAddr rfl) rfl <| w0 rfl rfl rfl (S0.load rfl rfl) rfl <| w0 rfl rfl rfl (S0.fieldAddr rfl) rfl <| w0 rfl rfl rfl (S0.load rfl rfl) rfl <| w0 rfl rfl rfl (S0.fieldAddr rfl) rfl <| w0 rfl rfl rfl (S0.load rfl rfl) rfl <| w0 rfl rfl rfl (S0.fieldAddr rfl) rfl <| w0 rfl rfl rfl (S0.load rfl rfl) rfl <| ?_  -- op t56 := call F29{rivulet/rivuletref18.Set}(t49, t51, t53, t55)
      refine wc rfl rfl rfl rfl (S1.callF rfl (rset_spec hsb hB (by omega) hx x.2.1 x.2.2.2.1) (take1 (atS (atS at0)) take0)) rfl ?_
      rintro _ _ ⟨v', row', rfl, hs', rfl⟩
      refine wapp ?_
      have hcv := IsSl.cv hs'
      refine w0 rfl rfl rfl (S0.move rfl) rfl <| w0 rfl rfl rfl (S0.extract rfl rfl) rfl <| w0 rfl rfl rfl (S0.extract rfl rfl) rfl <| w0 rfl rfl rfl (S0.assign rfl) rfl <| w0 rfl rfl rfl (S0.assign rfl) rfl <| wE <| WP.seq <| WP.region <| v0 (S0.move rfl) rfl <| v0 (S0.move rfl) rfl <| v0 (S0.nilCheck rfl) rfl <| v0 (S0.fieldAddr rfl) rfl <| vs (S1.store rfl rfl (by first | rfl | exact IsSl.cv (by assumption))) <| vE <| WP.seq <| WP.region <| v0 (S0.move rfl) rfl <| v0 (S0.fieldAddr rfl) rfl <| v0 (S0.load rfl rfl) rfl <| v0 (S0.fieldAddr rfl) rfl <| v0 (S0.load rfl rfl) rfl <| v0 (S0.fieldAddr rfl) rfl <| v0 (S0.load rfl rfl) rfl <| ?_  -- op t70 := call F23{(*rivulet/table.Table).Want}(t63, t65, t67, t69)
      refine vc (S1.callF rfl (want_spec hT hB.b (by omega) hx x.2.1 x.2.2.2.1) (take1 (atS (atS (atS at0))) take0)) rfl ?_
      rintro _ _ ⟨c', rfl, hT', rfl⟩
      refine app ?_
      refine v0 (S0.move rfl) rfl <| v0 (S0.cmp rfl rfl rfl) rfl <| v0 (S0.assign rfl) rfl <| vE <| WP.ret <| ?_  -- ret
      refine Leaves.drop (h' := [c', (rb, cel [va, v'] 30) :: (ra ++ row')]) (k := [[(b5, cel (enO x) 33)]]) (pm fun a_ => by (try simp only [List.flatten_append, List.flatten_cons, List.flatten_nil, List.append_nil, List.cons_append, List.nil_append, List.append_assoc, nOf_app, nOf_cons, nOf_nil, Nat.add_zero, Nat.zero_add, List.map_append, List.map_cons, List.map_nil, cel, sv]); omega) ?_
      refine r1 rfl rfl ?_
      exact ⟨c', _, by simp, hT', ⟨_, _, _, _, hsa, hs', rfl⟩, rfl⟩
    · skip
      have eA : opA A x = A := by rw [opA, if_neg h0]
      have eB : opB B x = leaveK B x.2.1 := by rw [opB, if_neg h0, if_neg h1]
      rw [eA, eB]
      refine WP.perm (h' := [[(b5, cel (enO x) 33)], c, (rb, cel [va, vb] 30) :: (ra ++ rb')]) (k := []) (List.Perm.of_eq (by first | rfl | simp)) ?_
      skip
      refine WP.skip <| WP.seq <| WP.drawP [(0, none), (1, none), (2, none), (4, none), (5, none), (6, none), (3, none), (7, none), (8, none), (9, none)] mixed (by kernel_rfl) (by kernel_rfl) (by kernel_rfl) (take1 at0 take0) <| w0 rfl rfl rfl (S0.move rfl) rfl <| w0 rfl rfl rfl (S0.fieldAddr rfl) rfl <| w0 rfl rfl rfl (S0.load rfl rfl) rfl <| w0 rfl rfl rfl (S0.move rfl) rfl <| w0 rfl rfl rfl (S0.fieldAddr rfl) rfl <| w0 rfl rfl rfl (S0.load rfl rfl) rfl <| ?_  -- op t76 := call F24{(*rivulet/table.Table).Leave}(t73, t75)
      refine wc rfl rfl rfl rfl (S1.callF rfl (tleave_spec hT hB.b (by omega) x.2.1) (take1 at0 take0)) rfl ?_
      rintro _ _ ⟨c', rfl, hT', rfl⟩
      refine wapp ?_
      refine wc rfl rfl rfl rfl (S1.callF rfl (rtleave_spec ⟨_, _, _, _, hsa, hsb, rfl⟩ hB (by omega) x.2.1) (take1 (atS at0) take0)) rfl ?_
      rintro _ _ ⟨rc', rfl, hR', rfl⟩
      refine wapp ?_
      refine w0 rfl rfl rfl (S0.cmp rfl rfl rfl) rfl <| w0 rfl rfl rfl (S0.assign rfl) rfl <| wE <| WP.ret <| ?_  -- ret
      refine Leaves.drop (take1 (atS (atS at0)) (take1 (atS at0) take0)) ?_
      refine r1 rfl rfl ?_
      exact ⟨c', rc', by simp, hT', hR', rfl⟩
end Go.Proofs.YtipljeomgdomnaaGreatDoor
/- L2 -/
namespace Go.Proofs.YtipljeomgdomnaaGreatDoor
open Go

theorem ownc {tb : Nat} {A A' B : Asks} {c : List Blk} {E : Int} {f : Str} {i : Int} {on : Bool} (h : IsTb tb A B c) (hb : AskB A 100) (hf : f.length ≤ 1000) (e : setE A f i on = E ∧ setR A f i on = A') :
    FN Tryz.prog 22 [.pointer (some ⟨tb, 0, none⟩), .int .i64 i, sv f, .bool on] [c] (fun v h => ∃ c', v = .int .i64 E ∧ IsTb tb A' B c' ∧ h = [c']) := by
  obtain ⟨rfl, rfl⟩ := e
  exact own_spec h hb (by decide) hf i on
theorem wantc {tb : Nat} {A B B' : Asks} {c : List Blk} {E : Int} {f : Str} {i : Int} {on : Bool} (h : IsTb tb A B c) (hb : AskB B 100) (hf : f.length ≤ 1000) (e : setE B f i on = E ∧ setR B f i on = B') :
    FN Tryz.prog 23 [.pointer (some ⟨tb, 0, none⟩), .int .i64 i, sv f, .bool on] [c] (fun v h => ∃ c', v = .int .i64 E ∧ IsTb tb A B' c' ∧ h = [c']) := by
  obtain ⟨rfl, rfl⟩ := e
  exact want_spec h hb (by decide) hf i on
abbrev sB : Str := [97, 47, 98]
abbrev sP : Str := [97, 47, 43]
theorem row_int {b n : Nat} {l : List Int} (h : l.length = n) : IsSl 3 1 (.slice (some ⟨b, 0, none⟩) n n) (ints l) [(b, .cells ⟨ints l⟩ 3 (0, 0))] := by
  have := (IsSl.row (E := 3) (k := 1) (b := b) (n := n) (c := n) (l := ints l) (sp := []) (by simp [ints, h]) (by simp [ints, h]) (Nat.le_refl _))
  rwa [List.append_nil] at this
theorem row_str {b n : Nat} {l : List Str} (h : l.length = n) : RdS (.slice (some ⟨b, 0, none⟩) n n) l [(b, .cells ⟨strs l⟩ 9 (0, 0))] := by
  have := IsSl.rdS (E := 9) (R := l) (IsSl.row (E := 9) (k := 1) (b := b) (n := n) (c := n) (l := strs l) (sp := []) (by simp [strs, h]) (by simp [strs, h]) (Nat.le_refl _))
  rwa [List.append_nil] at this
theorem fineB : Fine [(sB, 1, 1)] 100 := ⟨⟨by decide, by decide, by decide +kernel⟩, by unfold Ones; decide, ⟨by decide, by decide⟩⟩
theorem fineBP : Fine [(sB, 1, 1), (sP, 1, 1)] 100 := ⟨⟨by decide, by decide, by decide +kernel⟩, by unfold Ones; decide, ⟨by decide, by decide⟩⟩
set_option maxRecDepth 100000 in
theorem fixed_spec : FN Tryz.prog 21 [] [] (is (.bool true) []) := by
  have eU : upS [(sB, 1, 1)] [(sB, 1, 1), (sP, 1, 1)] = [sP] := by decide +kernel
  have eU2 : upS [(sB, 1, 1)] [] = [sB] := by decide +kernel
  have eX : withoutS (cleanS [sP]) (cleanS [[99], sP]) = [] := by decide +kernel
  have eY : withoutS (cleanS [[99], sP]) (cleanS [sP]) = [[99]] := by decide +kernel
  have eO : ofK [(sB, 1, 1), (sP, 1, 1)] 1 = [sP, sB] := by decide +kernel
  have eL : leaveK [(sB, 1, 1), (sP, 1, 1)] 1 = [] := by decide +kernel
  have eD : idsK [(sB, 1, 1)] [97, 47, 98] = [1] := by decide +kernel
  have eD2 : idsK [(sB, 1, 1)] [97, 47, 99] = [] := by decide +kernel
  have eC : ∀ s, idsK [] s = [] := fun s => rfl
  refine FN.intro 105 [] Tryz.func21 rfl (enters Tryz.func21 (by kernel_rfl) rfl) Tryz.ntmps21 rfl rfl ?_
  refine WP.seq <| WP.region <| v0 (S0.assign rfl) rfl <| vE <| WP.seq <| WP.region <| ?_  -- op t12 := call F10{rivulet/table.New}()
  refine vc (S1.callF rfl (tnew_spec) take0) rfl ?_
  rintro _ _ ⟨tb, c0, rfl, h0, rfl⟩
  refine app ?_
  refine v0 (S0.assign rfl) rfl <| vE <| WP.seq <| WP.seq <| WP.region <| v0 (S0.move rfl) rfl <| v0 (S0.nilP rfl rfl rfl rfl) rfl <| vE <| ?_  -- cond
  refine WP.condFh rfl (rfl) ?_
  refine WP.skip <| WP.seq <| WP.region <| v0 (S0.move rfl) rfl <| ?_  -- op t16 := call F22{(*rivulet/table.Table).Own}(t15, 1:i64, Value.string {'data': [97, 47, 98]}, true)
  refine vc (S1.callF rfl (ownc (f := [97, 47, 98]) (i := 1) (on := true) (E := 0) (A' := [(sB, 1, 1)]) h0 ⟨by decide, by decide⟩ (by decide) (by decide +kernel)) (take1 at0 take0)) rfl ?_
  rintro _ _ ⟨c1, rfl, h1, rfl⟩
  refine app ?_
  refine v0 (S0.move rfl) rfl <| ?_  -- op t18 := call F22{(*rivulet/table.Table).Own}(t17, 1:i64, Value.string {'data': [97, 47, 98]}, true)
  refine vc (S1.callF rfl (ownc (f := [97, 47, 98]) (i := 1) (on := true) (E := 9) (A' := [(sB, 1, 1)]) h1 ⟨by decide, by decide⟩ (by decide) (by decide +kernel)) (take1 at0 take0)) rfl ?_
  rintro _ _ ⟨c2, rfl, h2, rfl⟩
  refine app ?_
  refine v0 (S0.move rfl) rfl <| ?_  -- op t20 := call F23{(*rivulet/table.Table).Want}(t19, 1:i64, Value.string {'data': [97, 47, 98]}, true)
  refine vc (S1.callF rfl (wantc (f := [97, 47, 98]) (i := 1) (on := true) (E := 0) (B' := [(sB, 1, 1)]) h2 ⟨by decide, by decide⟩ (by decide) (by decide +kernel)) (take1 at0 take0)) rfl ?_
  rintro _ _ ⟨c3, rfl, h3, rfl⟩
  refine app ?_
  refine v0 (S0.assign rfl) rfl <| v0 (S0.assign rfl) rfl <| v0 (S0.assign rfl) rfl <| vE <| WP.seq <| WP.region <| v0 (S0.move rfl) rfl <| ?_  -- op t22 := call F23{(*rivulet/table.Table).Want}(t21, 1:i64, Value.string {'data': [97, 47, 43]}, true)
  refine vc (S1.callF rfl (wantc (f := [97, 47, 43]) (i := 1) (on := true) (E := 0) (B' := [(sB, 1, 1), (sP, 1, 1)]) h3 ⟨by decide, by decide⟩ (by decide) (by decide +kernel)) (take1 at0 take0)) rfl ?_
  rintro _ _ ⟨c4, rfl, h4, rfl⟩
  refine app ?_
  refine v0 (S0.move rfl) rfl <| ?_  -- op t24 := call F22{(*rivulet/table.Table).Own}(t23, 2:i64, Value.string {'data': [97]}, false)
  refine vc (S1.callF rfl (ownc (f := [97]) (i := 2) (on := false) (E := 8) (A' := [(sB, 1, 1)]) h4 ⟨by decide, by decide⟩ (by decide) (by decide +kernel)) (take1 at0 take0)) rfl ?_
  rintro _ _ ⟨c5, rfl, h5, rfl⟩
  refine app ?_
  refine v0 (S0.move rfl) rfl <| ?_  -- op t26 := call F22{(*rivulet/table.Table).Own}(t25, 1:i64, Value.string {'data': [63]}, true)
  refine vc (S1.callF rfl (ownc (f := [63]) (i := 1) (on := true) (E := 1) (A' := [(sB, 1, 1)]) h5 ⟨by decide, by decide⟩ (by decide) (by decide +kernel)) (take1 at0 take0)) rfl ?_
  rintro _ _ ⟨c6, rfl, h6, rfl⟩
  refine app ?_
  refine v0 (S0.assign rfl) rfl <| v0 (S0.assign rfl) rfl <| v0 (S0.assign rfl) rfl <| vE <| WP.seq <| WP.region <| v0 (S0.move rfl) rfl <| ?_  -- op t28 := call F16{(*rivulet/table.Table).Up}(t27)
  refine vc (S1.callF rfl (up_spec h6 fineB fineBP (by decide)) (take1 at0 take0)) rfl ?_
  rintro uv _ ⟨ur, su, rfl⟩
  refine app ?_
  rw [eU] at su
  refine v0 (S0.assign rfl) rfl <| vE <| WP.seq <| WP.region <| v0 (S0.move rfl) rfl <| vnv (S1.buildSlice rfl (qs := [(0, _), (1, _)]) rfl rfl) rfl fun b31 => ?_  -- op t32 := call F12{(*rivulet/table.Table).Diff}(t30, t31)
  refine vc (S1.callF rfl (tdiff_spec h6 fineB fineBP (by decide) (row_str (l := [[99], sP]) rfl) (by decide) (by decide)) (take1 (atS (atS at0)) (take1 at0 take0))) rfl ?_
  rintro _ _ ⟨v1, v2, q1, q2, sx, sy, rfl, rfl⟩
  refine app ?_
  rw [eU, eX] at sx
  rw [eU, eY] at sy
  obtain ⟨xa, xc, rfl, -, -⟩ := sx.strsE
  refine v0 (S0.move rfl) rfl <| v0 (S0.extract rfl rfl) rfl <| v0 (S0.extract rfl rfl) rfl <| v0 (S0.assign rfl) rfl <| v0 (S0.assign rfl) rfl <| vE <| WP.seq <| WP.region <| v0 (S0.move rfl) rfl <| ?_  -- op t36 := call F24{(*rivulet/table.Table).Leave}(t35, 1:i64)
  refine vc (S1.callF rfl (tleave_spec h6 fineBP.b (by decide) 1) (take1 (atS (atS at0)) take0)) rfl ?_
  rintro _ _ ⟨c7, rfl, h7, rfl⟩
  refine app ?_
  rw [eO]
  rw [eL] at h7
  refine v0 (S0.assign rfl) rfl <| vE <| WP.seq <| WP.region <| v0 (S0.move rfl) rfl <| v0 (S0.cmp rfl rfl rfl) rfl <| v0 (S0.move rfl) rfl <| ?_  -- guard t39 (wants True) at t40 := move t3 [if #2=True]
  refine csTh (t := 39) rfl (rfl) ?_
  refine gT rfl <| v0 (S0.move rfl) rfl <| gT rfl <| v0 (S0.cmp rfl rfl rfl) rfl <| v0 (S0.pickT rfl rfl) rfl <| v0 (S0.move rfl) rfl <| ?_  -- guard t43 (wants True) at t44 := move t4 [if #6=True]
  refine csTh (t := 43) rfl (rfl) ?_
  refine gT rfl <| v0 (S0.move rfl) rfl <| gT rfl <| v0 (S0.cmp rfl rfl rfl) rfl <| v0 (S0.pickT rfl rfl) rfl <| v0 (S0.move rfl) rfl <| ?_  -- guard t47 (wants True) at t48 := move t5 [if #10=True]
  refine csTh (t := 47) rfl (rfl) ?_
  refine gT rfl <| v0 (S0.move rfl) rfl <| gT rfl <| v0 (S0.cmp rfl rfl rfl) rfl <| v0 (S0.pickT rfl rfl) rfl <| v0 (S0.move rfl) rfl <| ?_  -- guard t51 (wants True) at t52 := move t6 [if #14=True]
  refine csTh (t := 51) rfl (rfl) ?_
  refine gT rfl <| v0 (S0.move rfl) rfl <| gT rfl <| v0 (S0.cmp rfl rfl rfl) rfl <| v0 (S0.pickT rfl rfl) rfl <| v0 (S0.move rfl) rfl <| ?_  -- guard t55 (wants True) at t56 := move t7 [if #18=True]
  refine csTh (t := 55) rfl (rfl) ?_
  refine gT rfl <| v0 (S0.move rfl) rfl <| gT rfl <| v0 (S0.cmp rfl rfl rfl) rfl <| v0 (S0.pickT rfl rfl) rfl <| v0 (S0.move rfl) rfl <| ?_  -- guard t59 (wants True) at t60 := move t8 [if #22=True]
  refine csTh (t := 59) rfl (rfl) ?_
  refine gT rfl <| v0 (S0.move rfl) rfl <| gT rfl <| vnv (S1.buildSlice rfl (qs := [(0, _)]) rfl rfl) rfl fun b61 => ?_  -- op t62 := call F15{rivulet/rivuletref02.Same}(t60, t61) [if #22=True]
  refine gT rfl <| vcd (S1.callF rfl (same_spec su.rdS (row_str (l := [sP]) rfl) (by decide)) (take1 (atS (atS (atS (atS (atS at0))))) (take1 at0 take0))) rfl ?_
  refine v0 (S0.pickT rfl rfl) rfl <| v0 (S0.move rfl) rfl <| ?_  -- guard t64 (wants True) at t65 := move t9 [if #27=True]
  refine csTh (t := 64) rfl (rfl) ?_
  refine gT rfl <| v0 (S0.move rfl) rfl <| gT rfl <| v0 (S0.lenSl rfl) rfl <| gT rfl <| v0 (S0.cmp rfl rfl rfl) rfl <| v0 (S0.pickT rfl rfl) rfl <| v0 (S0.move rfl) rfl <| ?_  -- guard t69 (wants True) at t70 := move t10 [if #32=True]
  refine csTh (t := 69) rfl (rfl) ?_
  refine gT rfl <| v0 (S0.move rfl) rfl <| gT rfl <| vnv (S1.buildSlice rfl (qs := [(0, _)]) rfl rfl) rfl fun b71 => ?_  -- op t72 := call F15{rivulet/rivuletref02.Same}(t70, t71) [if #32=True]
  refine gT rfl <| vcd (S1.callF rfl (same_spec sy.rdS (row_str (l := [[99]]) rfl) (by decide)) (take1 (atS (atS (atS (atS (atS at0))))) (take1 at0 take0))) rfl ?_
  refine v0 (S0.pickT rfl rfl) rfl <| v0 (S0.move rfl) rfl <| ?_  -- guard t74 (wants True) at t75 := move t11 [if #37=True]
  refine csTh (t := 74) rfl (rfl) ?_
  refine gT rfl <| v0 (S0.move rfl) rfl <| gT rfl <| v0 (S0.cmp rfl rfl rfl) rfl <| v0 (S0.pickT rfl rfl) rfl <| v0 (S0.move rfl) rfl <| ?_  -- guard t78 (wants True) at t79 := move t1 [if #41=True]
  refine csTh (t := 78) rfl (rfl) ?_
  refine gT rfl <| v0 (S0.move rfl) rfl <| ?_  -- op t80 := call F16{(*rivulet/table.Table).Up}(t79) [if #41=True]
  refine gT rfl <| vc (S1.callF rfl (up_spec h7 fineB (Fine.nil 100) (by decide)) (take1 (atS (atS (atS (atS at0)))) take0)) rfl ?_
  rintro uv2 _ ⟨ur2, su2, rfl⟩
  refine app ?_
  rw [eU2] at su2
  refine gT rfl <| vnv (S1.buildSlice rfl (qs := [(0, _)]) rfl rfl) rfl fun b81 => ?_  -- op t82 := call F15{rivulet/rivuletref02.Same}(t80, t81) [if #41=True]
  refine gT rfl <| vcd (S1.callF rfl (same_spec su2.rdS (row_str (l := [sB]) rfl) (by decide)) (take1 (atS at0) (take1 at0 take0))) rfl ?_
  refine v0 (S0.pickT rfl rfl) rfl <| v0 (S0.move rfl) rfl <| ?_  -- guard t84 (wants True) at t85 := move t1 [if #47=True]
  refine csTh (t := 84) rfl (rfl) ?_
  refine gT rfl <| v0 (S0.move rfl) rfl <| ?_  -- op t86 := call F18{(*rivulet/table.Table).Devices}(t85, Value.string {'data': [97, 47, 98]}) [if #47=True]
  refine gT rfl <| vc (S1.callF rfl (devices_spec h7 fineB.b (by decide) (s := [97, 47, 98]) (by decide)) (take1 (atS (atS at0)) take0)) rfl ?_
  rintro dv _ ⟨dr, sd, rfl⟩
  refine app ?_
  rw [eD] at sd
  refine gT rfl <| vnv (S1.buildSlice rfl (qs := [(0, _)]) rfl rfl) rfl fun b87 => ?_  -- op t88 := call F17{rivulet/rivuletref04.Ints}(t86, t87) [if #47=True]
  refine gT rfl <| vcd (S1.callF rfl (ints_spec sd (row_int (l := [1]) rfl) (by decide)) (take1 (atS at0) (take1 at0 take0))) rfl ?_
  refine v0 (S0.pickT rfl rfl) rfl <| v0 (S0.move rfl) rfl <| ?_  -- guard t90 (wants True) at t91 := move t1 [if #53=True]
  refine csTh (t := 90) rfl (rfl) ?_
  refine gT rfl <| v0 (S0.move rfl) rfl <| ?_  -- op t92 := call F20{(*rivulet/table.Table).Children}(t91, Value.string {'data': [97, 47, 98]}) [if #53=True]
  refine gT rfl <| vc (S1.callF rfl (children_spec h7 (AskB.nil 100) (by decide) (s := [97, 47, 98]) (by decide)) (take1 (atS (atS at0)) take0)) rfl ?_
  rintro cv _ ⟨cr, sc, rfl⟩
  refine app ?_
  rw [eC] at sc
  obtain ⟨ca, cc, rfl, -, -⟩ := sc.intsE
  refine gT rfl <| v0 (S0.lenSl rfl) rfl <| gT rfl <| v0 (S0.cmp rfl rfl rfl) rfl <| v0 (S0.pickT rfl rfl) rfl <| v0 (S0.move rfl) rfl <| ?_  -- guard t96 (wants True) at t97 := move t1 [if #59=True]
  refine csTh (t := 96) rfl (rfl) ?_
  refine gT rfl <| v0 (S0.move rfl) rfl <| ?_  -- op t98 := call F25{(*rivulet/table.Table).Wanted}(t97, Value.string {'data': [97, 47, 98]}) [if #59=True]
  refine gT rfl <| vcd (S1.callF rfl (wanted_spec h7 fineB.b (AskB.nil 100) (by decide) (s := [97, 47, 98]) (by decide)) (take1 (atS at0) take0)) rfl ?_
  rw [eD, eC]
  refine v0 (S0.pickT rfl rfl) rfl <| v0 (S0.move rfl) rfl <| ?_  -- guard t100 (wants True) at t101 := move t1 [if #63=True]
  refine csTh (t := 100) rfl (rfl) ?_
  refine gT rfl <| v0 (S0.move rfl) rfl <| ?_  -- op t102 := call F25{(*rivulet/table.Table).Wanted}(t101, Value.string {'data': [97, 47, 99]}) [if #63=True]
  refine gT rfl <| vcd (S1.callF rfl (wanted_spec h7 fineB.b (AskB.nil 100) (by decide) (s := [97, 47, 99]) (by decide)) (take1 at0 take0)) rfl ?_
  rw [eD2, eC]
  refine gT rfl <| v0 (S0.not rfl) rfl <| v0 (S0.pickT rfl rfl) rfl <| v0 (S0.assign rfl) rfl <| vE <| WP.ret <| ?_  -- ret
  refine Leaves.drop take0 ?_
  refine r1 rfl rfl ⟨?_, rfl⟩
  rfl
end Go.Proofs.YtipljeomgdomnaaGreatDoor
/- L3 -/
namespace Go.Proofs.YtipljeomgdomnaaGreatDoor
open Go

def cutS (l : List Str) : List Str := (l.take 12).map (·.take 120)
theorem cutS_len (l : List Str) : (cutS l).length ≤ 12 := by simp [cutS]; omega
theorem cutS_mem {l : List Str} : ∀ x ∈ cutS l, x.length ≤ 1000 := fun x hx => by
  obtain ⟨y, -, rfl⟩ := List.mem_map.1 hx
  rw [List.length_take]; omega
theorem without_len (l m : List Str) : (withoutS l m).length ≤ l.length := List.length_filter_le _ _
/-- the document's Up, of three chunks -/
theorem rtup3_spec {rb : Nat} {A B : Asks} {va vb : Value} {ra rb' : List Blk} {m : Nat} (hsa : AskRow A va ra) (hsb : AskRow B vb rb') (hA : Fine A m) (hB : Fine B m) (hm : m ≤ 500) :
    FN Tryz.prog 14 [.pointer (some ⟨rb, 0, none⟩)] [[(rb, cel [va, vb] 30)], ra, rb'] (fun v h => ∃ row, IsSl 9 1 v (strs (upS A B)) row ∧ h = [row, [(rb, cel [va, vb] 30)], ra, rb']) :=
  FN.join (rtup_spec ⟨va, vb, ra, rb', hsa, hsb, rfl⟩ hA hB hm) (by simp) _ fun v h' ⟨row, hs, e⟩ => ⟨_, ⟨row, hs, rfl⟩, by rw [e]; simp⟩
set_option maxRecDepth 100000 in
set_option maxHeartbeats 1000000 in
theorem tableDoes_walk (W : World) (lv : Value) (hl : ArgF W opK lv) (sv0 : Value) (hsv : ArgF W stK sv0) : FN Tryz.prog 3 [lv, sv0] [whole W] (fun v h => v = .bool true ∧ h = [whole W]) := by
  obtain ⟨l0, hrl⟩ := argOps hl
  obtain ⟨l, hrs⟩ := argSts hsv
  have hll := cutOs_len l0
  have hlx := cutOs_mem (l := l0)
  obtain ⟨a, cap, rfl, -, hr⟩ := hrs
  refine FN.intro 137 [(0, lv), (1, .slice a l.length cap)] Tryz.func3 rfl (enters Tryz.func3 (by kernel_rfl) rfl) Tryz.ntmps3 rfl rfl ?_
  refine WP.seq <| WP.region <| v0 (S0.assign rfl) rfl <| vE <| WP.seq <| WP.region <| v0 (S0.move rfl) rfl <| ?_  -- op t16 := call F9{rivulet/rivuletlaw18.Cut}(t15)
  refine vc (S1.callF rfl (cut_spec hrl) (take1 at0 take0)) rfl ?_
  rintro _ _ ⟨row, hs, rfl⟩
  refine app ?_
  generalize cutOs l0 = M at hll hlx hs
  obtain ⟨ma, mcap, rfl, hmcap, hrow⟩ := IsSl.elems (k := 4) enO_len hs
  -- (nothing to walk: op t17 := call F10{rivulet/table.New}())
  refine vc (S1.callF rfl (tnew_spec) take0) rfl ?_
  rintro _ _ ⟨tb, c0, rfl, h0, rfl⟩
  refine app ?_
  refine v0 (S0.build rfl (qs := []) rfl) rfl <| vn (S1.box rfl rfl) rfl fun b19 => v0 (S0.assign rfl) rfl <| v0 (S0.assign rfl) rfl <| v0 (S0.assign rfl) rfl <| vE <| WP.seq <| WP.region <| vnv (S1.buildSlice rfl (qs := []) rfl rfl) rfl fun b20 => v0 (S0.assign rfl) rfl <| vE <| ?_  -- cut
  refine WP.cutS (fun st : Value × List Blk => IsSl 9 1 st.1 (strs (cutS l)) st.2) (fun st : Value × List Blk => [(5, .slice ma M.length mcap), (6, .pointer (some ⟨tb, 0, none⟩)), (7, .pointer (some ⟨b19, 0, none⟩)), (8, st.1)]) (fun st : Value × List Blk => [st.2, [(b19, cel [.slice none 0 0, .slice none 0 0] 30)], c0, row, whole W]) ?_ (fun st hinv => ?_)
  · refine WP.seq <| WP.region <| v0 (S0.assign rfl) rfl <| vE <| WP.block <| ?_  -- Code.loop
    refine WP.loop (fun st : Nat × Value × List Blk => st.1 ≤ l.length ∧ st.1 ≤ 12 ∧ IsSl 9 1 st.2.1 (strs ((l.take st.1).map (·.take 120))) st.2.2) (fun st : Nat × Value × List Blk => [(1, .slice a l.length cap), (5, .slice ma M.length mcap), (6, .pointer (some ⟨tb, 0, none⟩)), (7, .pointer (some ⟨b19, 0, none⟩)), (8, st.2.1), (9, .int .i64 (st.1 : Int))]) (fun st : Nat × Value × List Blk => [st.2.2, [(b19, cel [.slice none 0 0, .slice none 0 0] 30)], c0, row, whole W]) (fun st : Nat × Value × List Blk => l.length - st.1) ((0, _, [(b20, .cells ⟨[]⟩ 9 (0, 0))])) (⟨Nat.zero_le _, Nat.zero_le _, IsSl.row (n := 0) (c := 0) (l := []) (sp := []) rfl rfl (Nat.le_refl _)⟩) ⟨rfl, rfl, rfl, rfl, rfl, rfl, trivial⟩ ⟨_, (take1 at0 (take1 at0 (take1 at0 (take1 at0 (take1 at0 take0)))))⟩ (fun st hinv => ?_) 
    obtain ⟨i, ov, orow⟩ := st
    obtain ⟨hi, hi2, hosl⟩ := hinv
    dsimp only at hi hi2 hosl ⊢
    refine WP.seq <| WP.seq <| WP.region <| v0 (S0.move rfl) rfl <| v0 (S0.move rfl) rfl <| v0 (S0.lenSl rfl) rfl <| v0 (S0.cmp rfl rfl rfl) rfl <| v0 (S0.move rfl) rfl <| ?_  -- guard t25 (wants True) at t26 := move t9 [if #4=True]
    first | refine csP (t := 25) rfl (fun h1 => ?_) (fun h1 => ?_) | refine csN (t := 25) rfl (fun h1 => ?_) (fun h1 => ?_) | refine cs (t := 25) rfl (fun h1 => ?_) (fun h1 => ?_)
    · skip
      have hlt : i < l.length := by omega
      rcases hr with e | ⟨b, o, GL, U, fz, rfl, hmem, hel⟩
      · rw [e] at hlt; simp at hlt
      have : HasC (whole W) b (.cells ⟨GL⟩ U fz) := ⟨hmem⟩
      have hx : l[i]? = some l[i] := by simp [hlt]
      generalize l[i] = x at hx
      have hele := hel i x hx
      have htk := take_one hx
      refine gT rfl <| v0 (S0.move rfl) rfl <| gT rfl <| v0 (S0.cmp rfl rfl rfl) rfl <| v0 (S0.pickT rfl rfl) rfl <| vE <| ?_  -- cond
      first | refine WP.condP rfl (fun h2 => ?_) (fun h2 => ?_) | refine WP.condN rfl (fun h2 => ?_) (fun h2 => ?_) | refine WP.cond rfl (fun h2 => ?_) (fun h2 => ?_)
      · skip
        skip
        refine WP.skip <| WP.seq <| WP.block <| WP.drawP [(0, none), (1, none), (2, none), (3, none), (4, none), (5, none), (6, none), (7, none), (8, none), (9, none), (10, none), (11, none), (12, none), (13, none), (14, none)] mixed (by kernel_rfl) (by kernel_rfl) (by kernel_rfl) (take1 (atS (atS (atS (atS at0)))) take0) <| w0 rfl rfl rfl (S0.move rfl) rfl <| w0 rfl rfl rfl (S0.move rfl) rfl <| w0 rfl rfl rfl (S0.move rfl) rfl <| ?_  -- op t34 := indexAddr 23 t32 t33
        refine w0 rfl rfl rfl (S0.indexO1 rfl rfl hlt) rfl <| ?_
        refine w0 rfl rfl rfl (S0.load rfl (rdS_get hele)) rfl <| ?_
        refine w0 rfl rfl rfl (S0.move rfl) rfl <| w0 rfl rfl rfl (S0.move rfl) rfl <| ?_  -- op t38 := indexAddr 23 t36 t37
        refine w0 rfl rfl rfl (S0.indexO1 rfl rfl hlt) rfl <| ?_
        refine w0 rfl rfl rfl (S0.load rfl (rdS_get hele)) rfl <| ?_
        refine w0 rfl rfl rfl (S0.lenSt rfl) rfl <| w0 rfl rfl rfl (S0.min2 rfl rfl rfl) rfl <| ?_  -- op t42 := slice 9 t35 none t41 none
        rw [min120]
        refine w0 rfl rfl rfl (S0.sliceSt (i := 0) (j := min x.length 120) rfl rfl rfl ⟨Nat.zero_le _, by omega⟩) rfl <| ?_
        rw [take_min120]
        refine wnv rfl rfl rfl rfl (S1.buildSlice rfl (qs := [(0, _)]) rfl rfl) rfl fun b43 => ?_  -- op t44 := append(t31, t43) :[23, 23]
        refine we rfl rfl rfl rfl (S1.appendL rfl hosl rfl rfl (atS at0) rfl rfl (by rw [strs_len]; simp; omega)) rfl ?_
        rintro v2 _ ⟨row2, hsl2, rfl⟩
        have hsl3 : IsSl 9 1 v2 (strs ((l.take (i + 1)).map (·.take 120))) row2 := by
          rw [htk, List.map_append, strs, List.map_append]
          simpa [strs] using hsl2
        refine w0 rfl rfl rfl (S0.assign rfl) rfl <| wE <| WP.region <| v0 (S0.move rfl) rfl <| v0 (S0.ari rfl rfl rfl (wrap_i64 (by omega))) rfl <| v0 (S0.assign rfl) rfl <| vE <| ?_  -- roundend
        exact ⟨(i + 1, v2, row2), (by first | exact ⟨hlt, by omega, hsl3⟩ | (dsimp only; exact ⟨hlt, by omega, hsl3⟩)), (show l.length - (i + 1) < l.length - i by omega), ⟨⟨rfl, rfl, rfl, rfl, rfl, rfl, trivial⟩, rfl, rfl⟩, ⟨_, (take1 (atS at0) (take1 (atS (atS at0)) (take1 (atS (atS at0)) (take1 (atS (atS at0)) (take1 at0 take0)))))⟩⟩
      · skip
        refine WP.exit <| ?_  -- cutend
        exact ⟨(ov, orow), (by first | exact (show IsSl 9 1 ov (strs (cutS l)) orow by rw [cutS, ← show i = 12 by omega]; exact hosl) | (dsimp only; exact (show IsSl 9 1 ov (strs (cutS l)) orow by rw [cutS, ← show i = 12 by omega]; exact hosl))), ⟨⟨rfl, rfl, rfl, rfl, trivial⟩, rfl, rfl⟩, ⟨_, (take1 at0 (take1 at0 (take1 at0 (take1 at0 (take1 at0 take0)))))⟩⟩
    · skip
      refine gF rfl rfl <| gF rfl rfl <| v0 (S0.pickF rfl rfl) rfl <| vE <| WP.condF rfl <| WP.exit <| ?_  -- cutend
      exact ⟨(ov, orow), (by first | exact (show IsSl 9 1 ov (strs (cutS l)) orow by rw [cutS, List.take_of_length_le (by omega)]; rw [List.take_of_length_le (by omega)] at hosl; exact hosl) | (dsimp only; exact (show IsSl 9 1 ov (strs (cutS l)) orow by rw [cutS, List.take_of_length_le (by omega)]; rw [List.take_of_length_le (by omega)] at hosl; exact hosl))), ⟨⟨rfl, rfl, rfl, rfl, trivial⟩, rfl, rfl⟩, ⟨_, (take1 at0 (take1 at0 (take1 at0 (take1 at0 (take1 at0 take0)))))⟩⟩
  · skip
    obtain ⟨sval, srow⟩ := st
    have hss := hinv
    clear hinv
    dsimp only at hss ⊢
    have hsl := cutS_len l
    have hsx := cutS_mem (l := l)
    generalize cutS l = S at hss hsl hsx
    obtain ⟨sa, sc, rfl, -, -⟩ := hss.strsE
    refine WP.seq <| WP.seq <| WP.region <| v0 (S0.assign rfl) rfl <| vE <| WP.block <| ?_  -- Code.loop
    refine WP.loop (fun st : Nat × Asks × Asks × List Blk × List Blk => st.1 ≤ M.length ∧ IsTb tb st.2.1 st.2.2.1 st.2.2.2.1 ∧ IsRB b19 st.2.1 st.2.2.1 st.2.2.2.2 ∧ Fine st.2.1 st.1 ∧ Fine st.2.2.1 st.1) (fun st : Nat × Asks × Asks × List Blk × List Blk => [(5, .slice ma M.length mcap), (6, .pointer (some ⟨tb, 0, none⟩)), (7, .pointer (some ⟨b19, 0, none⟩)), (8, .slice sa S.length sc), (10, .int .i64 (st.1 : Int))]) (fun st : Nat × Asks × Asks × List Blk × List Blk => [st.2.2.2.1, st.2.2.2.2, srow, row, whole W]) (fun st : Nat × Asks × Asks × List Blk × List Blk => M.length - st.1) ((0, [], [], c0, [(b19, cel [.slice none 0 0, .slice none 0 0] 30)])) (⟨Nat.zero_le _, h0, ⟨_, _, [], [], IsSl.nil, IsSl.nil, rfl⟩, Fine.nil 0, Fine.nil 0⟩) ⟨rfl, rfl, rfl, rfl, rfl, trivial⟩ ⟨_, (take1 (atS (atS at0)) (take1 (atS at0) (take1 at0 (take1 at0 (take1 at0 take0)))))⟩ (fun st hinv => ?_) 
    obtain ⟨i, A0, B0, c, rc⟩ := st
    obtain ⟨hi, hT0, hR0, hA0, hB0⟩ := hinv
    dsimp only at hi hT0 hR0 hA0 hB0 ⊢
    refine WP.seq <| WP.seq <| WP.region <| v0 (S0.move rfl) rfl <| v0 (S0.move rfl) rfl <| v0 (S0.lenSl rfl) rfl <| v0 (S0.cmp rfl rfl rfl) rfl <| vE <| ?_  -- cond
    first | refine WP.condP rfl (fun h1 => ?_) (fun h1 => ?_) | refine WP.condN rfl (fun h1 => ?_) (fun h1 => ?_) | refine WP.cond rfl (fun h1 => ?_) (fun h1 => ?_)
    · skip
      have hlt : i < M.length := by omega
      rcases hrow with ⟨e, -⟩ | ⟨b1, sp1, rfl, rfl, hsp1⟩
      · rw [e] at hlt; simp at hlt
      have hx : M[i]? = some M[i] := by simp [hlt]
      have hxl := hlx _ (List.getElem_mem hlt)
      generalize M[i] = x at hx hxl
      have g4 := flat_get enO_len sp1 M i 4 _ hx (by decide)
      have gA : ((M.flatMap enO ++ sp1).drop (i * 5)).take 5 = enO x := flat_take enO_len sp1 M i _ hx
      refine WP.skip <| WP.seq <| WP.block <| WP.seq <| WP.seq <| WP.region <| v0 (S0.move rfl) rfl <| v0 (S0.nilP rfl rfl rfl rfl) rfl <| v0 (S0.move rfl) rfl <| ?_  -- guard t53 (wants False) at t54 := move t6 [if #2=False]
      refine csFh (t := 53) rfl (rfl) ?_
      refine gT rfl <| v0 (S0.move rfl) rfl <| gT rfl <| v0 (S0.move rfl) rfl <| gT rfl <| v0 (S0.move rfl) rfl <| gT rfl <| v0 (S0.move rfl) rfl <| ?_  -- op t58 := indexAddr 22 t56 t57 [if #2=False]
      refine gT rfl <| v0 (S0.indexN (k := 5) rfl rfl hlt) rfl <| ?_
      refine gT rfl <| v0 (S0.loadA rfl gA rfl) rfl <| ?_
      -- (nothing to walk: op t60 := call F11{rivulet/rivuletlaw18.play}(t54, t55, t59) [if #2=False])
      refine gT rfl <| vc (S1.callF rfl (play_spec hT0 hR0 hA0 hB0 (by omega) (by omega)) (take1 at0 (take1 at0 take0))) rfl ?_
      rintro _ _ ⟨c', rc', rfl, hT, hR, rfl⟩
      refine app ?_
      have hA := hA0.opA x
      have hB := hB0.opB x
      generalize opA A0 x = A at hT hR hA
      generalize opB B0 x = B at hT hR hB
      obtain ⟨va, vb, ra, rb', hsa, hsb, rfl⟩ := hR
      have hul := up_le hA.b hB.b
      have hux : ∀ f ∈ upS A B, f.length ≤ 1000 := fun f hf => by have := filt_len (up_filt A B f hf); omega
      have hw1 := without_len (cleanS (upS A B)) (cleanS S)
      have hw2 := without_len (cleanS S) (cleanS (upS A B))
      have hc1 := clean_len (upS A B)
      have hc2 := clean_len S
      have hia := idsK_le hA.b x.2.2.2.2
      have hib := idsK_le hB.b x.2.2.2.2
      refine gT rfl <| v0 (S0.not rfl) rfl <| v0 (S0.pickF rfl rfl) rfl <| vE <| ?_  -- cond
      refine WP.condFh rfl (rfl) ?_
      refine WP.skip <| WP.seq <| WP.region <| v0 (S0.move rfl) rfl <| v0 (S0.move rfl) rfl <| ?_  -- op t66 := call F12{(*rivulet/table.Table).Diff}(t64, t65)
      refine vc (S1.callF rfl (tdiff_spec hT hA hB (by omega) hss.rdS hsx (by omega)) (take1 at0 (take1 (atS at0) take0))) rfl ?_
      rintro _ _ ⟨v1, v2, q1, q2, s1, s2, rfl, rfl⟩
      refine app ?_
      refine v0 (S0.move rfl) rfl <| v0 (S0.extract rfl rfl) rfl <| v0 (S0.extract rfl rfl) rfl <| v0 (S0.assign rfl) rfl <| v0 (S0.assign rfl) rfl <| vE <| WP.seq <| WP.region <| v0 (S0.move rfl) rfl <| v0 (S0.move rfl) rfl <| ?_  -- op t72 := call F14{(*rivulet/rivuletref18.Table).Up}(t71)
      refine vc (S1.callF rfl (rtup_spec ⟨_, _, _, _, hsa, hsb, rfl⟩ hA hB (by omega)) (take1 (atS (atS (atS (atS at0)))) take0)) rfl ?_
      rintro uv _ ⟨ur, su, rfl⟩
      refine app ?_
      -- (nothing to walk: op t73 := call F13{rivulet/rivuletref05.Diff}(t70, t72))
      refine vc (S1.callF rfl (rdiff_spec hss.rdS su.rdS hsx (by omega) hux (by omega)) (take1 (atS (atS (atS (atS (atS at0))))) (take1 at0 take0))) rfl ?_
      rintro _ _ ⟨v3, v4, q3, q4, s3, s4, rfl, rfl⟩
      refine app ?_
      refine v0 (S0.move rfl) rfl <| v0 (S0.extract rfl rfl) rfl <| v0 (S0.extract rfl rfl) rfl <| v0 (S0.assign rfl) rfl <| v0 (S0.assign rfl) rfl <| vE <| ?_  -- cut
      refine WP.perm (h' := [q3, q4, srow, ur, [(b19, cel [va, vb] 30)], ra, rb', q1, q2, c', [(b1, .cells ⟨M.flatMap enO ++ sp1⟩ 33 (0, 0))], whole W]) (k := []) (List.Perm.of_eq (by first | rfl | simp)) ?_
      skip
      refine WP.seq <| WP.drawP [(0, none), (2, none), (1, none), (3, none), (4, none), (5, none), (6, none), (7, none), (8, none), (9, none), (10, none), (11, none), (12, none), (13, none), (14, none), (15, none), (16, none), (17, none), (18, none), (19, none), (20, none), (21, none), (22, none), (23, none), (24, none), (26, none), (27, none), (28, none), (29, none), (30, none), (31, none), (32, none), (33, none), (34, none), (25, none), (35, none), (36, none), (37, none), (38, none), (39, none), (40, none), (41, none), (42, none), (43, none), (44, none), (45, none), (47, none), (48, none), (49, none), (50, none), (51, none), (52, none), (53, none), (54, none), (55, none), (46, none), (56, none), (57, none), (58, none), (59, none)] mixed (by kernel_rfl) (by kernel_rfl) (by kernel_rfl) (take1 (atS (atS (atS (atS (atS (atS (atS (atS (atS (atS at0)))))))))) (take1 (atS (atS (atS (atS at0)))) take0)) <| w0 rfl rfl rfl (S0.move rfl) rfl <| w0 rfl rfl rfl (S0.move rfl) rfl <| ?_  -- op t77 := call F16{(*rivulet/table.Table).Up}(t76)
      refine wc rfl rfl rfl rfl (S1.callF rfl (up_spec hT hA hB (by omega)) (take1 (atS (atS (atS (atS (atS (atS (atS (atS at0)))))))) take0)) rfl ?_
      rintro tv _ ⟨tr, stt, rfl⟩
      refine wapp ?_
      refine weS rfl rfl rfl rfl (S1.callF rfl (rtup3_spec (rb := b19) hsa hsb hA hB (by omega)) (take1 (atS at0) (take1 (atS (atS (atS (atS (atS (atS (atS at0))))))) (take1 (atS (atS (atS (atS (atS (atS (atS at0))))))) take0)))) rfl ?_
      rintro _ _ ⟨_, ⟨q5, s5, rfl⟩, rfl⟩
      refine ⟨_, (take1 (atS (atS (atS (atS at0)))) (take1 (atS at0) take0)), ?_⟩
      refine wcd rfl rfl rfl rfl (S1.callF rfl (same_spec stt.rdS s5.rdS (by omega)) (take1 (atS (atS (atS at0))) (take1 at0 take0))) rfl ?_
      refine w0 rfl rfl rfl (S0.not rfl) rfl <| w0 rfl rfl rfl (S0.move rfl) rfl <| ?_  -- guard t82 (wants False) at t83 := move t11 [if #6=False]
      refine wcsFh (t := 82) rfl ((by simp)) ?_
      refine w0 rfl rfl rfl (S0.move rfl) rfl <| w0 rfl rfl rfl (S0.move rfl) rfl <| ?_  -- op t85 := call F15{rivulet/rivuletref02.Same}(t83, t84) [if #6=False]
      refine wcd rfl rfl rfl rfl (S1.callF rfl (same_spec s1.rdS s3.rdS (by omega)) (take1 (atS (atS (atS (atS (atS (atS (atS (atS (atS at0))))))))) (take1 (atS (atS (atS (atS (atS at0))))) take0))) rfl ?_
      refine w0 rfl rfl rfl (S0.not rfl) rfl <| w0 rfl rfl rfl (S0.pickF rfl rfl) rfl <| w0 rfl rfl rfl (S0.move rfl) rfl <| ?_  -- guard t88 (wants False) at t89 := move t12 [if #12=False]
      refine wcsFh (t := 88) rfl ((by simp)) ?_
      refine w0 rfl rfl rfl (S0.move rfl) rfl <| w0 rfl rfl rfl (S0.move rfl) rfl <| ?_  -- op t91 := call F15{rivulet/rivuletref02.Same}(t89, t90) [if #12=False]
      refine wcd rfl rfl rfl rfl (S1.callF rfl (same_spec s2.rdS s4.rdS (by omega)) (take1 (atS (atS (atS (atS (atS (atS (atS (atS (atS (atS at0)))))))))) (take1 (atS (atS (atS (atS (atS (atS (atS at0))))))) take0))) rfl ?_
      refine w0 rfl rfl rfl (S0.not rfl) rfl <| w0 rfl rfl rfl (S0.pickF rfl rfl) rfl <| w0 rfl rfl rfl (S0.move rfl) rfl <| ?_  -- guard t94 (wants False) at t95 := move t6 [if #18=False]
      refine wcsFh (t := 94) rfl ((by simp)) ?_
      refine w0 rfl rfl rfl (S0.move rfl) rfl <| w0 rfl rfl rfl (S0.move rfl) rfl <| w0 rfl rfl rfl (S0.move rfl) rfl <| ?_  -- op t98 := indexAddr 22 t96 t97 [if #18=False]
      refine w0 rfl rfl rfl (S0.indexN (k := 5) rfl rfl hlt) rfl <| ?_
      refine w0 rfl rfl rfl (S0.fieldAddr rfl) rfl <| ?_  -- limit
      refine w0 rfl rfl rfl (S0.load (v := sv x.2.2.2.2) rfl g4) rfl <| ?_
      refine w0 rfl rfl rfl (S0.move rfl) rfl <| w0 rfl rfl rfl (S0.nilCheck rfl) rfl <| w0 rfl rfl rfl (S0.fieldAddr rfl) rfl <| w0 rfl rfl rfl (S0.load rfl rfl) rfl <| w0 rfl rfl rfl (S0.move rfl) rfl <| w0 rfl rfl rfl (S0.move rfl) rfl <| ?_  -- op t108 := indexAddr 22 t106 t107 [if #18=False]
      refine w0 rfl rfl rfl (S0.indexN (k := 5) rfl rfl hlt) rfl <| ?_
      refine w0 rfl rfl rfl (S0.fieldAddr rfl) rfl <| ?_  -- limit
      refine w0 rfl rfl rfl (S0.load (v := sv x.2.2.2.2) rfl g4) rfl <| ?_
      refine wc rfl rfl rfl rfl (S1.callF rfl (devices_spec hT hA.b (by omega) (s := x.2.2.2.2) (by omega)) (take1 (atS (atS (atS (atS (atS (atS (atS (atS at0)))))))) take0)) rfl ?_
      rintro dv _ ⟨dr, sd, rfl⟩
      refine wapp ?_
      refine wc rfl rfl rfl rfl (S1.callF rfl (who_spec hsa hA (by omega) (s := x.2.2.2.2) (by omega)) (take1 (atS (atS (atS (atS (atS (atS (atS (atS at0)))))))) take0)) rfl ?_
      rintro wv _ ⟨wr, sw, rfl⟩
      refine wapp ?_
      refine wcd rfl rfl rfl rfl (S1.callF rfl (ints_spec sd sw (by omega)) (take1 (atS (atS at0)) (take1 at0 take0))) rfl ?_
      refine w0 rfl rfl rfl (S0.not rfl) rfl <| w0 rfl rfl rfl (S0.pickF rfl rfl) rfl <| w0 rfl rfl rfl (S0.move rfl) rfl <| ?_  -- guard t115 (wants False) at t116 := move t6 [if #39=False]
      refine wcsFh (t := 115) rfl ((by simp)) ?_
      refine w0 rfl rfl rfl (S0.move rfl) rfl <| w0 rfl rfl rfl (S0.move rfl) rfl <| w0 rfl rfl rfl (S0.move rfl) rfl <| ?_  -- op t119 := indexAddr 22 t117 t118 [if #39=False]
      refine w0 rfl rfl rfl (S0.indexN (k := 5) rfl rfl hlt) rfl <| ?_
      refine w0 rfl rfl rfl (S0.fieldAddr rfl) rfl <| ?_  -- limit
      refine w0 rfl rfl rfl (S0.load (v := sv x.2.2.2.2) rfl g4) rfl <| ?_
      refine w0 rfl rfl rfl (S0.move rfl) rfl <| w0 rfl rfl rfl (S0.nilCheck rfl) rfl <| w0 rfl rfl rfl (S0.fieldAddr rfl) rfl <| w0 rfl rfl rfl (S0.load rfl rfl) rfl <| w0 rfl rfl rfl (S0.move rfl) rfl <| w0 rfl rfl rfl (S0.move rfl) rfl <| ?_  -- op t129 := indexAddr 22 t127 t128 [if #39=False]
      refine w0 rfl rfl rfl (S0.indexN (k := 5) rfl rfl hlt) rfl <| ?_
      refine w0 rfl rfl rfl (S0.fieldAddr rfl) rfl <| ?_  -- limit
      refine w0 rfl rfl rfl (S0.load (v := sv x.2.2.2.2) rfl g4) rfl <| ?_
      refine wc rfl rfl rfl rfl (S1.callF rfl (children_spec hT hB.b (by omega) (s := x.2.2.2.2) (by omega)) (take1 (atS (atS (atS at0))) take0)) rfl ?_
      rintro cv _ ⟨cr, sc2, rfl⟩
      refine wapp ?_
      refine wc rfl rfl rfl rfl (S1.callF rfl (who_spec hsb hB (by omega) (s := x.2.2.2.2) (by omega)) (take1 (atS (atS (atS (atS (atS (atS (atS (atS (atS (atS (atS at0))))))))))) take0)) rfl ?_
      rintro wv2 _ ⟨wr2, sw2, rfl⟩
      refine wapp ?_
      refine wcd rfl rfl rfl rfl (S1.callF rfl (ints_spec sc2 sw2 (by omega)) (take1 (atS (atS at0)) (take1 at0 take0))) rfl ?_
      refine w0 rfl rfl rfl (S0.not rfl) rfl <| w0 rfl rfl rfl (S0.pickF rfl rfl) rfl <| wE <| ?_  -- cond
      refine WP.condFh rfl ((by simp)) ?_
      refine WP.skip <| WP.region <| v0 (S0.move rfl) rfl <| v0 (S0.ari rfl rfl rfl (wrap_i64 (by omega))) rfl <| v0 (S0.assign rfl) rfl <| vE <| ?_  -- roundend
      exact ⟨(i + 1, A, B, c', (b19, cel [va, vb] 30) :: (ra ++ rb')), (by first | exact ⟨hlt, hT, ⟨va, vb, ra, rb', hsa, hsb, rfl⟩, hA, hB⟩ | (dsimp only; exact ⟨hlt, hT, ⟨va, vb, ra, rb', hsa, hsb, rfl⟩, hA, hB⟩)), (show M.length - (i + 1) < M.length - i by omega), ⟨⟨rfl, rfl, rfl, rfl, rfl, trivial⟩, rfl, rfl⟩, ⟨[cr, wr2, dr, wr, q2, q4, q1, q3, tr, q5, ur], (pm fun a_ => by (try simp only [List.flatten_append, List.flatten_cons, List.flatten_nil, List.append_nil, List.cons_append, List.nil_append, List.append_assoc, nOf_app, nOf_cons, nOf_nil, Nat.add_zero, Nat.zero_add, List.map_append, List.map_cons, List.map_nil, cel, sv]); omega)⟩⟩
    · skip
      refine WP.exit <| WP.seq <| WP.region <| ?_  -- op t136 := call F21{rivulet/rivuletlaw18.fixed}()
      refine vcd (S1.callF rfl (fixed_spec) take0) rfl ?_
      refine v0 (S0.assign rfl) rfl <| vE <| WP.ret <| ?_  -- ret
      refine Leaves.drop (take1 (atS (atS (atS (atS at0)))) take0) ?_
      refine r1 rfl rfl ?_
      exact ⟨rfl, rfl⟩
end Go.Proofs.YtipljeomgdomnaaGreatDoor
/- L4 -/
namespace Go.Proofs.YtipljeomgdomnaaGreatDoor
open Go

theorem up_any (A B : Asks) (s : Str) : letsS (upS A B) s = decide ((0 : Int) < ((idsK A s).length : Int) + ((idsK B s).length : Int)) := by
  rw [up_lets, Bool.eq_iff_iff, Bool.or_eq_true, decide_eq_true_eq, decide_eq_true_eq, decide_eq_true_eq]
  omega
set_option maxRecDepth 100000 in
theorem tableUp_walk (W : World) (lv : Value) (hl : ArgF W opK lv) (s0 : Str) (hs0 : s0.length ≤ maxLen) : FN Tryz.prog 4 [lv, sv s0] [whole W] (fun v h => v = .bool true ∧ h = [whole W]) := by
  obtain ⟨l0, hrl⟩ := argOps hl
  have hll := cutOs_len l0
  have hlx := cutOs_mem (l := l0)
  refine FN.intro 102 [(0, lv), (1, sv s0)] Tryz.func4 rfl (enters Tryz.func4 (by kernel_rfl) rfl) Tryz.ntmps4 rfl rfl ?_
  refine WP.seq <| WP.region <| v0 (S0.assign rfl) rfl <| vE <| WP.seq <| WP.region <| v0 (S0.move rfl) rfl <| ?_  -- op t10 := call F9{rivulet/rivuletlaw18.Cut}(t9)
  refine vc (S1.callF rfl (cut_spec hrl) (take1 at0 take0)) rfl ?_
  rintro _ _ ⟨row, hs, rfl⟩
  refine app ?_
  generalize cutOs l0 = M at hll hlx hs
  obtain ⟨ma, mcap, rfl, hmcap, hrow⟩ := IsSl.elems (k := 4) enO_len hs
  -- (nothing to walk: op t11 := call F10{rivulet/table.New}())
  refine vc (S1.callF rfl (tnew_spec) take0) rfl ?_
  rintro _ _ ⟨tb, c0, rfl, h0, rfl⟩
  refine app ?_
  refine v0 (S0.assign rfl) rfl <| v0 (S0.assign rfl) rfl <| vE <| WP.seq <| WP.region <| v0 (S0.move rfl) rfl <| v0 (S0.move rfl) rfl <| v0 (S0.lenSt rfl) rfl <| v0 (S0.min2 rfl rfl rfl) rfl <| ?_  -- op t16 := slice 9 t12 none t15 none
  rw [min120]
  refine v0 (S0.sliceSt (i := 0) (j := min s0.length 120) rfl rfl rfl ⟨Nat.zero_le _, by omega⟩) rfl <| ?_
  rw [take_min120]
  have hsl : (s0.take 120).length ≤ 1000 := by rw [List.length_take]; omega
  generalize s0.take 120 = s at hsl
  refine v0 (S0.assign rfl) rfl <| vE <| WP.seq <| WP.seq <| WP.region <| v0 (S0.move rfl) rfl <| v0 (S0.nilP rfl rfl rfl rfl) rfl <| vE <| ?_  -- cond
  refine WP.condFh rfl (rfl) ?_
  refine WP.skip <| WP.seq <| WP.seq <| WP.region <| v0 (S0.assign rfl) rfl <| vE <| WP.block <| ?_  -- Code.loop
  refine WP.loop (fun st : Nat × Asks × Asks × List Blk => st.1 ≤ M.length ∧ IsTb tb st.2.1 st.2.2.1 st.2.2.2 ∧ Fine st.2.1 st.1 ∧ Fine st.2.2.1 st.1) (fun st : Nat × Asks × Asks × List Blk => [(1, sv s), (5, .slice ma M.length mcap), (6, .pointer (some ⟨tb, 0, none⟩)), (7, .int .i64 (st.1 : Int))]) (fun st : Nat × Asks × Asks × List Blk => [st.2.2.2, row, whole W]) (fun st : Nat × Asks × Asks × List Blk => M.length - st.1) ((0, [], [], c0)) (⟨Nat.zero_le _, h0, Fine.nil 0, Fine.nil 0⟩) ⟨rfl, rfl, rfl, rfl, trivial⟩ ⟨_, (take1 at0 (take1 at0 (take1 at0 take0)))⟩ (fun st hinv => ?_) 
  obtain ⟨i, A, B, c⟩ := st
  obtain ⟨hi, hT, hA, hB⟩ := hinv
  dsimp only at hi hT hA hB ⊢
  refine WP.seq <| WP.seq <| WP.region <| v0 (S0.move rfl) rfl <| v0 (S0.move rfl) rfl <| v0 (S0.lenSl rfl) rfl <| v0 (S0.cmp rfl rfl rfl) rfl <| vE <| ?_  -- cond
  first | refine WP.condP rfl (fun h1 => ?_) (fun h1 => ?_) | refine WP.condN rfl (fun h1 => ?_) (fun h1 => ?_) | refine WP.cond rfl (fun h1 => ?_) (fun h1 => ?_)
  · skip
    have hlt : i < M.length := by omega
    rcases hrow with ⟨e, -⟩ | ⟨b1, sp1, rfl, rfl, hsp1⟩
    · rw [e] at hlt; simp at hlt
    have hx : M[i]? = some M[i] := by simp [hlt]
    have hxl := hlx _ (List.getElem_mem hlt)
    generalize M[i] = x at hx hxl
    obtain ⟨x0, x1, x2, x3, x4⟩ := x
    dsimp only at hxl
    have g0 := flat_get enO_len sp1 M i 0 _ hx (by decide)
    have g1 := flat_get enO_len sp1 M i 1 _ hx (by decide)
    have g2 := flat_get enO_len sp1 M i 2 _ hx (by decide)
    have g3 := flat_get enO_len sp1 M i 3 _ hx (by decide)
    refine WP.skip <| WP.seq <| WP.block <| WP.seq <| WP.seq <| WP.region <| v0 (S0.move rfl) rfl <| v0 (S0.move rfl) rfl <| ?_  -- op t27 := indexAddr 22 t25 t26
    refine v0 (S0.indexN (k := 5) rfl rfl hlt) rfl <| ?_
    refine v0 (S0.fieldAddr rfl) rfl <| ?_  -- limit
    refine v0 (S0.load (v := .int .i64 x0) rfl g0) rfl <| ?_
    refine v0 (S0.cmp rfl rfl rfl) rfl <| vE <| ?_  -- cut
    refine WP.cutT (fun s_ : Asks × Asks × List Blk => IsTb tb s_.1 s_.2.1 s_.2.2 ∧ Fine s_.1 (i + 1) ∧ Fine s_.2.1 (i + 1)) (fun s_ : Asks × Asks × List Blk => [(1, sv s), (5, .slice (some ⟨b1, 0, none⟩) M.length mcap), (6, .pointer (some ⟨tb, 0, none⟩)), (7, .int .i64 (i : Int))]) (fun s_ : Asks × Asks × List Blk => [s_.2.2, [(b1, .cells ⟨M.flatMap enO ++ sp1⟩ 33 (0, 0))], whole W]) ?_ (fun s_ hinv => ?_)
    · -- (nothing to walk: cond)
      first | refine WP.condP rfl (fun h2 => ?_) (fun h2 => ?_) | refine WP.condN rfl (fun h2 => ?_) (fun h2 => ?_) | refine WP.cond rfl (fun h2 => ?_) (fun h2 => ?_)
      · skip
        skip
        refine WP.drawP [(0, none), (1, none), (2, none), (3, none), (4, none), (5, none), (6, none), (7, none), (8, none), (9, none), (10, none), (11, none), (12, none), (13, none), (14, none), (15, none), (16, none)] mixed (by kernel_rfl) (by kernel_rfl) (by kernel_rfl) (take1 (atS at0) take0) <| w0 rfl rfl rfl (S0.move rfl) rfl <| w0 rfl rfl rfl (S0.move rfl) rfl <| w0 rfl rfl rfl (S0.move rfl) rfl <| ?_  -- op t34 := indexAddr 22 t32 t33
        refine w0 rfl rfl rfl (S0.indexN (k := 5) rfl rfl hlt) rfl <| ?_
        refine w0 rfl rfl rfl (S0.fieldAddr rfl) rfl <| ?_  -- limit
        refine w0 rfl rfl rfl (S0.load (v := .int .i64 x1) rfl g1) rfl <| ?_
        refine w0 rfl rfl rfl (S0.move rfl) rfl <| w0 rfl rfl rfl (S0.move rfl) rfl <| ?_  -- op t39 := indexAddr 22 t37 t38
        refine w0 rfl rfl rfl (S0.indexN (k := 5) rfl rfl hlt) rfl <| ?_
        refine w0 rfl rfl rfl (S0.fieldAddr rfl) rfl <| ?_  -- limit
        refine w0 rfl rfl rfl (S0.load (v := sv x2) rfl g2) rfl <| ?_
        refine w0 rfl rfl rfl (S0.move rfl) rfl <| w0 rfl rfl rfl (S0.move rfl) rfl <| ?_  -- op t44 := indexAddr 22 t42 t43
        refine w0 rfl rfl rfl (S0.indexN (k := 5) rfl rfl hlt) rfl <| ?_
        refine w0 rfl rfl rfl (S0.fieldAddr rfl) rfl <| ?_  -- limit
        refine w0 rfl rfl rfl (S0.load (v := .bool x3) rfl g3) rfl <| ?_
        refine wc rfl rfl rfl rfl (S1.callF rfl (own_spec hT hA.b (by omega) (f := x2) (by omega) x1 x3) (take1 at0 take0)) rfl ?_
        rintro _ _ ⟨c', rfl, hT', rfl⟩
        refine wapp ?_
        refine wE <| ?_  -- cutend
        exact ⟨(setR A x2 x1 x3, B, c'), (by first | exact ⟨hT', hA.set _ _ _, hB.mono (Nat.le_succ i)⟩ | (dsimp only; exact ⟨hT', hA.set _ _ _, hB.mono (Nat.le_succ i)⟩)), ⟨⟨rfl, rfl, rfl, rfl, trivial⟩, rfl, rfl⟩, ⟨_, (take1 (atS at0) (take1 at0 (take1 at0 take0)))⟩⟩
      · skip
        refine WP.seq <| WP.region <| v0 (S0.move rfl) rfl <| v0 (S0.move rfl) rfl <| ?_  -- op t50 := indexAddr 22 t48 t49
        refine v0 (S0.indexN (k := 5) rfl rfl hlt) rfl <| ?_
        refine v0 (S0.fieldAddr rfl) rfl <| ?_  -- limit
        refine v0 (S0.load (v := .int .i64 x0) rfl g0) rfl <| ?_
        refine v0 (S0.cmp rfl rfl rfl) rfl <| vE <| ?_  -- cond
        first | refine WP.condP rfl (fun h3 => ?_) (fun h3 => ?_) | refine WP.condN rfl (fun h3 => ?_) (fun h3 => ?_) | refine WP.cond rfl (fun h3 => ?_) (fun h3 => ?_)
        · skip
          skip
          refine WP.drawP [(0, none), (1, none), (2, none), (3, none), (4, none), (5, none), (6, none), (7, none), (8, none), (9, none), (10, none), (11, none), (12, none), (13, none), (14, none), (15, none), (16, none)] mixed (by kernel_rfl) (by kernel_rfl) (by kernel_rfl) (take1 (atS at0) take0) <| w0 rfl rfl rfl (S0.move rfl) rfl <| w0 rfl rfl rfl (S0.move rfl) rfl <| w0 rfl rfl rfl (S0.move rfl) rfl <| ?_  -- op t57 := indexAddr 22 t55 t56
          refine w0 rfl rfl rfl (S0.indexN (k := 5) rfl rfl hlt) rfl <| ?_
          refine w0 rfl rfl rfl (S0.fieldAddr rfl) rfl <| ?_  -- limit
          refine w0 rfl rfl rfl (S0.load (v := .int .i64 x1) rfl g1) rfl <| ?_
          refine w0 rfl rfl rfl (S0.move rfl) rfl <| w0 rfl rfl rfl (S0.move rfl) rfl <| ?_  -- op t62 := indexAddr 22 t60 t61
          refine w0 rfl rfl rfl (S0.indexN (k := 5) rfl rfl hlt) rfl <| ?_
          refine w0 rfl rfl rfl (S0.fieldAddr rfl) rfl <| ?_  -- limit
          refine w0 rfl rfl rfl (S0.load (v := sv x2) rfl g2) rfl <| ?_
          refine w0 rfl rfl rfl (S0.move rfl) rfl <| w0 rfl rfl rfl (S0.move rfl) rfl <| ?_  -- op t67 := indexAddr 22 t65 t66
          refine w0 rfl rfl rfl (S0.indexN (k := 5) rfl rfl hlt) rfl <| ?_
          refine w0 rfl rfl rfl (S0.fieldAddr rfl) rfl <| ?_  -- limit
          refine w0 rfl rfl rfl (S0.load (v := .bool x3) rfl g3) rfl <| ?_
          refine wc rfl rfl rfl rfl (S1.callF rfl (want_spec hT hB.b (by omega) (f := x2) (by omega) x1 x3) (take1 at0 take0)) rfl ?_
          rintro _ _ ⟨c', rfl, hT', rfl⟩
          refine wapp ?_
          refine wE <| ?_  -- cutend
          exact ⟨(A, setR B x2 x1 x3, c'), (by first | exact ⟨hT', hA.mono (Nat.le_succ i), hB.set _ _ _⟩ | (dsimp only; exact ⟨hT', hA.mono (Nat.le_succ i), hB.set _ _ _⟩)), ⟨⟨rfl, rfl, rfl, rfl, trivial⟩, rfl, rfl⟩, ⟨_, (take1 (atS at0) (take1 at0 (take1 at0 take0)))⟩⟩
        · skip
          refine WP.region <| v0 (S0.move rfl) rfl <| v0 (S0.move rfl) rfl <| v0 (S0.move rfl) rfl <| ?_  -- op t74 := indexAddr 22 t72 t73
          refine v0 (S0.indexN (k := 5) rfl rfl hlt) rfl <| ?_
          refine v0 (S0.fieldAddr rfl) rfl <| ?_  -- limit
          refine v0 (S0.load (v := .int .i64 x1) rfl g1) rfl <| ?_
          refine vc (S1.callF rfl (tleave_spec hT hB.b (by omega) x1) (take1 at0 take0)) rfl ?_
          rintro _ _ ⟨c', rfl, hT', rfl⟩
          refine app ?_
          refine vE <| ?_  -- cutend
          exact ⟨(A, leaveK B x1, c'), (by first | exact ⟨hT', hA.mono (Nat.le_succ i), hB.leave _⟩ | (dsimp only; exact ⟨hT', hA.mono (Nat.le_succ i), hB.leave _⟩)), ⟨⟨rfl, rfl, rfl, rfl, trivial⟩, rfl, rfl⟩, ⟨_, (take1 at0 (take1 at0 (take1 at0 take0)))⟩⟩
    · skip
      obtain ⟨A', B', c'⟩ := s_
      obtain ⟨hT', hA', hB'⟩ := hinv
      dsimp only at hT' hA' hB' ⊢
      have hul := up_le hA'.b hB'.b
      have hux : ∀ f ∈ upS A' B', f.length ≤ 1000 := fun f hf => by have := filt_len (up_filt A' B' f hf); omega
      have hia := idsK_le hA'.b s
      have hib := idsK_le hB'.b s
      have hw := up_lets A' B' s
      have hw2 := up_any A' B' s
      refine WP.seq <| WP.region <| v0 (S0.move rfl) rfl <| v0 (S0.move rfl) rfl <| ?_  -- op t80 := call F25{(*rivulet/table.Table).Wanted}(t78, t79)
      refine vcd (S1.callF rfl (wanted_spec hT' hA'.b hB'.b (by omega) hsl) (take1 at0 take0)) rfl ?_
      rw [← hw]
      refine v0 (S0.assign rfl) rfl <| vE <| WP.seq <| WP.region <| v0 (S0.move rfl) rfl <| v0 (S0.move rfl) rfl <| ?_  -- op t83 := call F16{(*rivulet/table.Table).Up}(t82)
      refine vc (S1.callF rfl (up_spec hT' hA' hB' (by omega)) (take1 at0 take0)) rfl ?_
      rintro uv _ ⟨ur, su, rfl⟩
      refine app ?_
      refine v0 (S0.move rfl) rfl <| ?_  -- op t85 := call F26{rivulet/rivuletref05.Lets}(t83, t84)
      refine vcd (S1.callF rfl (rlets_spec su.rdS hux hsl (by omega)) (take1 at0 take0)) rfl ?_
      refine v0 (S0.cmpB rfl rfl rfl) rfl <| v0 (S0.move rfl) rfl <| ?_  -- guard t87 (wants False) at t88 := move t8 [if #6=False]
      refine csFh (t := 87) rfl ((by simp)) ?_
      refine gT rfl <| v0 (S0.move rfl) rfl <| gT rfl <| v0 (S0.move rfl) rfl <| gT rfl <| v0 (S0.move rfl) rfl <| ?_  -- op t91 := call F18{(*rivulet/table.Table).Devices}(t89, t90) [if #6=False]
      refine gT rfl <| vc (S1.callF rfl (devices_spec hT' hA'.b (by omega) hsl) (take1 (atS at0) take0)) rfl ?_
      rintro dv _ ⟨dr, sd, rfl⟩
      refine app ?_
      obtain ⟨da, dc, rfl, -, -⟩ := sd.intsE
      refine gT rfl <| v0 (S0.lenSl rfl) rfl <| gT rfl <| v0 (S0.move rfl) rfl <| gT rfl <| v0 (S0.move rfl) rfl <| ?_  -- op t95 := call F20{(*rivulet/table.Table).Children}(t93, t94) [if #6=False]
      refine gT rfl <| vc (S1.callF rfl (children_spec hT' hB'.b (by omega) hsl) (take1 (atS at0) take0)) rfl ?_
      rintro cv _ ⟨cr, sc, rfl⟩
      refine app ?_
      obtain ⟨ca, cc, rfl, -, -⟩ := sc.intsE
      rw [hw2]
      refine gT rfl <| v0 (S0.lenSl rfl) rfl <| gT rfl <| v0 (S0.ari rfl rfl rfl (wrap_i64 (by omega))) rfl <| gT rfl <| v0 (S0.cmp rfl rfl rfl) rfl <| gT rfl <| v0 (S0.cmpB rfl rfl rfl) rfl <| v0 (S0.pickF rfl rfl) rfl <| vE <| ?_  -- cond
      refine WP.condFh rfl ((by simp)) ?_
      refine WP.skip <| WP.region <| v0 (S0.move rfl) rfl <| v0 (S0.ari rfl rfl rfl (wrap_i64 (by omega))) rfl <| v0 (S0.assign rfl) rfl <| vE <| ?_  -- roundend
      exact ⟨(i + 1, A', B', c'), (by first | exact ⟨hlt, hT', hA', hB'⟩ | (dsimp only; exact ⟨hlt, hT', hA', hB'⟩)), (show M.length - (i + 1) < M.length - i by omega), ⟨⟨rfl, rfl, rfl, rfl, trivial⟩, rfl, rfl⟩, ⟨_, (take1 (atS at0) (take1 (atS (atS (atS at0))) (take1 (atS (atS (atS at0))) take0)))⟩⟩
  · skip
    refine WP.exit <| WP.seq <| WP.region <| ?_  -- op t101 := call F21{rivulet/rivuletlaw18.fixed}()
    refine vcd (S1.callF rfl (fixed_spec) take0) rfl ?_
    refine v0 (S0.assign rfl) rfl <| vE <| WP.ret <| ?_  -- ret
    refine Leaves.drop (take1 (atS (atS at0)) take0) ?_
    refine r1 rfl rfl ?_
    exact ⟨rfl, rfl⟩
end Go.Proofs.YtipljeomgdomnaaGreatDoor
/- Ta1 -/
/-
  A parent that is told what one wants, by one child.
-/
namespace Go.Proofs.YtipljeomgdomnaaGreatDoor
open Go

/-- all asks are the child's of number 7, for just the filters of X -/
structure Par (P : Asks) (X : Str → Prop) : Prop where
  ok : AsksOk P
  one : Ones P
  id : ∀ x ∈ P, x.2.1 = 7
  all : ∀ f, f ∈ allK P ↔ X f
theorem Par.nil : Par [] (fun _ => False) := ⟨AsksOk.nil, Ones.nil, by simp, fun f => by simp [mem_allK]⟩
theorem Par.congr {P : Asks} {X Y : Str → Prop} (h : Par P X) (hx : ∀ f, X f ↔ Y f) : Par P Y := ⟨h.ok, h.one, h.id, fun f => (h.all f).trans (hx f)⟩
theorem Par.has {P : Asks} {X : Str → Prop} (h : Par P X) (f : Str) : hasK P f 7 ≠ 0 ↔ X f := by
  rw [← h.all, mem_allK]
  constructor
  · intro hn; exact ⟨_, _, has_ne hn⟩
  · rintro ⟨i, n, hm⟩
    have h7 : i = 7 := h.id _ hm
    subst h7
    rw [has_mem h.ok hm]
    have := h.ok.pos _ hm
    simp only at this; omega
theorem Par.filt {P : Asks} {X : Str → Prop} (h : Par P X) {f : Str} (hx : X f) : filtS f = true := allK_filt h.ok f ((h.all f).2 hx)
theorem okA7 {f : Str} (hf : filtS f = true) : okA f 7 = true := by simp [okA, hf]
theorem Par.add {P : Asks} {X : Str → Prop} (h : Par P X) {f : Str} (hf : filtS f = true) (hn : ¬ X f) : setE P f 7 true = 0 ∧ Par (setR P f 7 true) (fun g => X g ∨ g = f) := by
  have hz : ¬ hasK P f 7 ≠ 0 := fun e => hn ((h.has f).1 e)
  refine ⟨by rw [setE_plain h.ok, if_pos (okA7 hf), if_pos rfl, if_neg hz], h.ok.set f 7 true, h.one.set h.ok f 7 true, ?_, ?_⟩
  all_goals rw [setR_plain h.ok h.one, if_pos (okA7 hf), if_pos rfl, if_neg hz, filter_no (has_zero h.ok (by omega))]
  · intro x hx
    rcases List.mem_append.1 hx with hx | hx
    · exact h.id x hx
    · simp at hx; subst hx; rfl
  · intro g
    rw [← h.all g, mem_allK, mem_allK]
    constructor
    · rintro ⟨i, n, hm⟩
      rcases List.mem_append.1 hm with hm | hm
      · exact .inl ⟨i, n, hm⟩
      · simp at hm; exact .inr hm.1
    · rintro (⟨i, n, hm⟩ | rfl)
      · exact ⟨i, n, List.mem_append.2 (.inl hm)⟩
      · exact ⟨7, 1, by simp⟩
theorem Par.del {P : Asks} {X : Str → Prop} (h : Par P X) {f : Str} (hx : X f) : setE P f 7 false = 0 ∧ Par (setR P f 7 false) (fun g => X g ∧ g ≠ f) := by
  have hf := h.filt hx
  have hz : hasK P f 7 ≠ 0 := (h.has f).2 hx
  refine ⟨by rw [setE_plain h.ok, if_pos (okA7 hf), if_neg (by simp), if_pos hz], h.ok.set f 7 false, h.one.set h.ok f 7 false, ?_, ?_⟩
  all_goals rw [setR_plain h.ok h.one, if_pos (okA7 hf), if_neg (by simp)]
  · intro x hm; exact h.id x (List.mem_filter.1 hm).1
  · intro g
    rw [← h.all g, mem_allK, mem_allK]
    constructor
    · rintro ⟨i, n, hm⟩
      obtain ⟨h1, h2⟩ := List.mem_filter.1 hm
      refine ⟨⟨i, n, h1⟩, fun e => ?_⟩
      subst e
      have h7 : i = 7 := h.id _ h1
      simp [isK, h7] at h2
    · rintro ⟨⟨i, n, hm⟩, hne⟩
      exact ⟨i, n, List.mem_filter.2 ⟨hm, by simp [isK, hne]⟩⟩
theorem Par.len {P : Asks} {X : Str → Prop} (h : Par P X) {l : List Str} (hl : ∀ f, X f → f ∈ l) : P.length ≤ l.length := by
  have hn : (P.map (·.1)).Nodup := by
    have hk := h.ok.keys
    rw [List.Nodup, List.pairwise_map] at hk ⊢
    refine hk.imp_of_mem ?_
    intro a b ha hb hab e
    exact hab (by rw [Prod.mk.injEq]; exact ⟨e, by rw [h.id a ha, h.id b hb]⟩)
  have := hn.length_le_of_subset (l₂ := l) fun f hf => by
    obtain ⟨x, hx, rfl⟩ := List.mem_map.1 hf
    exact hl _ ((h.all _).1 (mem_allK.2 ⟨_, _, hx⟩))
  simpa using this
theorem Par.fine {P : Asks} {X : Str → Prop} (h : Par P X) {l : List Str} (hl : ∀ f, X f → f ∈ l) {m : Nat} (hm : l.length ≤ m) (h1 : 1 ≤ m) : Fine P m :=
  ⟨h.ok, h.one, Nat.le_trans (h.len hl) hm, fun x hx => by rw [h.one x hx]; omega⟩
theorem Par.up {P A B : Asks} (h : Par P (· ∈ upS A B)) : upS [] P = upS A B := by
  have e : upS [] P = leastS (upS A B) := by
    rw [upS]
    refine least_ext fun y _ => ?_
    show y ∈ [] ++ allK P ↔ _
    rw [List.nil_append]; exact h.all y
  rw [e, upS, least_least]
theorem Par.who {P A B : Asks} (h : Par P (· ∈ upS A B)) (s : Str) : decide (0 < (idsK P s).length) = letsS (upS A B) s := by
  rw [wanted_any, letsS, letsS, Bool.eq_iff_iff, List.any_eq_true, List.any_eq_true]
  exact ⟨fun ⟨f, hf, hm⟩ => ⟨f, (h.all f).1 hf, hm⟩, fun ⟨f, hf, hm⟩ => ⟨f, (h.all f).2 hf, hm⟩⟩
theorem up_clean (A B : Asks) : cleanS (upS A B) = upS A B := clean_id (least_sorted _) (up_filt A B)
theorem without_nodup {l m : List Str} (h : l.Nodup) : (withoutS l m).Nodup := List.Sublist.nodup List.filter_sublist h
theorem up_nodup (A B : Asks) : (upS A B).Nodup := SortedS.nodup (least_sorted _)
theorem nodup_at {l : List Str} (h : l.Nodup) {k : Nat} {f : Str} (hx : l[k]? = some f) : f ∉ l.take k := fun hm => by
  obtain ⟨j, hj⟩ := List.getElem?_of_mem hm
  have hjk : j < k := by
    have := (List.getElem?_eq_some_iff.1 hj).1
    rw [List.length_take] at this; omega
  rw [List.getElem?_take_of_lt hjk] at hj
  obtain ⟨h1, e1⟩ := List.getElem?_eq_some_iff.1 hx
  obtain ⟨h2, e2⟩ := List.getElem?_eq_some_iff.1 hj
  exact List.pairwise_iff_getElem.1 h j k h2 h1 hjk (e2.trans e1.symm)
end Go.Proofs.YtipljeomgdomnaaGreatDoor
/- L5 -/
namespace Go.Proofs.YtipljeomgdomnaaGreatDoor
open Go

set_option maxRecDepth 100000 in
theorem tableSends_walk (W : World) (lv : Value) (hl : ArgF W opK lv) (s0 : Str) (hs0 : s0.length ≤ maxLen) : FN Tryz.prog 5 [lv, sv s0] [whole W] (fun v h => v = .bool true ∧ h = [whole W]) := by
  obtain ⟨l0, hrl⟩ := argOps hl
  have hll := cutOs_len l0
  have hlx := cutOs_mem (l := l0)
  refine FN.intro 140 [(0, lv), (1, sv s0)] Tryz.func5 rfl (enters Tryz.func5 (by kernel_rfl) rfl) Tryz.ntmps5 rfl rfl ?_
  refine WP.seq <| WP.region <| v0 (S0.assign rfl) rfl <| vE <| WP.seq <| WP.region <| v0 (S0.move rfl) rfl <| ?_  -- op t15 := call F9{rivulet/rivuletlaw18.Cut}(t14)
  refine vc (S1.callF rfl (cut_spec hrl) (take1 at0 take0)) rfl ?_
  rintro _ _ ⟨row, hs, rfl⟩
  refine app ?_
  generalize cutOs l0 = M at hll hlx hs
  obtain ⟨ma, mcap, rfl, hmcap, hrow⟩ := IsSl.elems (k := 4) enO_len hs
  -- (nothing to walk: op t16 := call F10{rivulet/table.New}())
  refine vc (S1.callF rfl (tnew_spec) take0) rfl ?_
  rintro _ _ ⟨tb, c0, rfl, h0, rfl⟩
  refine app ?_
  -- (nothing to walk: op t17 := call F10{rivulet/table.New}())
  refine vc (S1.callF rfl (tnew_spec) take0) rfl ?_
  rintro _ _ ⟨pb, p0, rfl, g0', rfl⟩
  refine app ?_
  refine v0 (S0.assign rfl) rfl <| v0 (S0.assign rfl) rfl <| v0 (S0.assign rfl) rfl <| vE <| WP.seq <| WP.region <| v0 (S0.move rfl) rfl <| v0 (S0.move rfl) rfl <| v0 (S0.lenSt rfl) rfl <| v0 (S0.min2 rfl rfl rfl) rfl <| ?_  -- op t22 := slice 9 t18 none t21 none
  rw [min120]
  refine v0 (S0.sliceSt (i := 0) (j := min s0.length 120) rfl rfl rfl ⟨Nat.zero_le _, by omega⟩) rfl <| ?_
  rw [take_min120]
  have hsl : (s0.take 120).length ≤ 1000 := by rw [List.length_take]; omega
  generalize s0.take 120 = s at hsl
  refine v0 (S0.assign rfl) rfl <| vE <| WP.seq <| WP.seq <| WP.region <| v0 (S0.move rfl) rfl <| v0 (S0.nilP rfl rfl rfl rfl) rfl <| v0 (S0.move rfl) rfl <| ?_  -- guard t25 (wants False) at t26 := move t7 [if #2=False]
  refine csFh (t := 25) rfl (rfl) ?_
  refine gT rfl <| v0 (S0.move rfl) rfl <| gT rfl <| v0 (S0.nilP rfl rfl rfl rfl) rfl <| v0 (S0.pickF rfl rfl) rfl <| vE <| ?_  -- cond
  refine WP.condFh rfl (rfl) ?_
  refine WP.skip <| WP.seq <| WP.region <| vnv (S1.buildSlice rfl (qs := []) rfl rfl) rfl fun b29 => v0 (S0.assign rfl) rfl <| vE <| WP.seq <| WP.seq <| WP.region <| v0 (S0.assign rfl) rfl <| vE <| WP.block <| ?_  -- Code.loop
  refine WP.loop (fun st : Nat × Asks × Asks × List Blk × Asks × List Blk × Value × List Blk => st.1 ≤ M.length ∧ IsTb tb st.2.1 st.2.2.1 st.2.2.2.1 ∧ Fine st.2.1 st.1 ∧ Fine st.2.2.1 st.1 ∧ IsTb pb [] st.2.2.2.2.1 st.2.2.2.2.2.1 ∧ Par st.2.2.2.2.1 (· ∈ upS st.2.1 st.2.2.1) ∧ IsSl 9 1 st.2.2.2.2.2.2.1 (strs (upS st.2.1 st.2.2.1)) st.2.2.2.2.2.2.2) (fun st : Nat × Asks × Asks × List Blk × Asks × List Blk × Value × List Blk => [(1, sv s), (5, .slice ma M.length mcap), (6, .pointer (some ⟨tb, 0, none⟩)), (7, .pointer (some ⟨pb, 0, none⟩)), (8, st.2.2.2.2.2.2.1), (9, .int .i64 (st.1 : Int))]) (fun st : Nat × Asks × Asks × List Blk × Asks × List Blk × Value × List Blk => [st.2.2.2.1, row, st.2.2.2.2.2.1, st.2.2.2.2.2.2.2, whole W]) (fun st : Nat × Asks × Asks × List Blk × Asks × List Blk × Value × List Blk => M.length - st.1) ((0, [], [], c0, [], p0, _, [(b29, .cells ⟨[]⟩ 9 (0, 0))])) (⟨Nat.zero_le _, h0, Fine.nil 0, Fine.nil 0, g0', Par.nil.congr (fun f => by simp [show upS [] [] = [] from rfl]), IsSl.row (n := 0) (c := 0) (l := []) (sp := []) rfl rfl (Nat.le_refl _)⟩) ⟨rfl, rfl, rfl, rfl, rfl, rfl, trivial⟩ ⟨_, (take1 (atS (atS at0)) (take1 (atS (atS at0)) (take1 (atS at0) (take1 at0 (take1 at0 take0)))))⟩ (fun st hinv => ?_) 
  obtain ⟨i, A, B, c, P, pc, sval, srow⟩ := st
  obtain ⟨hi, hT, hA, hB, hP, hPar, hss⟩ := hinv
  dsimp only at hi hT hA hB hP hPar hss ⊢
  have hU1 := up_le hA.b hB.b
  have hUx1 : ∀ f ∈ upS A B, f.length ≤ 1000 := fun f hf => by have := filt_len (up_filt A B f hf); omega
  have hUc1 := up_clean A B
  have hUn1 := up_nodup A B
  have hUf1 := up_filt A B
  generalize upS A B = U1 at hPar hss hU1 hUx1 hUc1 hUn1 hUf1
  refine WP.seq <| WP.seq <| WP.region <| v0 (S0.move rfl) rfl <| v0 (S0.move rfl) rfl <| v0 (S0.lenSl rfl) rfl <| v0 (S0.cmp rfl rfl rfl) rfl <| vE <| ?_  -- cond
  first | refine WP.condP rfl (fun h1 => ?_) (fun h1 => ?_) | refine WP.condN rfl (fun h1 => ?_) (fun h1 => ?_) | refine WP.cond rfl (fun h1 => ?_) (fun h1 => ?_)
  · skip
    have hlt : i < M.length := by omega
    rcases hrow with ⟨e, -⟩ | ⟨b1, sp1, rfl, rfl, hsp1⟩
    · rw [e] at hlt; simp at hlt
    have hx : M[i]? = some M[i] := by simp [hlt]
    have hxl := hlx _ (List.getElem_mem hlt)
    generalize M[i] = x at hx hxl
    obtain ⟨x0, x1, x2, x3, x4⟩ := x
    dsimp only at hxl
    have g0 := flat_get enO_len sp1 M i 0 _ hx (by decide)
    have g1 := flat_get enO_len sp1 M i 1 _ hx (by decide)
    have g2 := flat_get enO_len sp1 M i 2 _ hx (by decide)
    have g3 := flat_get enO_len sp1 M i 3 _ hx (by decide)
    refine WP.skip <| WP.seq <| WP.block <| WP.seq <| WP.seq <| WP.region <| v0 (S0.move rfl) rfl <| v0 (S0.move rfl) rfl <| ?_  -- op t38 := indexAddr 22 t36 t37
    refine v0 (S0.indexN (k := 5) rfl rfl hlt) rfl <| ?_
    refine v0 (S0.fieldAddr rfl) rfl <| ?_  -- limit
    refine v0 (S0.load (v := .int .i64 x0) rfl g0) rfl <| ?_
    refine v0 (S0.cmp rfl rfl rfl) rfl <| vE <| ?_  -- cut
    refine WP.cutT (fun s_ : Asks × Asks × List Blk => IsTb tb s_.1 s_.2.1 s_.2.2 ∧ Fine s_.1 (i + 1) ∧ Fine s_.2.1 (i + 1)) (fun s_ : Asks × Asks × List Blk => [(1, sv s), (7, .pointer (some ⟨pb, 0, none⟩)), (8, sval), (5, .slice (some ⟨b1, 0, none⟩) M.length mcap), (6, .pointer (some ⟨tb, 0, none⟩)), (9, .int .i64 (i : Int))]) (fun s_ : Asks × Asks × List Blk => [s_.2.2, [(b1, .cells ⟨M.flatMap enO ++ sp1⟩ 33 (0, 0))], pc, srow, whole W]) ?_ (fun s_ hinv => ?_)
    · -- (nothing to walk: cond)
      first | refine WP.condP rfl (fun h2 => ?_) (fun h2 => ?_) | refine WP.condN rfl (fun h2 => ?_) (fun h2 => ?_) | refine WP.cond rfl (fun h2 => ?_) (fun h2 => ?_)
      · skip
        skip
        refine WP.drawP [(0, none), (1, none), (2, none), (3, none), (4, none), (5, none), (6, none), (7, none), (8, none), (9, none), (10, none), (11, none), (12, none), (13, none), (14, none), (15, none), (16, none)] mixed (by kernel_rfl) (by kernel_rfl) (by kernel_rfl) (take1 (atS at0) take0) <| w0 rfl rfl rfl (S0.move rfl) rfl <| w0 rfl rfl rfl (S0.move rfl) rfl <| w0 rfl rfl rfl (S0.move rfl) rfl <| ?_  -- op t45 := indexAddr 22 t43 t44
        refine w0 rfl rfl rfl (S0.indexN (k := 5) rfl rfl hlt) rfl <| ?_
        refine w0 rfl rfl rfl (S0.fieldAddr rfl) rfl <| ?_  -- limit
        refine w0 rfl rfl rfl (S0.load (v := .int .i64 x1) rfl g1) rfl <| ?_
        refine w0 rfl rfl rfl (S0.move rfl) rfl <| w0 rfl rfl rfl (S0.move rfl) rfl <| ?_  -- op t50 := indexAddr 22 t48 t49
        refine w0 rfl rfl rfl (S0.indexN (k := 5) rfl rfl hlt) rfl <| ?_
        refine w0 rfl rfl rfl (S0.fieldAddr rfl) rfl <| ?_  -- limit
        refine w0 rfl rfl rfl (S0.load (v := sv x2) rfl g2) rfl <| ?_
        refine w0 rfl rfl rfl (S0.move rfl) rfl <| w0 rfl rfl rfl (S0.move rfl) rfl <| ?_  -- op t55 := indexAddr 22 t53 t54
        refine w0 rfl rfl rfl (S0.indexN (k := 5) rfl rfl hlt) rfl <| ?_
        refine w0 rfl rfl rfl (S0.fieldAddr rfl) rfl <| ?_  -- limit
        refine w0 rfl rfl rfl (S0.load (v := .bool x3) rfl g3) rfl <| ?_
        refine wc rfl rfl rfl rfl (S1.callF rfl (own_spec hT hA.b (by omega) (f := x2) (by omega) x1 x3) (take1 at0 take0)) rfl ?_
        rintro _ _ ⟨c', rfl, hT', rfl⟩
        refine wapp ?_
        refine wE <| ?_  -- cutend
        exact ⟨(setR A x2 x1 x3, B, c'), (by first | exact ⟨hT', hA.set _ _ _, hB.mono (Nat.le_succ i)⟩ | (dsimp only; exact ⟨hT', hA.set _ _ _, hB.mono (Nat.le_succ i)⟩)), ⟨⟨rfl, rfl, rfl, rfl, rfl, rfl, trivial⟩, rfl, rfl⟩, ⟨_, (take1 (atS at0) (take1 at0 (take1 at0 (take1 at0 (take1 at0 take0)))))⟩⟩
      · skip
        refine WP.seq <| WP.region <| v0 (S0.move rfl) rfl <| v0 (S0.move rfl) rfl <| ?_  -- op t61 := indexAddr 22 t59 t60
        refine v0 (S0.indexN (k := 5) rfl rfl hlt) rfl <| ?_
        refine v0 (S0.fieldAddr rfl) rfl <| ?_  -- limit
        refine v0 (S0.load (v := .int .i64 x0) rfl g0) rfl <| ?_
        refine v0 (S0.cmp rfl rfl rfl) rfl <| vE <| ?_  -- cond
        first | refine WP.condP rfl (fun h3 => ?_) (fun h3 => ?_) | refine WP.condN rfl (fun h3 => ?_) (fun h3 => ?_) | refine WP.cond rfl (fun h3 => ?_) (fun h3 => ?_)
        · skip
          skip
          refine WP.drawP [(0, none), (1, none), (2, none), (3, none), (4, none), (5, none), (6, none), (7, none), (8, none), (9, none), (10, none), (11, none), (12, none), (13, none), (14, none), (15, none), (16, none)] mixed (by kernel_rfl) (by kernel_rfl) (by kernel_rfl) (take1 (atS at0) take0) <| w0 rfl rfl rfl (S0.move rfl) rfl <| w0 rfl rfl rfl (S0.move rfl) rfl <| w0 rfl rfl rfl (S0.move rfl) rfl <| ?_  -- op t68 := indexAddr 22 t66 t67
          refine w0 rfl rfl rfl (S0.indexN (k := 5) rfl rfl hlt) rfl <| ?_
          refine w0 rfl rfl rfl (S0.fieldAddr rfl) rfl <| ?_  -- limit
          refine w0 rfl rfl rfl (S0.load (v := .int .i64 x1) rfl g1) rfl <| ?_
          refine w0 rfl rfl rfl (S0.move rfl) rfl <| w0 rfl rfl rfl (S0.move rfl) rfl <| ?_  -- op t73 := indexAddr 22 t71 t72
          refine w0 rfl rfl rfl (S0.indexN (k := 5) rfl rfl hlt) rfl <| ?_
          refine w0 rfl rfl rfl (S0.fieldAddr rfl) rfl <| ?_  -- limit
          refine w0 rfl rfl rfl (S0.load (v := sv x2) rfl g2) rfl <| ?_
          refine w0 rfl rfl rfl (S0.move rfl) rfl <| w0 rfl rfl rfl (S0.move rfl) rfl <| ?_  -- op t78 := indexAddr 22 t76 t77
          refine w0 rfl rfl rfl (S0.indexN (k := 5) rfl rfl hlt) rfl <| ?_
          refine w0 rfl rfl rfl (S0.fieldAddr rfl) rfl <| ?_  -- limit
          refine w0 rfl rfl rfl (S0.load (v := .bool x3) rfl g3) rfl <| ?_
          refine wc rfl rfl rfl rfl (S1.callF rfl (want_spec hT hB.b (by omega) (f := x2) (by omega) x1 x3) (take1 at0 take0)) rfl ?_
          rintro _ _ ⟨c', rfl, hT', rfl⟩
          refine wapp ?_
          refine wE <| ?_  -- cutend
          exact ⟨(A, setR B x2 x1 x3, c'), (by first | exact ⟨hT', hA.mono (Nat.le_succ i), hB.set _ _ _⟩ | (dsimp only; exact ⟨hT', hA.mono (Nat.le_succ i), hB.set _ _ _⟩)), ⟨⟨rfl, rfl, rfl, rfl, rfl, rfl, trivial⟩, rfl, rfl⟩, ⟨_, (take1 (atS at0) (take1 at0 (take1 at0 (take1 at0 (take1 at0 take0)))))⟩⟩
        · skip
          refine WP.region <| v0 (S0.move rfl) rfl <| v0 (S0.move rfl) rfl <| v0 (S0.move rfl) rfl <| ?_  -- op t85 := indexAddr 22 t83 t84
          refine v0 (S0.indexN (k := 5) rfl rfl hlt) rfl <| ?_
          refine v0 (S0.fieldAddr rfl) rfl <| ?_  -- limit
          refine v0 (S0.load (v := .int .i64 x1) rfl g1) rfl <| ?_
          refine vc (S1.callF rfl (tleave_spec hT hB.b (by omega) x1) (take1 at0 take0)) rfl ?_
          rintro _ _ ⟨c', rfl, hT', rfl⟩
          refine app ?_
          refine vE <| ?_  -- cutend
          exact ⟨(A, leaveK B x1, c'), (by first | exact ⟨hT', hA.mono (Nat.le_succ i), hB.leave _⟩ | (dsimp only; exact ⟨hT', hA.mono (Nat.le_succ i), hB.leave _⟩)), ⟨⟨rfl, rfl, rfl, rfl, rfl, rfl, trivial⟩, rfl, rfl⟩, ⟨_, (take1 at0 (take1 at0 (take1 at0 (take1 at0 (take1 at0 take0)))))⟩⟩
    · skip
      clear hT hA hB
      obtain ⟨A, B, c⟩ := s_
      obtain ⟨hT, hA, hB⟩ := hinv
      dsimp only at hT hA hB ⊢
      have hU2 := up_le hA.b hB.b
      have hUx2 : ∀ f ∈ upS A B, f.length ≤ 1000 := fun f hf => by have := filt_len (up_filt A B f hf); omega
      have hUc2 := up_clean A B
      have hUn2 := up_nodup A B
      have hUf2 := up_filt A B
      have hw := up_lets A B s
      refine WP.seq <| WP.region <| v0 (S0.move rfl) rfl <| v0 (S0.move rfl) rfl <| ?_  -- op t92 := call F12{(*rivulet/table.Table).Diff}(t90, t91)
      refine vc (S1.callF rfl (tdiff_spec hT hA hB (by omega) hss.rdS hUx1 (by omega)) (take1 at0 (take1 (atS (atS at0)) take0))) rfl ?_
      rintro _ _ ⟨v1, v2, q1, q2, s1, s2, rfl, rfl⟩
      refine app ?_
      rw [hUc1, hUc2] at s1 s2
      have hC := without_len (upS A B) U1
      have hG := without_len U1 (upS A B)
      have hCn := without_nodup (m := U1) hUn2
      have hGn := without_nodup (m := upS A B) hUn1
      have hCm : ∀ f ∈ withoutS (upS A B) U1, f ∈ upS A B ∧ f ∉ U1 := fun f hf => mem_without.1 hf
      have hGm : ∀ f ∈ withoutS U1 (upS A B), f ∈ U1 ∧ f ∉ upS A B := fun f hf => mem_without.1 hf
      have hEnd : ∀ f, (((f ∈ U1 ∨ f ∈ withoutS (upS A B) U1) ∧ f ∉ withoutS U1 (upS A B)) ↔ f ∈ upS A B) := fun f => by
        rw [mem_without, mem_without]
        by_cases a1 : f ∈ U1 <;> by_cases a2 : f ∈ upS A B <;> simp [a1, a2]
      generalize withoutS (upS A B) U1 = C at s1 hC hCn hCm hEnd
      generalize withoutS U1 (upS A B) = G at s2 hG hGn hGm hEnd
      obtain ⟨ca, cc, rfl, -, hcr⟩ := s1.strsE
      obtain ⟨ga, gc, rfl, -, hgr⟩ := s2.strsE
      refine v0 (S0.move rfl) rfl <| v0 (S0.extract rfl rfl) rfl <| v0 (S0.extract rfl rfl) rfl <| v0 (S0.assign rfl) rfl <| v0 (S0.assign rfl) rfl <| vE <| WP.seq <| WP.seq <| WP.region <| v0 (S0.assign rfl) rfl <| vE <| WP.block <| ?_  -- Code.loop
      refine WP.loop (fun st : Nat × Asks × List Blk => st.1 ≤ C.length ∧ IsTb pb [] st.2.1 st.2.2 ∧ Par st.2.1 (fun f => f ∈ U1 ∨ f ∈ C.take st.1)) (fun st : Nat × Asks × List Blk => [(1, sv s), (5, .slice (some ⟨b1, 0, none⟩) M.length mcap), (6, .pointer (some ⟨tb, 0, none⟩)), (7, .pointer (some ⟨pb, 0, none⟩)), (9, .int .i64 (i : Int)), (10, .slice ca C.length cc), (11, .slice ga G.length gc), (12, .int .i64 (st.1 : Int))]) (fun st : Nat × Asks × List Blk => [st.2.2, q1, q2, c, [(b1, .cells ⟨M.flatMap enO ++ sp1⟩ 33 (0, 0))], whole W]) (fun st : Nat × Asks × List Blk => C.length - st.1) ((0, P, pc)) (⟨Nat.zero_le _, hP, hPar.congr (fun f => by simp)⟩) ⟨rfl, rfl, rfl, rfl, rfl, rfl, rfl, rfl, trivial⟩ ⟨_, (take1 (atS (atS (atS (atS (atS at0))))) (take1 at0 (take1 at0 (take1 at0 (take1 (atS at0) (take1 (atS at0) take0))))))⟩ (fun st hinv => ?_) 
      obtain ⟨k, P, pc⟩ := st
      clear hP hPar
      obtain ⟨hk, hP, hPar⟩ := hinv
      dsimp only at hk hP hPar ⊢
      have hPf : Fine P 500 := hPar.fine (l := U1 ++ C) (fun f hf => List.mem_append.2 (hf.imp (fun x => x) (fun x => List.mem_of_mem_take x))) (by simp; omega) (by decide)
      refine WP.seq <| WP.seq <| WP.region <| v0 (S0.move rfl) rfl <| v0 (S0.move rfl) rfl <| v0 (S0.lenSl rfl) rfl <| v0 (S0.cmp rfl rfl rfl) rfl <| vE <| ?_  -- cond
      first | refine WP.condP rfl (fun h4 => ?_) (fun h4 => ?_) | refine WP.condN rfl (fun h4 => ?_) (fun h4 => ?_) | refine WP.cond rfl (fun h4 => ?_) (fun h4 => ?_)
      · skip
        have hlk : k < C.length := by omega
        rcases hcr with ⟨e, -⟩ | ⟨b2, sp2, rfl, rfl, hsp2⟩
        · rw [e] at hlk; simp at hlk
        have hy : C[k]? = some C[k] := by simp [hlk]
        have hyc := hCm _ (List.getElem_mem hlk)
        generalize C[k] = f at hy hyc
        have hfl := hUx2 f hyc.1
        obtain ⟨eE, hPar'⟩ := hPar.add (hUf2 f hyc.1) (fun h => h.elim hyc.2 (nodup_at hCn hy))
        refine WP.skip <| WP.seq <| WP.block <| WP.seq <| WP.region <| v0 (S0.move rfl) rfl <| v0 (S0.move rfl) rfl <| v0 (S0.move rfl) rfl <| ?_  -- op t104 := indexAddr 23 t102 t103
        refine v0 (S0.index1 rfl rfl hlk) rfl <| ?_
        refine v0 (S0.load rfl (strs_get hy)) rfl <| ?_
        refine vc (S1.callF rfl (want_spec hP hPf.b (by omega) hfl 7 true) (take1 at0 take0)) rfl ?_
        rintro _ _ ⟨pc', rfl, hP', rfl⟩
        refine app ?_
        rw [eE]
        refine v0 (S0.cmp rfl rfl rfl) rfl <| vE <| ?_  -- cond
        refine WP.condFh rfl ((by simp)) ?_
        refine WP.skip <| WP.region <| v0 (S0.move rfl) rfl <| v0 (S0.ari rfl rfl rfl (wrap_i64 (by omega))) rfl <| v0 (S0.assign rfl) rfl <| vE <| ?_  -- roundend
        exact ⟨(k + 1, setR P f 7 true, pc'), (by first | exact ⟨hlk, hP', hPar'.congr (fun g => by rw [take_one hy]; simp [or_assoc])⟩ | (dsimp only; exact ⟨hlk, hP', hPar'.congr (fun g => by rw [take_one hy]; simp [or_assoc])⟩)), (show C.length - (k + 1) < C.length - k by omega), ⟨⟨rfl, rfl, rfl, rfl, rfl, rfl, rfl, rfl, trivial⟩, rfl, rfl⟩, ⟨_, (take1 at0 (take1 at0 (take1 at0 (take1 at0 (take1 at0 (take1 at0 take0))))))⟩⟩
      · skip
        have ek : k = C.length := by omega
        rw [ek, List.take_length] at hPar
        refine WP.exit <| WP.seq <| WP.seq <| WP.region <| v0 (S0.assign rfl) rfl <| vE <| WP.block <| ?_  -- Code.loop
        refine WP.loop (fun st : Nat × Asks × List Blk => st.1 ≤ G.length ∧ IsTb pb [] st.2.1 st.2.2 ∧ Par st.2.1 (fun f => (f ∈ U1 ∨ f ∈ C) ∧ f ∉ G.take st.1)) (fun st : Nat × Asks × List Blk => [(1, sv s), (5, .slice (some ⟨b1, 0, none⟩) M.length mcap), (6, .pointer (some ⟨tb, 0, none⟩)), (7, .pointer (some ⟨pb, 0, none⟩)), (9, .int .i64 (i : Int)), (11, .slice ga G.length gc), (13, .int .i64 (st.1 : Int))]) (fun st : Nat × Asks × List Blk => [st.2.2, q2, c, [(b1, .cells ⟨M.flatMap enO ++ sp1⟩ 33 (0, 0))], whole W]) (fun st : Nat × Asks × List Blk => G.length - st.1) ((0, P, pc)) (⟨Nat.zero_le _, hP, hPar.congr (fun f => by simp)⟩) ⟨rfl, rfl, rfl, rfl, rfl, rfl, rfl, trivial⟩ ⟨_, (take1 at0 (take1 (atS at0) (take1 (atS at0) (take1 (atS at0) (take1 (atS at0) take0)))))⟩ (fun st hinv => ?_) 
        obtain ⟨j, P, pc⟩ := st
        clear hP hPar hPf
        obtain ⟨hj, hP, hPar⟩ := hinv
        dsimp only at hj hP hPar ⊢
        have hPf : Fine P 500 := hPar.fine (l := U1 ++ C) (fun f hf => List.mem_append.2 hf.1) (by simp; omega) (by decide)
        refine WP.seq <| WP.seq <| WP.region <| v0 (S0.move rfl) rfl <| v0 (S0.move rfl) rfl <| v0 (S0.lenSl rfl) rfl <| v0 (S0.cmp rfl rfl rfl) rfl <| vE <| ?_  -- cond
        first | refine WP.condP rfl (fun h5 => ?_) (fun h5 => ?_) | refine WP.condN rfl (fun h5 => ?_) (fun h5 => ?_) | refine WP.cond rfl (fun h5 => ?_) (fun h5 => ?_)
        · skip
          have hlj : j < G.length := by omega
          rcases hgr with ⟨e, -⟩ | ⟨b2, sp2, rfl, rfl, hsp2⟩
          · rw [e] at hlj; simp at hlj
          have hy : G[j]? = some G[j] := by simp [hlj]
          have hyc := hGm _ (List.getElem_mem hlj)
          generalize G[j] = f at hy hyc
          have hfl := hUx1 f hyc.1
          obtain ⟨eE, hPar'⟩ := hPar.del (f := f) ⟨.inl hyc.1, nodup_at hGn hy⟩
          refine WP.skip <| WP.seq <| WP.block <| WP.seq <| WP.region <| v0 (S0.move rfl) rfl <| v0 (S0.move rfl) rfl <| v0 (S0.move rfl) rfl <| ?_  -- op t117 := indexAddr 23 t115 t116
          refine v0 (S0.index1 rfl rfl hlj) rfl <| ?_
          refine v0 (S0.load rfl (strs_get hy)) rfl <| ?_
          refine vc (S1.callF rfl (want_spec hP hPf.b (by omega) hfl 7 false) (take1 at0 take0)) rfl ?_
          rintro _ _ ⟨pc', rfl, hP', rfl⟩
          refine app ?_
          rw [eE]
          refine v0 (S0.cmp rfl rfl rfl) rfl <| vE <| ?_  -- cond
          refine WP.condFh rfl ((by simp)) ?_
          refine WP.skip <| WP.region <| v0 (S0.move rfl) rfl <| v0 (S0.ari rfl rfl rfl (wrap_i64 (by omega))) rfl <| v0 (S0.assign rfl) rfl <| vE <| ?_  -- roundend
          exact ⟨(j + 1, setR P f 7 false, pc'), (by first | exact ⟨hlj, hP', hPar'.congr (fun g => by rw [take_one hy]; simp [and_assoc])⟩ | (dsimp only; exact ⟨hlj, hP', hPar'.congr (fun g => by rw [take_one hy]; simp [and_assoc])⟩)), (show G.length - (j + 1) < G.length - j by omega), ⟨⟨rfl, rfl, rfl, rfl, rfl, rfl, rfl, trivial⟩, rfl, rfl⟩, ⟨_, (take1 at0 (take1 at0 (take1 at0 (take1 at0 (take1 at0 take0)))))⟩⟩
        · skip
          have ej : j = G.length := by omega
          rw [ej, List.take_length] at hPar
          have hPar := hPar.congr hEnd
          have eU := hPar.up
          have eW := hPar.who s
          rw [hw] at eW
          have hip := idsK_le hPf.b s
          refine WP.exit <| WP.seq <| WP.region <| v0 (S0.move rfl) rfl <| ?_  -- op t122 := call F16{(*rivulet/table.Table).Up}(t121)
          refine vc (S1.callF rfl (up_spec hT hA hB (by omega)) (take1 (atS (atS at0)) take0)) rfl ?_
          rintro uv _ ⟨ur, su, rfl⟩
          refine app ?_
          refine v0 (S0.assign rfl) rfl <| vE <| WP.seq <| WP.region <| v0 (S0.move rfl) rfl <| ?_  -- op t124 := call F16{(*rivulet/table.Table).Up}(t123)
          refine vc (S1.callF rfl (up_spec hP (Fine.nil 500) hPf (by omega)) (take1 (atS (atS at0)) take0)) rfl ?_
          rintro uv2 _ ⟨ur2, su2, rfl⟩
          refine app ?_
          rw [eU] at su2
          refine v0 (S0.move rfl) rfl <| ?_  -- op t126 := call F15{rivulet/rivuletref02.Same}(t124, t125)
          refine vcd (S1.callF rfl (same_spec su2.rdS su.rdS (by omega)) (take1 at0 (take1 (atS at0) take0))) rfl ?_
          refine v0 (S0.not rfl) rfl <| v0 (S0.move rfl) rfl <| ?_  -- guard t128 (wants False) at t129 := move t7 [if #5=False]
          refine csFh (t := 128) rfl ((by simp)) ?_
          refine gT rfl <| v0 (S0.move rfl) rfl <| gT rfl <| v0 (S0.move rfl) rfl <| ?_  -- op t131 := call F20{(*rivulet/table.Table).Children}(t129, t130) [if #5=False]
          refine gT rfl <| vc (S1.callF rfl (children_spec hP hPf.b (by omega) hsl) (take1 (atS (atS at0)) take0)) rfl ?_
          rintro cv _ ⟨cr, sc, rfl⟩
          refine app ?_
          obtain ⟨c2a, c2c, rfl, -, -⟩ := sc.intsE
          refine gT rfl <| v0 (S0.lenSl rfl) rfl <| gT rfl <| v0 (S0.cmp rfl rfl rfl) rfl <| gT rfl <| v0 (S0.move rfl) rfl <| gT rfl <| v0 (S0.move rfl) rfl <| ?_  -- op t136 := call F25{(*rivulet/table.Table).Wanted}(t134, t135) [if #5=False]
          refine gT rfl <| vcd (S1.callF rfl (wanted_spec hT hA.b hB.b (by omega) hsl) (take1 (atS (atS (atS (atS at0)))) take0)) rfl ?_
          rw [← eW]
          refine gT rfl <| v0 (S0.cmpB rfl rfl rfl) rfl <| v0 (S0.pickF rfl rfl) rfl <| vE <| ?_  -- cond
          refine WP.condFh rfl ((by simp)) ?_
          refine WP.skip <| WP.region <| v0 (S0.move rfl) rfl <| v0 (S0.ari rfl rfl rfl (wrap_i64 (by omega))) rfl <| v0 (S0.assign rfl) rfl <| vE <| ?_  -- roundend
          exact ⟨(i + 1, A, B, c, P, pc, uv, ur), (by first | exact ⟨hlt, hT, hA, hB, hP, hPar, su⟩ | (dsimp only; exact ⟨hlt, hT, hA, hB, hP, hPar, su⟩)), (show M.length - (i + 1) < M.length - i by omega), ⟨⟨rfl, rfl, rfl, rfl, rfl, rfl, trivial⟩, rfl, rfl⟩, ⟨[cr, ur2, q2], (pm fun a_ => by (try simp only [List.flatten_append, List.flatten_cons, List.flatten_nil, List.append_nil, List.cons_append, List.nil_append, List.append_assoc, nOf_app, nOf_cons, nOf_nil, Nat.add_zero, Nat.zero_add, List.map_append, List.map_cons, List.map_nil, cel, sv]); omega)⟩⟩
  · skip
    refine WP.exit <| WP.seq <| WP.region <| ?_  -- op t139 := call F21{rivulet/rivuletlaw18.fixed}()
    refine vcd (S1.callF rfl (fixed_spec) take0) rfl ?_
    refine v0 (S0.assign rfl) rfl <| vE <| WP.ret <| ?_  -- ret
    refine Leaves.drop (take1 (atS (atS (atS (atS at0)))) take0) ?_
    refine r1 rfl rfl ?_
    exact ⟨rfl, rfl⟩
end Go.Proofs.YtipljeomgdomnaaGreatDoor
/- L6 -/
namespace Go.Proofs.YtipljeomgdomnaaGreatDoor
open Go

set_option maxRecDepth 100000 in
theorem tableApart_walk (W : World) (lv : Value) (hl : ArgF W opK lv) (s0 : Str) (hs0 : s0.length ≤ maxLen) : FN Tryz.prog 6 [lv, sv s0] [whole W] (fun v h => v = .bool true ∧ h = [whole W]) := by
  obtain ⟨l0, hrl⟩ := argOps hl
  have hll := cutOs_len l0
  have hlx := cutOs_mem (l := l0)
  refine FN.intro 117 [(0, lv), (1, sv s0)] Tryz.func6 rfl (enters Tryz.func6 (by kernel_rfl) rfl) Tryz.ntmps6 rfl rfl ?_
  refine WP.seq <| WP.region <| v0 (S0.assign rfl) rfl <| vE <| WP.seq <| WP.region <| v0 (S0.move rfl) rfl <| ?_  -- op t10 := call F9{rivulet/rivuletlaw18.Cut}(t9)
  refine vc (S1.callF rfl (cut_spec hrl) (take1 at0 take0)) rfl ?_
  rintro _ _ ⟨row, hs, rfl⟩
  refine app ?_
  generalize cutOs l0 = M at hll hlx hs
  obtain ⟨ma, mcap, rfl, hmcap, hrow⟩ := IsSl.elems (k := 4) enO_len hs
  -- (nothing to walk: op t11 := call F10{rivulet/table.New}())
  refine vc (S1.callF rfl (tnew_spec) take0) rfl ?_
  rintro _ _ ⟨tb, c0, rfl, h0, rfl⟩
  refine app ?_
  -- (nothing to walk: op t12 := call F10{rivulet/table.New}())
  refine vc (S1.callF rfl (tnew_spec) take0) rfl ?_
  rintro _ _ ⟨ub, u0, rfl, h0', rfl⟩
  refine app ?_
  refine v0 (S0.assign rfl) rfl <| v0 (S0.assign rfl) rfl <| v0 (S0.assign rfl) rfl <| vE <| WP.seq <| WP.region <| v0 (S0.move rfl) rfl <| v0 (S0.move rfl) rfl <| v0 (S0.lenSt rfl) rfl <| v0 (S0.min2 rfl rfl rfl) rfl <| ?_  -- op t17 := slice 9 t13 none t16 none
  rw [min120]
  refine v0 (S0.sliceSt (i := 0) (j := min s0.length 120) rfl rfl rfl ⟨Nat.zero_le _, by omega⟩) rfl <| ?_
  rw [take_min120]
  have hsl : (s0.take 120).length ≤ 1000 := by rw [List.length_take]; omega
  generalize s0.take 120 = s at hsl
  refine v0 (S0.assign rfl) rfl <| vE <| WP.seq <| WP.seq <| WP.region <| v0 (S0.move rfl) rfl <| v0 (S0.nilP rfl rfl rfl rfl) rfl <| v0 (S0.move rfl) rfl <| ?_  -- guard t20 (wants False) at t21 := move t7 [if #2=False]
  refine csFh (t := 20) rfl (rfl) ?_
  refine gT rfl <| v0 (S0.move rfl) rfl <| gT rfl <| v0 (S0.nilP rfl rfl rfl rfl) rfl <| v0 (S0.pickF rfl rfl) rfl <| vE <| ?_  -- cond
  refine WP.condFh rfl (rfl) ?_
  refine WP.skip <| WP.seq <| WP.seq <| WP.region <| v0 (S0.assign rfl) rfl <| vE <| WP.block <| ?_  -- Code.loop
  refine WP.loop (fun st : Nat × Asks × Asks × List Blk × List Blk => st.1 ≤ M.length ∧ IsTb tb st.2.1 [] st.2.2.2.1 ∧ IsTb ub st.2.1 st.2.2.1 st.2.2.2.2 ∧ Fine st.2.1 st.1 ∧ Fine st.2.2.1 st.1) (fun st : Nat × Asks × Asks × List Blk × List Blk => [(1, sv s), (5, .slice ma M.length mcap), (6, .pointer (some ⟨tb, 0, none⟩)), (7, .pointer (some ⟨ub, 0, none⟩)), (8, .int .i64 (st.1 : Int))]) (fun st : Nat × Asks × Asks × List Blk × List Blk => [st.2.2.2.1, row, st.2.2.2.2, whole W]) (fun st : Nat × Asks × Asks × List Blk × List Blk => M.length - st.1) ((0, [], [], c0, u0)) (⟨Nat.zero_le _, h0, h0', Fine.nil 0, Fine.nil 0⟩) ⟨rfl, rfl, rfl, rfl, rfl, trivial⟩ ⟨_, (take1 (atS at0) (take1 (atS at0) (take1 at0 (take1 at0 take0))))⟩ (fun st hinv => ?_) 
  obtain ⟨i, A, B, c, u⟩ := st
  obtain ⟨hi, hT, hU, hA, hB⟩ := hinv
  dsimp only at hi hT hU hA hB ⊢
  refine WP.seq <| WP.seq <| WP.region <| v0 (S0.move rfl) rfl <| v0 (S0.move rfl) rfl <| v0 (S0.lenSl rfl) rfl <| v0 (S0.cmp rfl rfl rfl) rfl <| vE <| ?_  -- cond
  first | refine WP.condP rfl (fun h1 => ?_) (fun h1 => ?_) | refine WP.condN rfl (fun h1 => ?_) (fun h1 => ?_) | refine WP.cond rfl (fun h1 => ?_) (fun h1 => ?_)
  · skip
    have hlt : i < M.length := by omega
    rcases hrow with ⟨e, -⟩ | ⟨b1, sp1, rfl, rfl, hsp1⟩
    · rw [e] at hlt; simp at hlt
    have hx : M[i]? = some M[i] := by simp [hlt]
    have hxl := hlx _ (List.getElem_mem hlt)
    generalize M[i] = x at hx hxl
    obtain ⟨x0, x1, x2, x3, x4⟩ := x
    dsimp only at hxl
    have g0 := flat_get enO_len sp1 M i 0 _ hx (by decide)
    have g1 := flat_get enO_len sp1 M i 1 _ hx (by decide)
    have g2 := flat_get enO_len sp1 M i 2 _ hx (by decide)
    have g3 := flat_get enO_len sp1 M i 3 _ hx (by decide)
    refine WP.skip <| WP.seq <| WP.block <| WP.seq <| WP.region <| v0 (S0.move rfl) rfl <| v0 (S0.move rfl) rfl <| ?_  -- op t32 := indexAddr 22 t30 t31
    refine v0 (S0.indexN (k := 5) rfl rfl hlt) rfl <| ?_
    refine v0 (S0.fieldAddr rfl) rfl <| ?_  -- limit
    refine v0 (S0.load (v := .int .i64 x0) rfl g0) rfl <| ?_
    refine v0 (S0.cmp rfl rfl rfl) rfl <| vE <| ?_  -- cond
    first | refine WP.condP rfl (fun h2 => ?_) (fun h2 => ?_) | refine WP.condN rfl (fun h2 => ?_) (fun h2 => ?_) | refine WP.cond rfl (fun h2 => ?_) (fun h2 => ?_)
    · skip
      skip
      refine WP.seq <| WP.drawP [(0, none), (1, none), (2, none), (3, none), (4, none), (5, none), (6, none), (7, none), (8, none), (9, none), (10, none), (11, none), (12, none), (13, none), (14, none), (15, none), (16, none)] mixed (by kernel_rfl) (by kernel_rfl) (by kernel_rfl) (take1 (atS at0) take0) <| w0 rfl rfl rfl (S0.move rfl) rfl <| w0 rfl rfl rfl (S0.move rfl) rfl <| w0 rfl rfl rfl (S0.move rfl) rfl <| ?_  -- op t39 := indexAddr 22 t37 t38
      refine w0 rfl rfl rfl (S0.indexN (k := 5) rfl rfl hlt) rfl <| ?_
      refine w0 rfl rfl rfl (S0.fieldAddr rfl) rfl <| ?_  -- limit
      refine w0 rfl rfl rfl (S0.load (v := .int .i64 x1) rfl g1) rfl <| ?_
      refine w0 rfl rfl rfl (S0.move rfl) rfl <| w0 rfl rfl rfl (S0.move rfl) rfl <| ?_  -- op t44 := indexAddr 22 t42 t43
      refine w0 rfl rfl rfl (S0.indexN (k := 5) rfl rfl hlt) rfl <| ?_
      refine w0 rfl rfl rfl (S0.fieldAddr rfl) rfl <| ?_  -- limit
      refine w0 rfl rfl rfl (S0.load (v := sv x2) rfl g2) rfl <| ?_
      refine w0 rfl rfl rfl (S0.move rfl) rfl <| w0 rfl rfl rfl (S0.move rfl) rfl <| ?_  -- op t49 := indexAddr 22 t47 t48
      refine w0 rfl rfl rfl (S0.indexN (k := 5) rfl rfl hlt) rfl <| ?_
      refine w0 rfl rfl rfl (S0.fieldAddr rfl) rfl <| ?_  -- limit
      refine w0 rfl rfl rfl (S0.load (v := .bool x3) rfl g3) rfl <| ?_
      refine wc rfl rfl rfl rfl (S1.callF rfl (own_spec hT hA.b (by omega) (f := x2) (by omega) x1 x3) (take1 at0 take0)) rfl ?_
      rintro _ _ ⟨c', rfl, hT', rfl⟩
      refine wapp ?_
      skip
      refine wE <| WP.drawP [(0, none), (1, none), (2, none), (3, none), (4, none), (5, none), (6, none), (7, none), (8, none), (9, none), (10, none), (11, none), (12, none), (13, none), (14, none), (15, none), (16, none)] mixed (by kernel_rfl) (by kernel_rfl) (by kernel_rfl) (take1 at0 take0) <| w0 rfl rfl rfl (S0.move rfl) rfl <| w0 rfl rfl rfl (S0.move rfl) rfl <| w0 rfl rfl rfl (S0.move rfl) rfl <| ?_  -- op t56 := indexAddr 22 t54 t55
      refine w0 rfl rfl rfl (S0.indexN (k := 5) rfl rfl hlt) rfl <| ?_
      refine w0 rfl rfl rfl (S0.fieldAddr rfl) rfl <| ?_  -- limit
      refine w0 rfl rfl rfl (S0.load (v := .int .i64 x1) rfl g1) rfl <| ?_
      refine w0 rfl rfl rfl (S0.move rfl) rfl <| w0 rfl rfl rfl (S0.move rfl) rfl <| ?_  -- op t61 := indexAddr 22 t59 t60
      refine w0 rfl rfl rfl (S0.indexN (k := 5) rfl rfl hlt) rfl <| ?_
      refine w0 rfl rfl rfl (S0.fieldAddr rfl) rfl <| ?_  -- limit
      refine w0 rfl rfl rfl (S0.load (v := sv x2) rfl g2) rfl <| ?_
      refine w0 rfl rfl rfl (S0.move rfl) rfl <| w0 rfl rfl rfl (S0.move rfl) rfl <| ?_  -- op t66 := indexAddr 22 t64 t65
      refine w0 rfl rfl rfl (S0.indexN (k := 5) rfl rfl hlt) rfl <| ?_
      refine w0 rfl rfl rfl (S0.fieldAddr rfl) rfl <| ?_  -- limit
      refine w0 rfl rfl rfl (S0.load (v := .bool x3) rfl g3) rfl <| ?_
      refine wc rfl rfl rfl rfl (S1.callF rfl (own_spec hU hA.b (by omega) (f := x2) (by omega) x1 x3) (take1 (atS at0) take0)) rfl ?_
      rintro _ _ ⟨u', rfl, hU', rfl⟩
      refine wapp ?_
      refine wE <| WP.region <| v0 (S0.move rfl) rfl <| v0 (S0.ari rfl rfl rfl (wrap_i64 (by omega))) rfl <| v0 (S0.assign rfl) rfl <| vE <| ?_  -- roundend
      exact ⟨(i + 1, setR A x2 x1 x3, B, c', u'), (by first | exact ⟨hlt, hT', hU', hA.set _ _ _, hB.mono (Nat.le_succ i)⟩ | (dsimp only; exact ⟨hlt, hT', hU', hA.set _ _ _, hB.mono (Nat.le_succ i)⟩)), (show M.length - (i + 1) < M.length - i by omega), ⟨⟨rfl, rfl, rfl, rfl, rfl, trivial⟩, rfl, rfl⟩, ⟨_, (take1 (atS (atS at0)) (take1 at0 (take1 at0 (take1 at0 take0))))⟩⟩
    · skip
      refine WP.seq <| WP.region <| v0 (S0.move rfl) rfl <| v0 (S0.move rfl) rfl <| ?_  -- op t72 := indexAddr 22 t70 t71
      refine v0 (S0.indexN (k := 5) rfl rfl hlt) rfl <| ?_
      refine v0 (S0.fieldAddr rfl) rfl <| ?_  -- limit
      refine v0 (S0.load (v := .int .i64 x0) rfl g0) rfl <| ?_
      refine v0 (S0.cmp rfl rfl rfl) rfl <| vE <| ?_  -- cond
      first | refine WP.condP rfl (fun h3 => ?_) (fun h3 => ?_) | refine WP.condN rfl (fun h3 => ?_) (fun h3 => ?_) | refine WP.cond rfl (fun h3 => ?_) (fun h3 => ?_)
      · skip
        skip
        refine WP.drawP [(0, none), (1, none), (2, none), (3, none), (4, none), (5, none), (6, none), (7, none), (8, none), (9, none), (10, none), (11, none), (12, none), (13, none), (14, none), (15, none), (16, none)] mixed (by kernel_rfl) (by kernel_rfl) (by kernel_rfl) (take1 (atS at0) take0) <| w0 rfl rfl rfl (S0.move rfl) rfl <| w0 rfl rfl rfl (S0.move rfl) rfl <| w0 rfl rfl rfl (S0.move rfl) rfl <| ?_  -- op t79 := indexAddr 22 t77 t78
        refine w0 rfl rfl rfl (S0.indexN (k := 5) rfl rfl hlt) rfl <| ?_
        refine w0 rfl rfl rfl (S0.fieldAddr rfl) rfl <| ?_  -- limit
        refine w0 rfl rfl rfl (S0.load (v := .int .i64 x1) rfl g1) rfl <| ?_
        refine w0 rfl rfl rfl (S0.move rfl) rfl <| w0 rfl rfl rfl (S0.move rfl) rfl <| ?_  -- op t84 := indexAddr 22 t82 t83
        refine w0 rfl rfl rfl (S0.indexN (k := 5) rfl rfl hlt) rfl <| ?_
        refine w0 rfl rfl rfl (S0.fieldAddr rfl) rfl <| ?_  -- limit
        refine w0 rfl rfl rfl (S0.load (v := sv x2) rfl g2) rfl <| ?_
        refine w0 rfl rfl rfl (S0.move rfl) rfl <| w0 rfl rfl rfl (S0.move rfl) rfl <| ?_  -- op t89 := indexAddr 22 t87 t88
        refine w0 rfl rfl rfl (S0.indexN (k := 5) rfl rfl hlt) rfl <| ?_
        refine w0 rfl rfl rfl (S0.fieldAddr rfl) rfl <| ?_  -- limit
        refine w0 rfl rfl rfl (S0.load (v := .bool x3) rfl g3) rfl <| ?_
        refine wc rfl rfl rfl rfl (S1.callF rfl (want_spec hU hB.b (by omega) (f := x2) (by omega) x1 x3) (take1 (atS at0) take0)) rfl ?_
        rintro _ _ ⟨u', rfl, hU', rfl⟩
        refine wapp ?_
        refine wE <| WP.region <| v0 (S0.move rfl) rfl <| v0 (S0.ari rfl rfl rfl (wrap_i64 (by omega))) rfl <| v0 (S0.assign rfl) rfl <| vE <| ?_  -- roundend
        exact ⟨(i + 1, A, setR B x2 x1 x3, c, u'), (by first | exact ⟨hlt, hT, hU', hA.mono (Nat.le_succ i), hB.set _ _ _⟩ | (dsimp only; exact ⟨hlt, hT, hU', hA.mono (Nat.le_succ i), hB.set _ _ _⟩)), (show M.length - (i + 1) < M.length - i by omega), ⟨⟨rfl, rfl, rfl, rfl, rfl, trivial⟩, rfl, rfl⟩, ⟨_, (take1 (atS (atS at0)) (take1 at0 (take1 at0 (take1 at0 take0))))⟩⟩
      · skip
        refine WP.region <| v0 (S0.move rfl) rfl <| v0 (S0.move rfl) rfl <| v0 (S0.move rfl) rfl <| ?_  -- op t96 := indexAddr 22 t94 t95
        refine v0 (S0.indexN (k := 5) rfl rfl hlt) rfl <| ?_
        refine v0 (S0.fieldAddr rfl) rfl <| ?_  -- limit
        refine v0 (S0.load (v := .int .i64 x1) rfl g1) rfl <| ?_
        refine vc (S1.callF rfl (tleave_spec hU hB.b (by omega) x1) (take1 (atS (atS at0)) take0)) rfl ?_
        rintro _ _ ⟨u', rfl, hU', rfl⟩
        refine app ?_
        refine vE <| WP.region <| v0 (S0.move rfl) rfl <| v0 (S0.ari rfl rfl rfl (wrap_i64 (by omega))) rfl <| v0 (S0.assign rfl) rfl <| vE <| ?_  -- roundend
        exact ⟨(i + 1, A, leaveK B x1, c, u'), (by first | exact ⟨hlt, hT, hU', hA.mono (Nat.le_succ i), hB.leave _⟩ | (dsimp only; exact ⟨hlt, hT, hU', hA.mono (Nat.le_succ i), hB.leave _⟩)), (show M.length - (i + 1) < M.length - i by omega), ⟨⟨rfl, rfl, rfl, rfl, rfl, trivial⟩, rfl, rfl⟩, ⟨_, (take1 (atS at0) (take1 (atS at0) (take1 at0 (take1 at0 take0))))⟩⟩
  · skip
    have hia := idsK_le hA.b s
    refine WP.exit <| WP.seq <| WP.region <| v0 (S0.move rfl) rfl <| v0 (S0.move rfl) rfl <| ?_  -- op t102 := call F18{(*rivulet/table.Table).Devices}(t100, t101)
    refine vc (S1.callF rfl (devices_spec hT hA.b (by omega) hsl) (take1 at0 take0)) rfl ?_
    rintro dv _ ⟨dr, sd, rfl⟩
    refine app ?_
    refine v0 (S0.move rfl) rfl <| v0 (S0.move rfl) rfl <| ?_  -- op t105 := call F18{(*rivulet/table.Table).Devices}(t103, t104)
    refine vc (S1.callF rfl (devices_spec hU hA.b (by omega) hsl) (take1 (atS (atS (atS at0))) take0)) rfl ?_
    rintro ev _ ⟨er, se, rfl⟩
    refine app ?_
    -- (nothing to walk: op t106 := call F17{rivulet/rivuletref04.Ints}(t102, t105))
    refine vcd (S1.callF rfl (ints_spec sd se (by omega)) (take1 (atS (atS at0)) (take1 at0 take0))) rfl ?_
    refine v0 (S0.move rfl) rfl <| ?_  -- guard t107 (wants True) at t108 := move t6 [if #7=True]
    refine csTh (t := 107) rfl ((by simp)) ?_
    refine gT rfl <| v0 (S0.move rfl) rfl <| gT rfl <| v0 (S0.move rfl) rfl <| ?_  -- op t110 := call F20{(*rivulet/table.Table).Children}(t108, t109) [if #7=True]
    refine gT rfl <| vc (S1.callF rfl (children_spec hT (AskB.nil 0) (by omega) hsl) (take1 (atS (atS (atS at0))) take0)) rfl ?_
    rintro cv _ ⟨cr, sc, rfl⟩
    refine app ?_
    rw [show idsK [] s = [] from rfl] at sc
    obtain ⟨ca, cc, rfl, -, -⟩ := sc.intsE
    refine gT rfl <| v0 (S0.lenSl rfl) rfl <| gT rfl <| v0 (S0.cmp rfl rfl rfl) rfl <| v0 (S0.pickT rfl rfl) rfl <| v0 (S0.move rfl) rfl <| ?_  -- guard t114 (wants True) at t115 := call F21{rivulet/rivuletlaw18.fixed}() [if #14=True]
    refine csTh (t := 114) rfl (rfl) ?_
    -- (nothing to walk: op t115 := call F21{rivulet/rivuletlaw18.fixed}() [if #14=True])
    refine gT rfl <| vcd (S1.callF rfl (fixed_spec) take0) rfl ?_
    refine v0 (S0.pickT rfl rfl) rfl <| v0 (S0.assign rfl) rfl <| vE <| WP.ret <| ?_  -- ret
    refine Leaves.drop (take1 (atS (atS (atS (atS (atS (atS at0)))))) take0) ?_
    refine r1 rfl rfl ?_
    exact ⟨rfl, rfl⟩
end Go.Proofs.YtipljeomgdomnaaGreatDoor
/- L7 -/
namespace Go.Proofs.YtipljeomgdomnaaGreatDoor
open Go

set_option maxRecDepth 100000 in
theorem tableLeaves_walk (W : World) (lv : Value) (hl : ArgF W opK lv) (n : Int) (s0 : Str) (hs0 : s0.length ≤ maxLen) : FN Tryz.prog 7 [lv, .int .i64 n, sv s0] [whole W] (fun v h => v = .bool true ∧ h = [whole W]) := by
  obtain ⟨l0, hrl⟩ := argOps hl
  have hll := cutOs_len l0
  have hlx := cutOs_mem (l := l0)
  refine FN.intro 120 [(0, lv), (1, .int .i64 n), (2, sv s0)] Tryz.func7 rfl (enters Tryz.func7 (by kernel_rfl) rfl) Tryz.ntmps7 rfl rfl ?_
  refine WP.seq <| WP.region <| v0 (S0.assign rfl) rfl <| vE <| WP.seq <| WP.region <| v0 (S0.move rfl) rfl <| ?_  -- op t15 := call F9{rivulet/rivuletlaw18.Cut}(t14)
  refine vc (S1.callF rfl (cut_spec hrl) (take1 at0 take0)) rfl ?_
  rintro _ _ ⟨row, hs, rfl⟩
  refine app ?_
  generalize cutOs l0 = M at hll hlx hs
  obtain ⟨ma, mcap, rfl, hmcap, hrow⟩ := IsSl.elems (k := 4) enO_len hs
  -- (nothing to walk: op t16 := call F10{rivulet/table.New}())
  refine vc (S1.callF rfl (tnew_spec) take0) rfl ?_
  rintro _ _ ⟨tb, c0, rfl, h0, rfl⟩
  refine app ?_
  refine v0 (S0.assign rfl) rfl <| v0 (S0.assign rfl) rfl <| vE <| WP.seq <| WP.region <| v0 (S0.move rfl) rfl <| v0 (S0.move rfl) rfl <| v0 (S0.lenSt rfl) rfl <| v0 (S0.min2 rfl rfl rfl) rfl <| ?_  -- op t21 := slice 9 t17 none t20 none
  rw [min120]
  refine v0 (S0.sliceSt (i := 0) (j := min s0.length 120) rfl rfl rfl ⟨Nat.zero_le _, by omega⟩) rfl <| ?_
  rw [take_min120]
  have hsl : (s0.take 120).length ≤ 1000 := by rw [List.length_take]; omega
  generalize s0.take 120 = s at hsl
  refine v0 (S0.assign rfl) rfl <| vE <| WP.seq <| WP.seq <| WP.region <| v0 (S0.move rfl) rfl <| v0 (S0.nilP rfl rfl rfl rfl) rfl <| vE <| ?_  -- cond
  refine WP.condFh rfl (rfl) ?_
  refine WP.skip <| WP.seq <| WP.seq <| WP.region <| v0 (S0.assign rfl) rfl <| vE <| WP.block <| ?_  -- Code.loop
  refine WP.loop (fun st : Nat × Asks × Asks × List Blk => st.1 ≤ M.length ∧ IsTb tb st.2.1 st.2.2.1 st.2.2.2 ∧ Fine st.2.1 st.1 ∧ Fine st.2.2.1 st.1) (fun st : Nat × Asks × Asks × List Blk => [(1, .int .i64 n), (2, sv s), (7, .slice ma M.length mcap), (8, .pointer (some ⟨tb, 0, none⟩)), (9, .int .i64 (st.1 : Int))]) (fun st : Nat × Asks × Asks × List Blk => [st.2.2.2, row, whole W]) (fun st : Nat × Asks × Asks × List Blk => M.length - st.1) ((0, [], [], c0)) (⟨Nat.zero_le _, h0, Fine.nil 0, Fine.nil 0⟩) ⟨rfl, rfl, rfl, rfl, rfl, trivial⟩ ⟨_, (take1 at0 (take1 at0 (take1 at0 take0)))⟩ (fun st hinv => ?_) 
  obtain ⟨i, A, B, c⟩ := st
  obtain ⟨hi, hT, hA, hB⟩ := hinv
  dsimp only at hi hT hA hB ⊢
  refine WP.seq <| WP.seq <| WP.region <| v0 (S0.move rfl) rfl <| v0 (S0.move rfl) rfl <| v0 (S0.lenSl rfl) rfl <| v0 (S0.cmp rfl rfl rfl) rfl <| vE <| ?_  -- cond
  first | refine WP.condP rfl (fun h1 => ?_) (fun h1 => ?_) | refine WP.condN rfl (fun h1 => ?_) (fun h1 => ?_) | refine WP.cond rfl (fun h1 => ?_) (fun h1 => ?_)
  · skip
    have hlt : i < M.length := by omega
    rcases hrow with ⟨e, -⟩ | ⟨b1, sp1, rfl, rfl, hsp1⟩
    · rw [e] at hlt; simp at hlt
    have hx : M[i]? = some M[i] := by simp [hlt]
    have hxl := hlx _ (List.getElem_mem hlt)
    generalize M[i] = x at hx hxl
    obtain ⟨x0, x1, x2, x3, x4⟩ := x
    dsimp only at hxl
    have g0 := flat_get enO_len sp1 M i 0 _ hx (by decide)
    have g1 := flat_get enO_len sp1 M i 1 _ hx (by decide)
    have g2 := flat_get enO_len sp1 M i 2 _ hx (by decide)
    have g3 := flat_get enO_len sp1 M i 3 _ hx (by decide)
    refine WP.skip <| WP.seq <| WP.block <| WP.seq <| WP.region <| v0 (S0.move rfl) rfl <| v0 (S0.move rfl) rfl <| ?_  -- op t32 := indexAddr 22 t30 t31
    refine v0 (S0.indexN (k := 5) rfl rfl hlt) rfl <| ?_
    refine v0 (S0.fieldAddr rfl) rfl <| ?_  -- limit
    refine v0 (S0.load (v := .int .i64 x0) rfl g0) rfl <| ?_
    refine v0 (S0.cmp rfl rfl rfl) rfl <| vE <| ?_  -- cond
    first | refine WP.condP rfl (fun h2 => ?_) (fun h2 => ?_) | refine WP.condN rfl (fun h2 => ?_) (fun h2 => ?_) | refine WP.cond rfl (fun h2 => ?_) (fun h2 => ?_)
    · skip
      skip
      refine WP.drawP [(0, none), (1, none), (2, none), (3, none), (4, none), (5, none), (6, none), (7, none), (8, none), (9, none), (10, none), (11, none), (12, none), (13, none), (14, none), (15, none), (16, none)] mixed (by kernel_rfl) (by kernel_rfl) (by kernel_rfl) (take1 (atS at0) take0) <| w0 rfl rfl rfl (S0.move rfl) rfl <| w0 rfl rfl rfl (S0.move rfl) rfl <| w0 rfl rfl rfl (S0.move rfl) rfl <| ?_  -- op t39 := indexAddr 22 t37 t38
      refine w0 rfl rfl rfl (S0.indexN (k := 5) rfl rfl hlt) rfl <| ?_
      refine w0 rfl rfl rfl (S0.fieldAddr rfl) rfl <| ?_  -- limit
      refine w0 rfl rfl rfl (S0.load (v := .int .i64 x1) rfl g1) rfl <| ?_
      refine w0 rfl rfl rfl (S0.move rfl) rfl <| w0 rfl rfl rfl (S0.move rfl) rfl <| ?_  -- op t44 := indexAddr 22 t42 t43
      refine w0 rfl rfl rfl (S0.indexN (k := 5) rfl rfl hlt) rfl <| ?_
      refine w0 rfl rfl rfl (S0.fieldAddr rfl) rfl <| ?_  -- limit
      refine w0 rfl rfl rfl (S0.load (v := sv x2) rfl g2) rfl <| ?_
      refine w0 rfl rfl rfl (S0.move rfl) rfl <| w0 rfl rfl rfl (S0.move rfl) rfl <| ?_  -- op t49 := indexAddr 22 t47 t48
      refine w0 rfl rfl rfl (S0.indexN (k := 5) rfl rfl hlt) rfl <| ?_
      refine w0 rfl rfl rfl (S0.fieldAddr rfl) rfl <| ?_  -- limit
      refine w0 rfl rfl rfl (S0.load (v := .bool x3) rfl g3) rfl <| ?_
      refine wc rfl rfl rfl rfl (S1.callF rfl (own_spec hT hA.b (by omega) (f := x2) (by omega) x1 x3) (take1 at0 take0)) rfl ?_
      rintro _ _ ⟨c', rfl, hT', rfl⟩
      refine wapp ?_
      refine wE <| WP.region <| v0 (S0.move rfl) rfl <| v0 (S0.ari rfl rfl rfl (wrap_i64 (by omega))) rfl <| v0 (S0.assign rfl) rfl <| vE <| ?_  -- roundend
      exact ⟨(i + 1, setR A x2 x1 x3, B, c'), (by first | exact ⟨hlt, hT', hA.set _ _ _, hB.mono (Nat.le_succ i)⟩ | (dsimp only; exact ⟨hlt, hT', hA.set _ _ _, hB.mono (Nat.le_succ i)⟩)), (show M.length - (i + 1) < M.length - i by omega), ⟨⟨rfl, rfl, rfl, rfl, rfl, trivial⟩, rfl, rfl⟩, ⟨_, (take1 (atS at0) (take1 at0 (take1 at0 take0)))⟩⟩
    · skip
      skip
      refine WP.drawP [(0, none), (1, none), (2, none), (3, none), (4, none), (5, none), (6, none), (7, none), (8, none), (9, none), (10, none), (11, none), (12, none), (13, none), (14, none), (15, none), (16, none)] mixed (by kernel_rfl) (by kernel_rfl) (by kernel_rfl) (take1 (atS at0) take0) <| w0 rfl rfl rfl (S0.move rfl) rfl <| w0 rfl rfl rfl (S0.move rfl) rfl <| w0 rfl rfl rfl (S0.move rfl) rfl <| ?_  -- op t56 := indexAddr 22 t54 t55
      refine w0 rfl rfl rfl (S0.indexN (k := 5) rfl rfl hlt) rfl <| ?_
      refine w0 rfl rfl rfl (S0.fieldAddr rfl) rfl <| ?_  -- limit
      refine w0 rfl rfl rfl (S0.load (v := .int .i64 x1) rfl g1) rfl <| ?_
      refine w0 rfl rfl rfl (S0.move rfl) rfl <| w0 rfl rfl rfl (S0.move rfl) rfl <| ?_  -- op t61 := indexAddr 22 t59 t60
      refine w0 rfl rfl rfl (S0.indexN (k := 5) rfl rfl hlt) rfl <| ?_
      refine w0 rfl rfl rfl (S0.fieldAddr rfl) rfl <| ?_  -- limit
      refine w0 rfl rfl rfl (S0.load (v := sv x2) rfl g2) rfl <| ?_
      refine w0 rfl rfl rfl (S0.move rfl) rfl <| w0 rfl rfl rfl (S0.move rfl) rfl <| ?_  -- op t66 := indexAddr 22 t64 t65
      refine w0 rfl rfl rfl (S0.indexN (k := 5) rfl rfl hlt) rfl <| ?_
      refine w0 rfl rfl rfl (S0.fieldAddr rfl) rfl <| ?_  -- limit
      refine w0 rfl rfl rfl (S0.load (v := .bool x3) rfl g3) rfl <| ?_
      refine wc rfl rfl rfl rfl (S1.callF rfl (want_spec hT hB.b (by omega) (f := x2) (by omega) x1 x3) (take1 at0 take0)) rfl ?_
      rintro _ _ ⟨c', rfl, hT', rfl⟩
      refine wapp ?_
      refine wE <| WP.region <| v0 (S0.move rfl) rfl <| v0 (S0.ari rfl rfl rfl (wrap_i64 (by omega))) rfl <| v0 (S0.assign rfl) rfl <| vE <| ?_  -- roundend
      exact ⟨(i + 1, A, setR B x2 x1 x3, c'), (by first | exact ⟨hlt, hT', hA.mono (Nat.le_succ i), hB.set _ _ _⟩ | (dsimp only; exact ⟨hlt, hT', hA.mono (Nat.le_succ i), hB.set _ _ _⟩)), (show M.length - (i + 1) < M.length - i by omega), ⟨⟨rfl, rfl, rfl, rfl, rfl, trivial⟩, rfl, rfl⟩, ⟨_, (take1 (atS at0) (take1 at0 (take1 at0 take0)))⟩⟩
  · skip
    have hA := hA.mono (show i ≤ 50 by omega)
    have hB := hB.mono (show i ≤ 50 by omega)
    have hia := idsK_le hA.b s
    have hib := idsK_le hB.b s
    refine WP.exit <| WP.seq <| WP.region <| v0 (S0.move rfl) rfl <| v0 (S0.move rfl) rfl <| ?_  -- op t72 := call F18{(*rivulet/table.Table).Devices}(t70, t71)
    refine vc (S1.callF rfl (devices_spec hT hA.b (by decide) hsl) (take1 at0 take0)) rfl ?_
    rintro dv _ ⟨dr, sd, rfl⟩
    refine app ?_
    refine v0 (S0.move rfl) rfl <| v0 (S0.move rfl) rfl <| ?_  -- op t75 := call F20{(*rivulet/table.Table).Children}(t73, t74)
    refine vc (S1.callF rfl (children_spec hT hB.b (by decide) hsl) (take1 (atS at0) take0)) rfl ?_
    rintro cv _ ⟨cr, sc, rfl⟩
    refine app ?_
    obtain ⟨ca, cc, rfl, -, hcr⟩ := sc.intsE
    refine v0 (S0.assign rfl) rfl <| v0 (S0.assign rfl) rfl <| vE <| WP.seq <| WP.region <| vnv (S1.buildSlice rfl (qs := []) rfl rfl) rfl fun b76 => v0 (S0.assign rfl) rfl <| vE <| WP.seq <| WP.seq <| WP.region <| v0 (S0.assign rfl) rfl <| vE <| WP.block <| ?_  -- Code.loop
    refine WP.loop (fun st : Nat × Value × List Blk => st.1 ≤ (idsK B s).length ∧ IsSl 3 1 st.2.1 (ints (((idsK B s).take st.1).filter fun x => !decide (x = n))) st.2.2) (fun st : Nat × Value × List Blk => [(1, .int .i64 n), (2, sv s), (8, .pointer (some ⟨tb, 0, none⟩)), (10, dv), (11, .slice ca (idsK B s).length cc), (12, st.2.1), (13, .int .i64 (st.1 : Int))]) (fun st : Nat × Value × List Blk => [st.2.2, cr, c, dr, whole W]) (fun st : Nat × Value × List Blk => (idsK B s).length - st.1) ((0, _, [(b76, .cells ⟨[]⟩ 3 (0, 0))])) (⟨Nat.zero_le _, IsSl.row (n := 0) (c := 0) (l := []) (sp := []) rfl rfl (Nat.le_refl _)⟩) ⟨rfl, rfl, rfl, rfl, rfl, rfl, rfl, trivial⟩ ⟨_, (take1 at0 (take1 at0 (take1 at0 (take1 at0 (take1 (atS at0) take0)))))⟩ (fun st hinv => ?_) 
    obtain ⟨k, ov, orow⟩ := st
    obtain ⟨hk, hos⟩ := hinv
    dsimp only at hk hos ⊢
    have hil := List.length_filter_le (fun x => !decide (x = n)) ((idsK B s).take k)
    refine WP.seq <| WP.seq <| WP.region <| v0 (S0.move rfl) rfl <| v0 (S0.move rfl) rfl <| v0 (S0.lenSl rfl) rfl <| v0 (S0.cmp rfl rfl rfl) rfl <| vE <| ?_  -- cond
    first | refine WP.condP rfl (fun h2 => ?_) (fun h2 => ?_) | refine WP.condN rfl (fun h2 => ?_) (fun h2 => ?_) | refine WP.cond rfl (fun h2 => ?_) (fun h2 => ?_)
    · skip
      have hlk : k < (idsK B s).length := by omega
      rcases hcr with ⟨e, -⟩ | ⟨b2, sp2, rfl, rfl, hsp2⟩
      · rw [e] at hlk; simp at hlk
      have hy : (idsK B s)[k]? = some (idsK B s)[k] := by simp [hlk]
      generalize (idsK B s)[k] = y at hy
      have hst : ((idsK B s).take (k + 1)).filter (fun x => !decide (x = n)) = ((idsK B s).take k).filter (fun x => !decide (x = n)) ++ (if y = n then [] else [y]) := by
        rw [take_one hy, List.filter_append]
        by_cases e : y = n <;> simp [e]
      refine WP.skip <| WP.seq <| WP.block <| WP.seq <| WP.region <| v0 (S0.move rfl) rfl <| v0 (S0.move rfl) rfl <| ?_  -- op t85 := indexAddr 40 t83 t84
      refine v0 (S0.index1 rfl rfl hlk) rfl <| ?_
      refine v0 (S0.load rfl (ints_get hy)) rfl <| ?_
      refine v0 (S0.move rfl) rfl <| v0 (S0.cmp rfl rfl rfl) rfl <| vE <| ?_  -- cond
      first | refine WP.condP rfl (fun h3 => ?_) (fun h3 => ?_) | refine WP.condN rfl (fun h3 => ?_) (fun h3 => ?_) | refine WP.cond rfl (fun h3 => ?_) (fun h3 => ?_)
      · skip
        rw [if_neg h3] at hst
        refine WP.region <| v0 (S0.move rfl) rfl <| v0 (S0.move rfl) rfl <| v0 (S0.move rfl) rfl <| ?_  -- op t92 := indexAddr 40 t90 t91
        refine v0 (S0.index1 rfl rfl hlk) rfl <| ?_
        refine v0 (S0.load rfl (ints_get hy)) rfl <| ?_
        refine vnv (S1.buildSlice rfl (qs := [(0, _)]) rfl rfl) rfl fun b94 => ?_  -- op t95 := append(t89, t94) :[40, 40]
        refine ve (S1.appendL rfl hos rfl rfl (atS at0) rfl rfl (by simp [ints] at hil ⊢; omega)) rfl ?_
        rintro v2 _ ⟨row2, hs2, rfl⟩
        refine v0 (S0.assign rfl) rfl <| vE <| WP.region <| v0 (S0.move rfl) rfl <| v0 (S0.ari rfl rfl rfl (wrap_i64 (by omega))) rfl <| v0 (S0.assign rfl) rfl <| vE <| ?_  -- roundend
        exact ⟨(k + 1, v2, row2), (by first | exact ⟨hlk, by rw [hst]; simpa [ints] using hs2⟩ | (dsimp only; exact ⟨hlk, by rw [hst]; simpa [ints] using hs2⟩)), (show (idsK B s).length - (k + 1) < (idsK B s).length - k by omega), ⟨⟨rfl, rfl, rfl, rfl, rfl, rfl, rfl, trivial⟩, rfl, rfl⟩, ⟨_, (take1 at0 (take1 (atS at0) (take1 (atS at0) (take1 (atS at0) (take1 (atS at0) take0)))))⟩⟩
      · skip
        rw [if_pos (by simpa using h3)] at hst
        refine WP.skip <| WP.region <| v0 (S0.move rfl) rfl <| v0 (S0.ari rfl rfl rfl (wrap_i64 (by omega))) rfl <| v0 (S0.assign rfl) rfl <| vE <| ?_  -- roundend
        exact ⟨(k + 1, ov, orow), (by first | exact ⟨hlk, by rw [hst]; simpa using hos⟩ | (dsimp only; exact ⟨hlk, by rw [hst]; simpa using hos⟩)), (show (idsK B s).length - (k + 1) < (idsK B s).length - k by omega), ⟨⟨rfl, rfl, rfl, rfl, rfl, rfl, rfl, trivial⟩, rfl, rfl⟩, ⟨_, (take1 at0 (take1 at0 (take1 at0 (take1 at0 (take1 at0 take0)))))⟩⟩
    · skip
      have ek : k = (idsK B s).length := by omega
      rw [ek, List.take_length, ← ids_leave] at hos
      have hB2 := hB.leave n
      have hib2 := idsK_le hB2.b s
      refine WP.exit <| WP.seq <| WP.region <| v0 (S0.move rfl) rfl <| v0 (S0.move rfl) rfl <| ?_  -- op t98 := call F24{(*rivulet/table.Table).Leave}(t96, t97)
      refine vc (S1.callF rfl (tleave_spec hT hB.b (by decide) n) (take1 (atS (atS at0)) take0)) rfl ?_
      rintro _ _ ⟨c2, rfl, hT2, rfl⟩
      refine app ?_
      refine vE <| WP.seq <| WP.region <| v0 (S0.move rfl) rfl <| v0 (S0.move rfl) rfl <| ?_  -- op t101 := call F18{(*rivulet/table.Table).Devices}(t99, t100)
      refine vc (S1.callF rfl (devices_spec hT2 hA.b (by decide) hsl) (take1 at0 take0)) rfl ?_
      rintro ev _ ⟨er, se, rfl⟩
      refine app ?_
      refine v0 (S0.move rfl) rfl <| ?_  -- op t103 := call F17{rivulet/rivuletref04.Ints}(t101, t102)
      refine vcd (S1.callF rfl (ints_spec se sd (by omega)) (take1 at0 (take1 (atS (atS (atS at0))) take0))) rfl ?_
      refine v0 (S0.move rfl) rfl <| ?_  -- guard t104 (wants True) at t105 := move t8 [if #5=True]
      refine csTh (t := 104) rfl ((by simp)) ?_
      refine gT rfl <| v0 (S0.move rfl) rfl <| gT rfl <| v0 (S0.move rfl) rfl <| ?_  -- op t107 := call F20{(*rivulet/table.Table).Children}(t105, t106) [if #5=True]
      refine gT rfl <| vc (S1.callF rfl (children_spec hT2 hB2.b (by decide) hsl) (take1 (atS (atS at0)) take0)) rfl ?_
      rintro fv _ ⟨fr, sf, rfl⟩
      refine app ?_
      refine gT rfl <| v0 (S0.move rfl) rfl <| ?_  -- op t109 := call F17{rivulet/rivuletref04.Ints}(t107, t108) [if #5=True]
      refine gT rfl <| vcd (S1.callF rfl (ints_spec sf hos (by omega)) (take1 at0 (take1 (atS (atS (atS at0))) take0))) rfl ?_
      refine v0 (S0.pickT rfl rfl) rfl <| v0 (S0.move rfl) rfl <| ?_  -- guard t111 (wants True) at t112 := move t8 [if #12=True]
      refine csTh (t := 111) rfl ((by simp)) ?_
      refine gT rfl <| v0 (S0.move rfl) rfl <| gT rfl <| v0 (S0.move rfl) rfl <| ?_  -- op t114 := call F24{(*rivulet/table.Table).Leave}(t112, t113) [if #12=True]
      refine gT rfl <| vc (S1.callF rfl (tleave_spec hT2 hB2.b (by decide) n) (take1 (atS (atS at0)) take0)) rfl ?_
      rintro _ _ ⟨c3, rfl, hT3, rfl⟩
      refine app ?_
      rw [of_leave]
      refine gT rfl <| v0 (S0.cmp rfl rfl rfl) rfl <| v0 (S0.pickT rfl rfl) rfl <| v0 (S0.move rfl) rfl <| ?_  -- guard t117 (wants True) at t118 := call F21{rivulet/rivuletlaw18.fixed}() [if #18=True]
      refine csTh (t := 117) rfl (rfl) ?_
      -- (nothing to walk: op t118 := call F21{rivulet/rivuletlaw18.fixed}() [if #18=True])
      refine gT rfl <| vcd (S1.callF rfl (fixed_spec) take0) rfl ?_
      refine v0 (S0.pickT rfl rfl) rfl <| v0 (S0.assign rfl) rfl <| vE <| WP.ret <| ?_  -- ret
      refine Leaves.drop (take1 (atS (atS (atS (atS (atS (atS at0)))))) take0) ?_
      refine r1 rfl rfl ?_
      exact ⟨rfl, rfl⟩
end Go.Proofs.YtipljeomgdomnaaGreatDoor
/- L8 -/
namespace Go.Proofs.YtipljeomgdomnaaGreatDoor
open Go

theorem set_id {B : Asks} {n : Int} (h : ∀ x ∈ B, x.2.1 ≠ n) (hok : AsksOk B) (h1 : Ones B) (f : Str) {i : Int} (hi : i ≠ n) (on : Bool) : ∀ x ∈ setR B f i on, x.2.1 ≠ n := by
  rw [setR_plain hok h1]
  intro x hx
  repeat' split at hx
  all_goals first | exact h x hx | skip
  · rcases List.mem_append.1 hx with hx | hx
    · exact h x (List.mem_filter.1 hx).1
    · simp at hx; subst hx; exact hi
  · exact h x (List.mem_filter.1 hx).1
theorem has_free {B : Asks} {n : Int} (h : ∀ x ∈ B, x.2.1 ≠ n) (f : Str) : hasK B f n = 0 := has_none fun ⟨x, hx, e⟩ => h x hx e.2
theorem filter_free {B : Asks} {n : Int} (h : ∀ x ∈ B, x.2.1 ≠ n) (f : Str) : (B ++ [(f, n, 1)]).filter (fun x => !isK f n x) = B := by
  rw [List.filter_append, filter_no fun ⟨x, hx, e⟩ => h x hx e.2]
  simp [isK]
/-- asks that none has, once more, and no more -/
theorem twice_ok {B : Asks} {n : Int} {m : Nat} (h : ∀ x ∈ B, x.2.1 ≠ n) (hB : Fine B m) {f : Str} (ho : okA f n = true) :
    setE B f n true = 0 ∧ setE (setR B f n true) f n true = 9 ∧ setR (setR B f n true) f n true = setR B f n true ∧ setE (setR B f n true) f n false = 0 ∧ setR (setR B f n true) f n false = B ∧ setE B f n false = 8 ∧ setR B f n false = B := by
  have hz := has_free h f
  have e1 : setR B f n true = B ++ [(f, n, 1)] := by
    rw [setR_plain hB.ok hB.one, if_pos ho, if_pos rfl, if_neg (by simp [hz]), filter_no (has_zero hB.ok hz)]
  have hF := hB.set f n true
  have hh : hasK (setR B f n true) f n = 1 := by
    have hm : (f, n, (1 : Int)) ∈ setR B f n true := by rw [e1]; simp
    exact has_mem hF.ok hm
  refine ⟨?_, ?_, ?_, ?_, ?_, ?_, ?_⟩
  · rw [setE_plain hB.ok, if_pos ho, if_pos rfl, if_neg (by simp [hz])]
  · rw [setE_plain hF.ok, if_pos ho, if_pos rfl, if_pos (by omega)]
  · rw [setR_plain hF.ok hF.one, if_pos ho, if_pos rfl, if_pos (by omega)]
  · rw [setE_plain hF.ok, if_pos ho, if_neg (by simp), if_pos (by omega)]
  · rw [setR_plain hF.ok hF.one, if_pos ho, if_neg (by simp), e1, filter_free h]
  · rw [setE_plain hB.ok, if_pos ho, if_neg (by simp), if_neg (by simp [hz])]
  · rw [setR_plain hB.ok hB.one, if_pos ho, if_neg (by simp), filter_no (has_zero hB.ok hz)]
theorem twice_bad {B : Asks} {n : Int} {m : Nat} (hB : Fine B m) {f : Str} (ho : okA f n = false) (on : Bool) : setE B f n on = 1 ∧ setR B f n on = B :=
  ⟨by rw [setE_plain hB.ok, if_neg (by simp [ho])], by rw [setR_plain hB.ok hB.one, if_neg (by simp [ho])]⟩
set_option maxRecDepth 100000 in
theorem tableTwice_walk (W : World) (lv : Value) (hl : ArgF W opK lv) (s0 : Str) (hs0 : s0.length ≤ maxLen) (n : Int) : FN Tryz.prog 8 [lv, sv s0, .int .i64 n] [whole W] (fun v h => v = .bool true ∧ h = [whole W]) := by
  obtain ⟨l0, hrl⟩ := argOps hl
  have hll := cutOs_len l0
  have hlx := cutOs_mem (l := l0)
  refine FN.intro 129 [(0, lv), (1, sv s0), (2, .int .i64 n)] Tryz.func8 rfl (enters Tryz.func8 (by kernel_rfl) rfl) Tryz.ntmps8 rfl rfl ?_
  refine WP.seq <| WP.region <| v0 (S0.assign rfl) rfl <| vE <| WP.seq <| WP.region <| v0 (S0.move rfl) rfl <| ?_  -- op t16 := call F9{rivulet/rivuletlaw18.Cut}(t15)
  refine vc (S1.callF rfl (cut_spec hrl) (take1 at0 take0)) rfl ?_
  rintro _ _ ⟨row, hs, rfl⟩
  refine app ?_
  generalize cutOs l0 = M at hll hlx hs
  obtain ⟨ma, mcap, rfl, hmcap, hrow⟩ := IsSl.elems (k := 4) enO_len hs
  -- (nothing to walk: op t17 := call F10{rivulet/table.New}())
  refine vc (S1.callF rfl (tnew_spec) take0) rfl ?_
  rintro _ _ ⟨tb, c0, rfl, h0, rfl⟩
  refine app ?_
  refine v0 (S0.assign rfl) rfl <| v0 (S0.assign rfl) rfl <| vE <| WP.seq <| WP.region <| v0 (S0.move rfl) rfl <| v0 (S0.move rfl) rfl <| v0 (S0.lenSt rfl) rfl <| v0 (S0.min2 rfl rfl rfl) rfl <| ?_  -- op t22 := slice 9 t18 none t21 none
  rw [min120]
  refine v0 (S0.sliceSt (i := 0) (j := min s0.length 120) rfl rfl rfl ⟨Nat.zero_le _, by omega⟩) rfl <| ?_
  rw [take_min120]
  have hsl : (s0.take 120).length ≤ 1000 := by rw [List.length_take]; omega
  generalize s0.take 120 = s at hsl
  refine v0 (S0.assign rfl) rfl <| vE <| WP.seq <| WP.seq <| WP.region <| v0 (S0.move rfl) rfl <| v0 (S0.nilP rfl rfl rfl rfl) rfl <| vE <| ?_  -- cond
  refine WP.condFh rfl (rfl) ?_
  refine WP.skip <| WP.seq <| WP.seq <| WP.region <| v0 (S0.assign rfl) rfl <| vE <| WP.block <| ?_  -- Code.loop
  refine WP.loop (fun st : Nat × Asks × List Blk => st.1 ≤ M.length ∧ IsTb tb [] st.2.1 st.2.2 ∧ Fine st.2.1 st.1 ∧ ∀ x ∈ st.2.1, x.2.1 ≠ n) (fun st : Nat × Asks × List Blk => [(1, sv s), (2, .int .i64 n), (7, .slice ma M.length mcap), (8, .pointer (some ⟨tb, 0, none⟩)), (9, .int .i64 (st.1 : Int))]) (fun st : Nat × Asks × List Blk => [st.2.2, row, whole W]) (fun st : Nat × Asks × List Blk => M.length - st.1) ((0, [], c0)) (⟨Nat.zero_le _, h0, Fine.nil 0, by simp⟩) ⟨rfl, rfl, rfl, rfl, rfl, trivial⟩ ⟨_, (take1 at0 (take1 at0 (take1 at0 take0)))⟩ (fun st hinv => ?_) 
  obtain ⟨i, B, c⟩ := st
  obtain ⟨hi, hT, hB, hfr⟩ := hinv
  dsimp only at hi hT hB hfr ⊢
  refine WP.seq <| WP.seq <| WP.region <| v0 (S0.move rfl) rfl <| v0 (S0.move rfl) rfl <| v0 (S0.lenSl rfl) rfl <| v0 (S0.cmp rfl rfl rfl) rfl <| vE <| ?_  -- cond
  first | refine WP.condP rfl (fun h1 => ?_) (fun h1 => ?_) | refine WP.condN rfl (fun h1 => ?_) (fun h1 => ?_) | refine WP.cond rfl (fun h1 => ?_) (fun h1 => ?_)
  · skip
    have hlt : i < M.length := by omega
    rcases hrow with ⟨e, -⟩ | ⟨b1, sp1, rfl, rfl, hsp1⟩
    · rw [e] at hlt; simp at hlt
    have hx : M[i]? = some M[i] := by simp [hlt]
    have hxl := hlx _ (List.getElem_mem hlt)
    generalize M[i] = x at hx hxl
    obtain ⟨x0, x1, x2, x3, x4⟩ := x
    dsimp only at hxl
    have g0 := flat_get enO_len sp1 M i 0 _ hx (by decide)
    have g1 := flat_get enO_len sp1 M i 1 _ hx (by decide)
    have g2 := flat_get enO_len sp1 M i 2 _ hx (by decide)
    have g3 := flat_get enO_len sp1 M i 3 _ hx (by decide)
    refine WP.skip <| WP.seq <| WP.block <| WP.seq <| WP.region <| v0 (S0.move rfl) rfl <| v0 (S0.move rfl) rfl <| ?_  -- op t33 := indexAddr 22 t31 t32
    refine v0 (S0.indexN (k := 5) rfl rfl hlt) rfl <| ?_
    refine v0 (S0.fieldAddr rfl) rfl <| ?_  -- limit
    refine v0 (S0.load (v := .int .i64 x1) rfl g1) rfl <| ?_
    refine v0 (S0.move rfl) rfl <| v0 (S0.cmp rfl rfl rfl) rfl <| vE <| ?_  -- cond
    first | refine WP.condP rfl (fun h2 => ?_) (fun h2 => ?_) | refine WP.condN rfl (fun h2 => ?_) (fun h2 => ?_) | refine WP.cond rfl (fun h2 => ?_) (fun h2 => ?_)
    · skip
      skip
      refine WP.drawP [(0, none), (1, none), (2, none), (3, none), (4, none), (5, none), (6, none), (7, none), (8, none), (9, none), (10, none), (11, none), (12, none), (13, none), (14, none), (15, none), (16, none)] mixed (by kernel_rfl) (by kernel_rfl) (by kernel_rfl) (take1 (atS at0) take0) <| w0 rfl rfl rfl (S0.move rfl) rfl <| w0 rfl rfl rfl (S0.move rfl) rfl <| w0 rfl rfl rfl (S0.move rfl) rfl <| ?_  -- op t41 := indexAddr 22 t39 t40
      refine w0 rfl rfl rfl (S0.indexN (k := 5) rfl rfl hlt) rfl <| ?_
      refine w0 rfl rfl rfl (S0.fieldAddr rfl) rfl <| ?_  -- limit
      refine w0 rfl rfl rfl (S0.load (v := .int .i64 x1) rfl g1) rfl <| ?_
      refine w0 rfl rfl rfl (S0.move rfl) rfl <| w0 rfl rfl rfl (S0.move rfl) rfl <| ?_  -- op t46 := indexAddr 22 t44 t45
      refine w0 rfl rfl rfl (S0.indexN (k := 5) rfl rfl hlt) rfl <| ?_
      refine w0 rfl rfl rfl (S0.fieldAddr rfl) rfl <| ?_  -- limit
      refine w0 rfl rfl rfl (S0.load (v := sv x2) rfl g2) rfl <| ?_
      refine w0 rfl rfl rfl (S0.move rfl) rfl <| w0 rfl rfl rfl (S0.move rfl) rfl <| ?_  -- op t51 := indexAddr 22 t49 t50
      refine w0 rfl rfl rfl (S0.indexN (k := 5) rfl rfl hlt) rfl <| ?_
      refine w0 rfl rfl rfl (S0.fieldAddr rfl) rfl <| ?_  -- limit
      refine w0 rfl rfl rfl (S0.load (v := .bool x3) rfl g3) rfl <| ?_
      refine wc rfl rfl rfl rfl (S1.callF rfl (want_spec hT hB.b (by omega) (f := x2) (by omega) x1 x3) (take1 at0 take0)) rfl ?_
      rintro _ _ ⟨c', rfl, hT', rfl⟩
      refine wapp ?_
      refine wE <| WP.region <| v0 (S0.move rfl) rfl <| v0 (S0.ari rfl rfl rfl (wrap_i64 (by omega))) rfl <| v0 (S0.assign rfl) rfl <| vE <| ?_  -- roundend
      exact ⟨(i + 1, setR B x2 x1 x3, c'), (by first | exact ⟨hlt, hT', hB.set _ _ _, set_id hfr hB.ok hB.one x2 h2 x3⟩ | (dsimp only; exact ⟨hlt, hT', hB.set _ _ _, set_id hfr hB.ok hB.one x2 h2 x3⟩)), (show M.length - (i + 1) < M.length - i by omega), ⟨⟨rfl, rfl, rfl, rfl, rfl, trivial⟩, rfl, rfl⟩, ⟨_, (take1 (atS at0) (take1 at0 (take1 at0 take0)))⟩⟩
    · skip
      refine WP.skip <| WP.region <| v0 (S0.move rfl) rfl <| v0 (S0.ari rfl rfl rfl (wrap_i64 (by omega))) rfl <| v0 (S0.assign rfl) rfl <| vE <| ?_  -- roundend
      exact ⟨(i + 1, B, c), (by first | exact ⟨hlt, hT, hB.mono (Nat.le_succ i), hfr⟩ | (dsimp only; exact ⟨hlt, hT, hB.mono (Nat.le_succ i), hfr⟩)), (show M.length - (i + 1) < M.length - i by omega), ⟨⟨rfl, rfl, rfl, rfl, rfl, trivial⟩, rfl, rfl⟩, ⟨_, (take1 at0 (take1 at0 (take1 at0 take0)))⟩⟩
  · skip
    have hB := hB.mono (show i ≤ 50 by omega)
    have hul := up_le (Fine.nil 50).b hB.b
    refine WP.exit <| WP.seq <| WP.region <| v0 (S0.move rfl) rfl <| ?_  -- op t56 := call F16{(*rivulet/table.Table).Up}(t55)
    refine vc (S1.callF rfl (up_spec hT (Fine.nil 50) hB (by decide)) (take1 at0 take0)) rfl ?_
    rintro uv _ ⟨ur, su, rfl⟩
    refine app ?_
    skip
    cases ho : okA s n with
    | true =>
      obtain ⟨e1, e2, e3, e4, e5, e6, e7⟩ := twice_ok hfr hB ho
      have hB1 := hB.set s n true
      skip
      refine v0 (S0.assign rfl) rfl <| vE <| WP.seq <| WP.region <| v0 (S0.move rfl) rfl <| v0 (S0.move rfl) rfl <| v0 (S0.move rfl) rfl <| ?_  -- op t60 := call F23{(*rivulet/table.Table).Want}(t57, t58, t59, true)
      refine vc (S1.callF rfl (want_spec hT hB.b (by decide) hsl n true) (take1 (atS at0) take0)) rfl ?_
      rintro _ _ ⟨c1, rfl, hT1, rfl⟩
      refine app ?_
      rw [e1]
      refine v0 (S0.move rfl) rfl <| v0 (S0.move rfl) rfl <| v0 (S0.move rfl) rfl <| ?_  -- op t64 := call F23{(*rivulet/table.Table).Want}(t61, t62, t63, true)
      refine vc (S1.callF rfl (want_spec hT1 hB1.b (by decide) hsl n true) (take1 at0 take0)) rfl ?_
      rintro _ _ ⟨c2, rfl, hT2, rfl⟩
      refine app ?_
      rw [e2]
      rw [e3] at hT2
      refine v0 (S0.move rfl) rfl <| v0 (S0.move rfl) rfl <| v0 (S0.move rfl) rfl <| ?_  -- op t68 := call F23{(*rivulet/table.Table).Want}(t65, t66, t67, false)
      refine vc (S1.callF rfl (want_spec hT2 hB1.b (by decide) hsl n false) (take1 at0 take0)) rfl ?_
      rintro _ _ ⟨c3, rfl, hT3, rfl⟩
      refine app ?_
      rw [e4]
      rw [e5] at hT3
      refine v0 (S0.move rfl) rfl <| v0 (S0.move rfl) rfl <| v0 (S0.move rfl) rfl <| ?_  -- op t72 := call F23{(*rivulet/table.Table).Want}(t69, t70, t71, false)
      refine vc (S1.callF rfl (want_spec hT3 hB.b (by decide) hsl n false) (take1 at0 take0)) rfl ?_
      rintro _ _ ⟨c4, rfl, hT4, rfl⟩
      refine app ?_
      rw [e6]
      rw [e7] at hT4
      refine v0 (S0.assign rfl) rfl <| v0 (S0.assign rfl) rfl <| v0 (S0.assign rfl) rfl <| v0 (S0.assign rfl) rfl <| vE <| WP.seq <| WP.seq <| WP.region <| v0 (S0.move rfl) rfl <| ?_  -- op t74 := call F27{rivulet/rivuletref03.Filter}(t73)
      refine vcd (S1.callF rfl (rfilter_spec (show s.length ≤ 900000 by omega)) take0) rfl ?_
      have hf : filtS s = true := by simp [okA] at ho; exact ho.1
      have hn : 0 ≤ n := by simp [okA] at ho; exact ho.2
      refine v0 (S0.not rfl) rfl <| v0 (S0.move rfl) rfl <| ?_  -- guard t76 (wants False) at t77 := move t2 [if #3=False]
      refine csFh (t := 76) rfl ((by simp [hf])) ?_
      refine gT rfl <| v0 (S0.move rfl) rfl <| gT rfl <| v0 (S0.cmp rfl rfl rfl) rfl <| v0 (S0.pickF rfl rfl) rfl <| vE <| ?_  -- cond
      refine WP.condFh rfl ((decide_eq_false (by omega))) ?_
      refine WP.skip <| WP.seq <| WP.region <| v0 (S0.move rfl) rfl <| v0 (S0.cmp rfl rfl rfl) rfl <| v0 (S0.move rfl) rfl <| ?_  -- guard t108 (wants True) at t109 := move t12 [if #2=True]
      refine csTh (t := 108) rfl (rfl) ?_
      refine gT rfl <| v0 (S0.move rfl) rfl <| gT rfl <| v0 (S0.cmp rfl rfl rfl) rfl <| v0 (S0.pickT rfl rfl) rfl <| v0 (S0.move rfl) rfl <| ?_  -- guard t112 (wants True) at t113 := move t13 [if #6=True]
      refine csTh (t := 112) rfl (rfl) ?_
      refine gT rfl <| v0 (S0.move rfl) rfl <| gT rfl <| v0 (S0.cmp rfl rfl rfl) rfl <| v0 (S0.pickT rfl rfl) rfl <| v0 (S0.move rfl) rfl <| ?_  -- guard t116 (wants True) at t117 := move t14 [if #10=True]
      refine csTh (t := 116) rfl (rfl) ?_
      refine gT rfl <| v0 (S0.move rfl) rfl <| gT rfl <| v0 (S0.cmp rfl rfl rfl) rfl <| v0 (S0.pickT rfl rfl) rfl <| v0 (S0.move rfl) rfl <| ?_  -- guard t120 (wants True) at t121 := move t8 [if #14=True]
      refine csTh (t := 120) rfl (rfl) ?_
      refine gT rfl <| v0 (S0.move rfl) rfl <| ?_  -- op t122 := call F16{(*rivulet/table.Table).Up}(t121) [if #14=True]
      refine gT rfl <| vc (S1.callF rfl (up_spec hT4 (Fine.nil 50) hB (by decide)) (take1 at0 take0)) rfl ?_
      rintro uv2 _ ⟨ur2, su2, rfl⟩
      refine app ?_
      refine gT rfl <| v0 (S0.move rfl) rfl <| ?_  -- op t124 := call F15{rivulet/rivuletref02.Same}(t122, t123) [if #14=True]
      refine gT rfl <| vcd (S1.callF rfl (same_spec su2.rdS su.rdS (by omega)) (take1 at0 (take1 (atS at0) take0))) rfl ?_
      refine v0 (S0.pickT rfl rfl) rfl <| v0 (S0.move rfl) rfl <| ?_  -- guard t126 (wants True) at t127 := call F21{rivulet/rivuletlaw18.fixed}() [if #20=True]
      refine csTh (t := 126) rfl ((by simp)) ?_
      -- (nothing to walk: op t127 := call F21{rivulet/rivuletlaw18.fixed}() [if #20=True])
      refine gT rfl <| vcd (S1.callF rfl (fixed_spec) take0) rfl ?_
      refine v0 (S0.pickT rfl rfl) rfl <| v0 (S0.assign rfl) rfl <| vE <| WP.ret <| ?_  -- ret
      refine Leaves.drop (take1 (atS (atS (atS (atS at0)))) take0) ?_
      refine r1 rfl rfl ?_
      exact ⟨rfl, rfl⟩
    | false =>
      have eb := twice_bad hB ho
      skip
      refine v0 (S0.assign rfl) rfl <| vE <| WP.seq <| WP.region <| v0 (S0.move rfl) rfl <| v0 (S0.move rfl) rfl <| v0 (S0.move rfl) rfl <| ?_  -- op t60 := call F23{(*rivulet/table.Table).Want}(t57, t58, t59, true)
      refine vc (S1.callF rfl (want_spec hT hB.b (by decide) hsl n true) (take1 (atS at0) take0)) rfl ?_
      rintro _ _ ⟨c1, rfl, hT1, rfl⟩
      refine app ?_
      rw [(eb true).1]
      rw [(eb true).2] at hT1
      refine v0 (S0.move rfl) rfl <| v0 (S0.move rfl) rfl <| v0 (S0.move rfl) rfl <| ?_  -- op t64 := call F23{(*rivulet/table.Table).Want}(t61, t62, t63, true)
      refine vc (S1.callF rfl (want_spec hT1 hB.b (by decide) hsl n true) (take1 at0 take0)) rfl ?_
      rintro _ _ ⟨c2, rfl, hT2, rfl⟩
      refine app ?_
      rw [(eb true).1]
      rw [(eb true).2] at hT2
      refine v0 (S0.move rfl) rfl <| v0 (S0.move rfl) rfl <| v0 (S0.move rfl) rfl <| ?_  -- op t68 := call F23{(*rivulet/table.Table).Want}(t65, t66, t67, false)
      refine vc (S1.callF rfl (want_spec hT2 hB.b (by decide) hsl n false) (take1 at0 take0)) rfl ?_
      rintro _ _ ⟨c3, rfl, hT3, rfl⟩
      refine app ?_
      rw [(eb false).1]
      rw [(eb false).2] at hT3
      refine v0 (S0.move rfl) rfl <| v0 (S0.move rfl) rfl <| v0 (S0.move rfl) rfl <| ?_  -- op t72 := call F23{(*rivulet/table.Table).Want}(t69, t70, t71, false)
      refine vc (S1.callF rfl (want_spec hT3 hB.b (by decide) hsl n false) (take1 at0 take0)) rfl ?_
      rintro _ _ ⟨c4, rfl, hT4, rfl⟩
      refine app ?_
      rw [(eb false).1]
      rw [(eb false).2] at hT4
      refine v0 (S0.assign rfl) rfl <| v0 (S0.assign rfl) rfl <| v0 (S0.assign rfl) rfl <| v0 (S0.assign rfl) rfl <| vE <| WP.seq <| WP.seq <| WP.region <| v0 (S0.move rfl) rfl <| ?_  -- op t74 := call F27{rivulet/rivuletref03.Filter}(t73)
      refine vcd (S1.callF rfl (rfilter_spec (show s.length ≤ 900000 by omega)) take0) rfl ?_
      refine v0 (S0.not rfl) rfl <| v0 (S0.move rfl) rfl <| ?_  -- guard t76 (wants False) at t77 := move t2 [if #3=False]
      skip
      cases hf : filtS s with
      | false =>
        skip
        refine csTh (t := 76) rfl ((by simp)) ?_
        refine gF rfl rfl <| gF rfl rfl <| v0 (S0.pickT rfl rfl) rfl <| vE <| WP.condT rfl <| WP.seq <| WP.region <| v0 (S0.move rfl) rfl <| v0 (S0.cmp rfl rfl rfl) rfl <| v0 (S0.move rfl) rfl <| ?_  -- guard t82 (wants True) at t83 := move t12 [if #2=True]
        refine csTh (t := 82) rfl (rfl) ?_
        refine gT rfl <| v0 (S0.move rfl) rfl <| gT rfl <| v0 (S0.move rfl) rfl <| gT rfl <| v0 (S0.cmp rfl rfl rfl) rfl <| v0 (S0.pickT rfl rfl) rfl <| v0 (S0.move rfl) rfl <| ?_  -- guard t87 (wants True) at t88 := move t13 [if #7=True]
        refine csTh (t := 87) rfl (rfl) ?_
        refine gT rfl <| v0 (S0.move rfl) rfl <| gT rfl <| v0 (S0.move rfl) rfl <| gT rfl <| v0 (S0.cmp rfl rfl rfl) rfl <| v0 (S0.pickT rfl rfl) rfl <| v0 (S0.move rfl) rfl <| ?_  -- guard t92 (wants True) at t93 := move t14 [if #12=True]
        refine csTh (t := 92) rfl (rfl) ?_
        refine gT rfl <| v0 (S0.move rfl) rfl <| gT rfl <| v0 (S0.move rfl) rfl <| gT rfl <| v0 (S0.cmp rfl rfl rfl) rfl <| v0 (S0.pickT rfl rfl) rfl <| v0 (S0.move rfl) rfl <| ?_  -- guard t97 (wants True) at t98 := move t8 [if #17=True]
        refine csTh (t := 97) rfl (rfl) ?_
        refine gT rfl <| v0 (S0.move rfl) rfl <| ?_  -- op t99 := call F16{(*rivulet/table.Table).Up}(t98) [if #17=True]
        refine gT rfl <| vc (S1.callF rfl (up_spec hT4 (Fine.nil 50) hB (by decide)) (take1 at0 take0)) rfl ?_
        rintro uv2 _ ⟨ur2, su2, rfl⟩
        refine app ?_
        refine gT rfl <| v0 (S0.move rfl) rfl <| ?_  -- op t101 := call F15{rivulet/rivuletref02.Same}(t99, t100) [if #17=True]
        refine gT rfl <| vcd (S1.callF rfl (same_spec su2.rdS su.rdS (by omega)) (take1 at0 (take1 (atS at0) take0))) rfl ?_
        refine v0 (S0.pickT rfl rfl) rfl <| v0 (S0.move rfl) rfl <| ?_  -- guard t103 (wants True) at t104 := call F21{rivulet/rivuletlaw18.fixed}() [if #23=True]
        refine csTh (t := 103) rfl ((by simp)) ?_
        -- (nothing to walk: op t104 := call F21{rivulet/rivuletlaw18.fixed}() [if #23=True])
        refine gT rfl <| vcd (S1.callF rfl (fixed_spec) take0) rfl ?_
        refine v0 (S0.pickT rfl rfl) rfl <| v0 (S0.assign rfl) rfl <| vE <| WP.ret <| ?_  -- ret
        refine Leaves.drop (take1 (atS (atS (atS (atS at0)))) take0) ?_
        refine r1 rfl rfl ?_
        exact ⟨rfl, rfl⟩
      | true =>
        skip
        have hn : n < 0 := by simp [okA, hf] at ho; omega
        refine csFh (t := 76) rfl ((by simp)) ?_
        refine gT rfl <| v0 (S0.move rfl) rfl <| gT rfl <| v0 (S0.cmp rfl rfl rfl) rfl <| v0 (S0.pickF rfl rfl) rfl <| vE <| ?_  -- cond
        refine WP.condTh rfl ((decide_eq_true hn)) ?_
        refine WP.seq <| WP.region <| v0 (S0.move rfl) rfl <| v0 (S0.cmp rfl rfl rfl) rfl <| v0 (S0.move rfl) rfl <| ?_  -- guard t82 (wants True) at t83 := move t12 [if #2=True]
        refine csTh (t := 82) rfl (rfl) ?_
        refine gT rfl <| v0 (S0.move rfl) rfl <| gT rfl <| v0 (S0.move rfl) rfl <| gT rfl <| v0 (S0.cmp rfl rfl rfl) rfl <| v0 (S0.pickT rfl rfl) rfl <| v0 (S0.move rfl) rfl <| ?_  -- guard t87 (wants True) at t88 := move t13 [if #7=True]
        refine csTh (t := 87) rfl (rfl) ?_
        refine gT rfl <| v0 (S0.move rfl) rfl <| gT rfl <| v0 (S0.move rfl) rfl <| gT rfl <| v0 (S0.cmp rfl rfl rfl) rfl <| v0 (S0.pickT rfl rfl) rfl <| v0 (S0.move rfl) rfl <| ?_  -- guard t92 (wants True) at t93 := move t14 [if #12=True]
        refine csTh (t := 92) rfl (rfl) ?_
        refine gT rfl <| v0 (S0.move rfl) rfl <| gT rfl <| v0 (S0.move rfl) rfl <| gT rfl <| v0 (S0.cmp rfl rfl rfl) rfl <| v0 (S0.pickT rfl rfl) rfl <| v0 (S0.move rfl) rfl <| ?_  -- guard t97 (wants True) at t98 := move t8 [if #17=True]
        refine csTh (t := 97) rfl (rfl) ?_
        refine gT rfl <| v0 (S0.move rfl) rfl <| ?_  -- op t99 := call F16{(*rivulet/table.Table).Up}(t98) [if #17=True]
        refine gT rfl <| vc (S1.callF rfl (up_spec hT4 (Fine.nil 50) hB (by decide)) (take1 at0 take0)) rfl ?_
        rintro uv2 _ ⟨ur2, su2, rfl⟩
        refine app ?_
        refine gT rfl <| v0 (S0.move rfl) rfl <| ?_  -- op t101 := call F15{rivulet/rivuletref02.Same}(t99, t100) [if #17=True]
        refine gT rfl <| vcd (S1.callF rfl (same_spec su2.rdS su.rdS (by omega)) (take1 at0 (take1 (atS at0) take0))) rfl ?_
        refine v0 (S0.pickT rfl rfl) rfl <| v0 (S0.move rfl) rfl <| ?_  -- guard t103 (wants True) at t104 := call F21{rivulet/rivuletlaw18.fixed}() [if #23=True]
        refine csTh (t := 103) rfl ((by simp)) ?_
        -- (nothing to walk: op t104 := call F21{rivulet/rivuletlaw18.fixed}() [if #23=True])
        refine gT rfl <| vcd (S1.callF rfl (fixed_spec) take0) rfl ?_
        refine v0 (S0.pickT rfl rfl) rfl <| v0 (S0.assign rfl) rfl <| vE <| WP.ret <| ?_  -- ret
        refine Leaves.drop (take1 (atS (atS (atS (atS at0)))) take0) ?_
        refine r1 rfl rfl ?_
        exact ⟨rfl, rfl⟩
end Go.Proofs.YtipljeomgdomnaaGreatDoor
/- Door -/
/-
  A world in which Go's two tables of utf8 are laid.
-/
namespace Go.Proofs.YtipljeomgdomnaaGreatDoor
open Go

def u8s (l : List Nat) : Array Value := (l.map fun (n : Nat) => Value.int .u8 n).toArray
def acceptZ : List Nat := [128, 191, 160, 191, 128, 159, 144, 191, 128, 143, 0, 0, 0, 0, 0, 0, 0, 0, 0, 0, 0, 0, 0, 0, 0, 0, 0, 0, 0, 0, 0, 0]
noncomputable def laidWorld (os : Os) : World :=
  let w0 := World.holding Tryz.prog os ⟨#[], #[], []⟩
  { w0 with heap := (w0.heap.modify 1 fun
      | .cells _ t frozen => .cells (u8s acceptZ) t frozen
      | o => o).modify 0 fun
      | .cells _ t frozen => .cells (u8s Go.Pinned.utf8FirstZ) t frozen
      | o => o }
abbrev laidList : List (String × DataW Unit) := [("unicode/utf8.acceptRanges", Rows.laid_unicode_utf8_acceptRanges), ("unicode/utf8.first", Rows.laid_unicode_utf8_first)]
set_option maxRecDepth 100000 in
theorem laidWorld_met (os : Os) (args : Array Value) : laidMetH Tryz.prog laidList ((laidWorld os).forCall (fun _ _ => 0) ⟨#[], args, []⟩).memory :=
  laidMetH_of_parts (laidMet_of_run' 100 (by kernel_rfl) (by kernel_rfl)) (by kernel_rfl)
end Go.Proofs.YtipljeomgdomnaaGreatDoor
