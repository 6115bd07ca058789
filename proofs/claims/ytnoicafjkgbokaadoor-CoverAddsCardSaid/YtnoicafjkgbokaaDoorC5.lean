import Derived.Test.YtnoicafjkgbokaaDoorC4
namespace Go.Proofs.YtnoicafjkgbokaaDoor
open Go

theorem coverSame_walk (W : World) (lv : Value) (hl : ArgF W stK lv) (s : Str) (hs : s.length ≤ maxLen) : FN Tryd.prog 5 [lv, sv s] [whole W] (fun v h => v = .bool true ∧ h = [whole W]) := by
  obtain ⟨l0, hrl⟩ := argSts hl
  have hll := cutS_len l0
  have hlx := cutS_mem (l := l0)
  refine FN.intro 85 [(0, lv), (1, sv s)] Tryd.func5 rfl (enters Tryd.func5 (by kernel_rfl) rfl) Tryd.ntmps5 rfl rfl ?_
  refine WP.seq <| WP.region <| v0 (S0.assign rfl) rfl <| vE <| WP.seq <| WP.region <| v0 (S0.move rfl) rfl <| ?_  -- op t10 := call F10{rivulet/rivuletlaw05.Cut}(t9)
  refine vc (S1.callF rfl (cut_spec hrl) (take1 at0 take0)) rfl ?_
  rintro lv' _ ⟨lrow, hl, rfl⟩
  refine app ?_
  generalize cutS l0 = L at hll hlx hl
  have hle := least_len L
  have hmx : ∀ x ∈ leastS L, x.length ≤ 1000 := fun x h => hlx x (top_sub h).1
  have hee := lets_least L
  have hho : ∀ f ∈ L, filtS f = true → holdsS (leastS L) f = true := fun f h1 h2 => holds_least h1 h2
  have hso := least_sorted L
  have hno : ∀ f ∈ leastS L, ∀ g ∈ leastS L, g ≠ f → coversS g f = false := fun f hf g hg => least_none hf hg
  have hid := least_least L
  refine v0 (S0.assign rfl) rfl <| vE <| WP.seq <| WP.region <| v0 (S0.move rfl) rfl <| v0 (S0.move rfl) rfl <| v0 (S0.lenSt rfl) rfl <| v0 (S0.min2 rfl rfl rfl) rfl <| ?_  -- op t15 := slice 9 t11 none t14 none
  rw [min120]
  refine v0 (S0.sliceSt (i := 0) (j := min s.length 120) rfl rfl rfl ⟨Nat.zero_le _, by omega⟩) rfl <| ?_
  have hs120 : ((s.drop 0).take (min s.length 120 - 0)).length ≤ 1000 := by simp; omega
  generalize (s.drop 0).take (min s.length 120 - 0) = t at hs120
  refine v0 (S0.assign rfl) rfl <| vE <| WP.seq <| WP.region <| v0 (S0.move rfl) rfl <| ?_  -- op t17 := call F12{rivulet/cover.Least}(t16)
  refine vc (S1.callF rfl (least_spec hl.rdS hlx (by omega)) (take1 at0 take0)) rfl ?_
  rintro mv _ ⟨mrow, hm, rfl⟩
  refine app ?_
  generalize leastS L = M at hle hmx hee hho hso hno hid hm
  obtain ⟨la, lc, rfl, -, hlrow⟩ := hl.strsE
  obtain ⟨ma, mc, rfl, -, hmrow⟩ := hm.strsE
  refine v0 (S0.assign rfl) rfl <| vE <| WP.seq <| WP.seq <| WP.region <| v0 (S0.move rfl) rfl <| v0 (S0.move rfl) rfl <| ?_  -- op t20 := call F19{rivulet/cover.Lets}(t18, t19)
  refine vcd (S1.callF rfl (lets_spec hl (by omega) hlx hs120) (take1 (atS at0) take0)) rfl ?_
  refine v0 (S0.move rfl) rfl <| v0 (S0.move rfl) rfl <| ?_  -- op t23 := call F19{rivulet/cover.Lets}(t21, t22)
  refine vcd (S1.callF rfl (lets_spec hm (by omega) hmx hs120) (take1 (atS at0) take0)) rfl ?_
  rw [hee t]
  refine v0 (S0.cmpB rfl rfl rfl) rfl <| v0 (S0.move rfl) rfl <| ?_  -- guard t25 (wants False) at t26 := move t5 [if #7=False]
  refine csFh (t := 25) rfl ((by simp)) ?_
  refine gT rfl <| v0 (S0.move rfl) rfl <| gT rfl <| v0 (S0.lenSl rfl) rfl <| gT rfl <| v0 (S0.move rfl) rfl <| gT rfl <| v0 (S0.lenSl rfl) rfl <| gT rfl <| v0 (S0.cmp rfl rfl rfl) rfl <| v0 (S0.pickF rfl rfl) rfl <| vE <| ?_  -- cond
  refine WP.condFh rfl ((decide_eq_false (by omega))) ?_
  refine WP.skip <| WP.seq <| WP.seq <| WP.region <| v0 (S0.assign rfl) rfl <| vE <| WP.block <| ?_  -- Code.loop
  refine WP.loop (fun i : Nat => i ≤ L.length) (fun i : Nat => [(0, .slice la L.length lc), (1, sv t), (5, .slice ma M.length mc), (6, .int .i64 (i : Int))]) (fun i : Nat => [mrow, lrow, whole W]) (fun i : Nat => L.length - i) (0) ((Nat.zero_le _)) ⟨rfl, rfl, rfl, rfl, trivial⟩ ⟨_, (take1 at0 (take1 at0 (take1 at0 take0)))⟩ (fun i hinv => ?_) 
  refine WP.seq <| WP.seq <| WP.region <| v0 (S0.move rfl) rfl <| v0 (S0.move rfl) rfl <| v0 (S0.lenSl rfl) rfl <| v0 (S0.cmp rfl rfl rfl) rfl <| vE <| ?_  -- cond
  first | refine WP.condP rfl (fun h1 => ?_) (fun h1 => ?_) | refine WP.condN rfl (fun h1 => ?_) (fun h1 => ?_) | refine WP.cond rfl (fun h1 => ?_) (fun h1 => ?_)
  · skip
    have hlt : i < L.length := by omega
    rcases hlrow with ⟨e, -⟩ | ⟨b1, sp1, rfl, rfl, hsp1⟩
    · rw [e] at hlt; simp at hlt
    have hx : L[i]? = some L[i] := by simp [hlt]
    have hxl := hlx _ (List.getElem_mem hlt)
    have hxh := hho _ (List.getElem_mem hlt)
    generalize L[i] = x at hx hxl hxh
    refine WP.skip <| WP.seq <| WP.block <| WP.seq <| WP.region <| v0 (S0.move rfl) rfl <| v0 (S0.move rfl) rfl <| ?_  -- op t40 := indexAddr 22 t38 t39
    refine v0 (S0.index1 rfl rfl hlt) rfl <| ?_
    refine v0 (S0.load rfl (strs_get hx)) rfl <| ?_
    -- (nothing to walk: op t42 := call F23{rivulet/rivuletref03.Filter}(t41))
    refine vcd (S1.callF rfl (rfilter_spec (show x.length ≤ 900000 by omega)) take0) rfl ?_
    refine v0 (S0.move rfl) rfl <| ?_  -- guard t43 (wants True) at t44 := move t5 [if #5=True]
    first | refine csP (t := 43) rfl (fun h2 => ?_) (fun h2 => ?_) | refine csN (t := 43) rfl (fun h2 => ?_) (fun h2 => ?_) | refine cs (t := 43) rfl (fun h2 => ?_) (fun h2 => ?_)
    · skip
      refine gT rfl <| v0 (S0.move rfl) rfl <| gT rfl <| v0 (S0.move rfl) rfl <| gT rfl <| v0 (S0.move rfl) rfl <| ?_  -- op t47 := indexAddr 22 t45 t46 [if #5=True]
      refine gT rfl <| v0 (S0.index1 rfl rfl hlt) rfl <| ?_
      refine gT rfl <| v0 (S0.load rfl (strs_get hx)) rfl <| ?_
      -- (nothing to walk: op t49 := call F21{rivulet/cover.Holds}(t44, t48) [if #5=True])
      refine gT rfl <| vcd (S1.callF rfl (holds_spec hm (by omega) hmx hxl) (take1 at0 take0)) rfl ?_
      rw [hxh h2]
      refine gT rfl <| v0 (S0.not rfl) rfl <| v0 (S0.pickT rfl rfl) rfl <| vE <| ?_  -- cond
      refine WP.condFh rfl (rfl) ?_
      refine WP.skip <| WP.region <| v0 (S0.move rfl) rfl <| v0 (S0.ari rfl rfl rfl (wrap_i64 (by omega))) rfl <| v0 (S0.assign rfl) rfl <| vE <| ?_  -- roundend
      exact ⟨i + 1, (by first | exact hlt | (dsimp only; exact hlt)), (by omega), ⟨⟨rfl, rfl, rfl, rfl, trivial⟩, rfl, rfl⟩, ⟨_, (take1 at0 (take1 at0 (take1 at0 take0)))⟩⟩
    · skip
      refine gF rfl rfl <| gF rfl rfl <| gF rfl rfl <| gF rfl rfl <| gF rfl rfl <| gF rfl rfl <| gF rfl rfl <| v0 (S0.pickF rfl rfl) rfl <| vE <| WP.condF rfl <| WP.skip <| WP.region <| v0 (S0.move rfl) rfl <| v0 (S0.ari rfl rfl rfl (wrap_i64 (by omega))) rfl <| v0 (S0.assign rfl) rfl <| vE <| ?_  -- roundend
      exact ⟨i + 1, (by first | exact hlt | (dsimp only; exact hlt)), (by omega), ⟨⟨rfl, rfl, rfl, rfl, trivial⟩, rfl, rfl⟩, ⟨_, (take1 at0 (take1 at0 (take1 at0 take0)))⟩⟩
  · skip
    refine WP.exit <| WP.seq <| WP.seq <| WP.region <| v0 (S0.assign rfl) rfl <| vE <| WP.block <| ?_  -- Code.loop
    refine WP.loop (fun i : Nat => i ≤ M.length) (fun i : Nat => [(5, .slice ma M.length mc), (7, .int .i64 (i : Int))]) (fun i : Nat => [mrow, lrow, whole W]) (fun i : Nat => M.length - i) (0) ((Nat.zero_le _)) ⟨rfl, rfl, trivial⟩ ⟨_, (take1 at0 (take1 at0 (take1 at0 take0)))⟩ (fun i hinv => ?_) 
    refine WP.seq <| WP.seq <| WP.region <| v0 (S0.move rfl) rfl <| v0 (S0.move rfl) rfl <| v0 (S0.lenSl rfl) rfl <| v0 (S0.cmp rfl rfl rfl) rfl <| vE <| ?_  -- cond
    first | refine WP.condP rfl (fun h2 => ?_) (fun h2 => ?_) | refine WP.condN rfl (fun h2 => ?_) (fun h2 => ?_) | refine WP.cond rfl (fun h2 => ?_) (fun h2 => ?_)
    · skip
      have hlt : i < M.length := by omega
      rcases hmrow with ⟨e, -⟩ | ⟨b2, sp2, rfl, rfl, hsp2⟩
      · rw [e] at hlt; simp at hlt
      have hx : M[i]? = some M[i] := by simp [hlt]
      have hxm : M[i] ∈ M := List.getElem_mem hlt
      generalize M[i] = x at hx hxm
      have hxl := hmx x hxm
      refine WP.skip <| WP.seq <| WP.block <| WP.seq <| WP.region <| v0 (S0.assign rfl) rfl <| vE <| WP.block <| ?_  -- Code.loop
      refine WP.loop (fun k : Nat => k ≤ M.length) (fun k : Nat => [(5, .slice (some ⟨b2, 0, none⟩) M.length mc), (7, .int .i64 (i : Int)), (8, .int .i64 (k : Int))]) (fun k : Nat => [[(b2, .cells ⟨strs M ++ sp2⟩ 9 (0, 0))], lrow, whole W]) (fun k : Nat => M.length - k) (0) ((Nat.zero_le _)) ⟨rfl, rfl, rfl, trivial⟩ ⟨_, (take1 at0 (take1 at0 (take1 at0 take0)))⟩ (fun k hinv => ?_) 
      refine WP.seq <| WP.seq <| WP.region <| v0 (S0.move rfl) rfl <| v0 (S0.move rfl) rfl <| v0 (S0.lenSl rfl) rfl <| v0 (S0.cmp rfl rfl rfl) rfl <| vE <| ?_  -- cond
      first | refine WP.condP rfl (fun h3 => ?_) (fun h3 => ?_) | refine WP.condN rfl (fun h3 => ?_) (fun h3 => ?_) | refine WP.cond rfl (fun h3 => ?_) (fun h3 => ?_)
      · skip
        have hlt2 : k < M.length := by omega
        have hy : M[k]? = some M[k] := by simp [hlt2]
        have hym : M[k] ∈ M := List.getElem_mem hlt2
        generalize M[k] = y at hy hym
        have hyl := hmx y hym
        obtain ⟨hd1, -⟩ := sorted_at hso hy hx
        skip
        refine WP.skip <| WP.seq <| WP.block <| WP.seq <| WP.drawP [(0, none), (1, none), (2, none), (3, none), (4, none), (5, none), (6, none), (7, none), (8, none), (9, none), (10, none), (11, none), (12, none), (13, none)] mixed (by kernel_rfl) (by kernel_rfl) (by kernel_rfl) (take1 at0 take0) <| w0 rfl rfl rfl (S0.move rfl) rfl <| w0 rfl rfl rfl (S0.move rfl) rfl <| w0 rfl rfl rfl (S0.cmp rfl rfl rfl) rfl <| w0 rfl rfl rfl (S0.move rfl) rfl <| ?_  -- guard t67 (wants True) at t68 := move t5 [if #3=True]
        first | refine wcsP (t := 67) rfl (fun h4 => ?_) (fun h4 => ?_) | refine wcsN (t := 67) rfl (fun h4 => ?_) (fun h4 => ?_) | refine wcs (t := 67) rfl (fun h4 => ?_) (fun h4 => ?_)
        · skip
          have hne : x ≠ y := fun e => by simp [e] at hd1; omega
          have hcv := hno y hym x hxm hne
          refine w0 rfl rfl rfl (S0.move rfl) rfl <| w0 rfl rfl rfl (S0.move rfl) rfl <| ?_  -- op t70 := indexAddr 22 t68 t69 [if #3=True]
          refine w0 rfl rfl rfl (S0.index1 rfl rfl hlt) rfl <| ?_
          refine w0 rfl rfl rfl (S0.load rfl (strs_get hx)) rfl <| ?_
          refine w0 rfl rfl rfl (S0.move rfl) rfl <| w0 rfl rfl rfl (S0.move rfl) rfl <| ?_  -- op t74 := indexAddr 22 t72 t73 [if #3=True]
          refine w0 rfl rfl rfl (S0.index1 rfl rfl hlt2) rfl <| ?_
          refine w0 rfl rfl rfl (S0.load rfl (strs_get hy)) rfl <| ?_
          -- (nothing to walk: op t76 := call F24{rivulet/rivuletref03.Covers}(t71, t75) [if #3=True])
          refine wcd rfl rfl rfl rfl (S1.callF rfl (rcovers_spec (show x.length ≤ 100000 by omega) (show y.length ≤ 100000 by omega)) take0) rfl ?_
          rw [hcv]
          refine w0 rfl rfl rfl (S0.pickT rfl rfl) rfl <| wE <| ?_  -- cond
          refine WP.condFh rfl (rfl) ?_
          refine WP.skip <| WP.region <| v0 (S0.move rfl) rfl <| v0 (S0.ari rfl rfl rfl (wrap_i64 (by omega))) rfl <| v0 (S0.assign rfl) rfl <| vE <| ?_  -- roundend
          exact ⟨k + 1, (by first | exact hlt2 | (dsimp only; exact hlt2)), (by omega), ⟨⟨rfl, rfl, rfl, trivial⟩, rfl, rfl⟩, ⟨_, (take1 at0 (take1 at0 (take1 at0 take0)))⟩⟩
        · skip
          refine wF rfl rfl rfl rfl <| wF rfl rfl rfl rfl <| wF rfl rfl rfl rfl <| wF rfl rfl rfl rfl <| wF rfl rfl rfl rfl <| wF rfl rfl rfl rfl <| wF rfl rfl rfl rfl <| wF rfl rfl rfl rfl <| wF rfl rfl rfl rfl <| w0 rfl rfl rfl (S0.pickF rfl rfl) rfl <| wE <| WP.condF rfl <| WP.skip <| WP.region <| v0 (S0.move rfl) rfl <| v0 (S0.ari rfl rfl rfl (wrap_i64 (by omega))) rfl <| v0 (S0.assign rfl) rfl <| vE <| ?_  -- roundend
          exact ⟨k + 1, (by first | exact hlt2 | (dsimp only; exact hlt2)), (by omega), ⟨⟨rfl, rfl, rfl, trivial⟩, rfl, rfl⟩, ⟨_, (take1 at0 (take1 at0 (take1 at0 take0)))⟩⟩
      · skip
        refine WP.exit <| WP.region <| v0 (S0.move rfl) rfl <| v0 (S0.ari rfl rfl rfl (wrap_i64 (by omega))) rfl <| v0 (S0.assign rfl) rfl <| vE <| ?_  -- roundend
        exact ⟨i + 1, (by first | exact hlt | (dsimp only; exact hlt)), (by omega), ⟨⟨rfl, rfl, trivial⟩, rfl, rfl⟩, ⟨_, (take1 at0 (take1 at0 (take1 at0 take0)))⟩⟩
    · skip
      refine WP.exit <| WP.seq <| WP.region <| v0 (S0.move rfl) rfl <| ?_  -- op t79 := call F12{rivulet/cover.Least}(t78)
      refine vc (S1.callF rfl (least_spec hm.rdS hmx (by omega)) (take1 at0 take0)) rfl ?_
      rintro ev _ ⟨erow, he, rfl⟩
      refine app ?_
      rw [hid] at he
      refine v0 (S0.move rfl) rfl <| ?_  -- op t81 := call F11{rivulet/rivuletref02.Same}(t79, t80)
      refine vcd (S1.callF rfl (same_spec he.rdS hm.rdS (by omega)) (take1 at0 (take1 at0 take0))) rfl ?_
      refine v0 (S0.move rfl) rfl <| ?_  -- guard t82 (wants True) at t83 := call F16{rivulet/rivuletlaw05.fixed}() [if #4=True]
      refine csTh (t := 82) rfl ((by simp)) ?_
      -- (nothing to walk: op t83 := call F16{rivulet/rivuletlaw05.fixed}() [if #4=True])
      refine gT rfl <| vcd (S1.callF rfl (fixed_spec) take0) rfl ?_
      refine v0 (S0.pickT rfl rfl) rfl <| v0 (S0.assign rfl) rfl <| vE <| WP.ret <| ?_  -- ret
      refine Leaves.drop (take1 (atS (atS (atS at0))) take0) ?_
      refine r1 rfl rfl ?_
      exact ⟨rfl, rfl⟩
end Go.Proofs.YtnoicafjkgbokaaDoor
