import Derived.Test.YtmkgokjfkmbcoaaGreatDoorK4
import Derived.Test.YtmkgokjfkmbcoaaGreatDoorRows
import Derived.Test.YtmkgokjfkmbcoaaGreatDoorK2
import Derived.ChangeVars
import Derived.JoinedOf
import Derived.LaidLaws
import Derived.LaidHandle
import Derived.SizedLaws
set_option linter.unusedSimpArgs false
set_option linter.unusedVariables false
set_option linter.unnecessarySimpa false
/- L6 -/
namespace Go.Proofs.YtmkgokjfkmbcoaaGreatDoor
open Go

theorem sorted_next {l : List Str} (hs : SortedS l) {i : Nat} {x y : Str} (hx : l[i]? = some x) (hy : l[i + 1]? = some y) : lessS x y = true := by
  obtain ⟨h1, h2⟩ := List.getElem?_eq_some_iff.1 hx
  obtain ⟨h3, h4⟩ := List.getElem?_eq_some_iff.1 hy
  have := List.pairwise_iff_getElem.1 hs i (i + 1) h1 h3 (by omega)
  rwa [h2, h4] at this
set_option maxRecDepth 100000 in
theorem trieAll_walk (W : World) (lv : Value) (hl : ArgF W opK lv) : FN Tryz.prog 9 [lv] [whole W] (fun v h => v = .bool true ∧ h = [whole W]) := by
  obtain ⟨l0, hrl⟩ := argOps hl
  have hll := cutOs_len l0
  have hlx := cutOs_mem (l := l0)
  refine FN.intro 126 [(0, lv)] Tryz.func9 rfl (enters Tryz.func9 (by kernel_rfl) rfl) Tryz.ntmps9 rfl rfl ?_
  refine WP.seq <| WP.region <| v0 (S0.assign rfl) rfl <| vE <| WP.seq <| WP.region <| v0 (S0.move rfl) rfl <| ?_  -- op t16 := call F10{rivulet/rivuletlaw04.Cut}(t15)
  refine vc (S1.callF rfl (cut_spec hrl) (take1 at0 take0)) rfl ?_
  rintro _ _ ⟨row, hs, rfl⟩
  refine app ?_
  generalize cutOs l0 = M at hll hlx hs
  obtain ⟨a, cap, rfl, hcap, hrow⟩ := IsSl.elems (k := 3) enO_len hs
  -- (nothing to walk: op t17 := call F11{rivulet/trie.New}())
  refine vc (S1.callF rfl (new_spec) take0) rfl ?_
  rintro _ _ ⟨tb, c0, rfl, h0, rfl⟩
  refine app ?_
  refine v0 (S0.assign rfl) rfl <| v0 (S0.assign rfl) rfl <| vE <| WP.seq <| WP.seq <| WP.region <| v0 (S0.move rfl) rfl <| v0 (S0.nilP rfl rfl rfl rfl) rfl <| vE <| ?_  -- cond
  refine WP.condFh rfl (rfl) ?_
  refine WP.skip <| WP.seq <| WP.seq <| WP.region <| v0 (S0.assign rfl) rfl <| vE <| WP.block <| ?_  -- Code.loop
  refine WP.loop (fun st : Nat × Asks × List Blk => st.1 ≤ M.length ∧ IsTr tb st.2.1 st.2.2 ∧ AsksOk st.2.1 ∧ AskB st.2.1 st.1 ∧ IdsIn st.2.1 ((M.take st.1).map (·.2.2.1))) (fun st : Nat × Asks × List Blk => [(3, .slice a M.length cap), (4, .pointer (some ⟨tb, 0, none⟩)), (5, .int .i64 (st.1 : Int))]) (fun st : Nat × Asks × List Blk => [st.2.2, row, whole W]) (fun st : Nat × Asks × List Blk => M.length - st.1) ((0, [], c0)) (⟨Nat.zero_le _, h0, AsksOk.nil, AskB.nil 0, by simp [IdsIn]⟩) ⟨rfl, rfl, rfl, trivial⟩ ⟨_, (take1 at0 (take1 at0 (take1 at0 take0)))⟩ (fun st hinv => ?_) 
  obtain ⟨i, L, c⟩ := st
  obtain ⟨hi, hT, hok, hb, hids⟩ := hinv
  dsimp only at hi hT hok hb hids ⊢
  refine WP.seq <| WP.seq <| WP.region <| v0 (S0.move rfl) rfl <| v0 (S0.move rfl) rfl <| v0 (S0.lenSl rfl) rfl <| v0 (S0.cmp rfl rfl rfl) rfl <| vE <| ?_  -- cond
  first | refine WP.condP rfl (fun h1 => ?_) (fun h1 => ?_) | refine WP.condN rfl (fun h1 => ?_) (fun h1 => ?_) | refine WP.cond rfl (fun h1 => ?_) (fun h1 => ?_)
  · skip
    have hlt : i < M.length := by omega
    rcases hrow with ⟨e, -⟩ | ⟨b1, sp1, rfl, rfl, hsp1⟩
    · rw [e] at hlt; simp at hlt
    have hx : M[i]? = some M[i] := by simp [hlt]
    have hxl := hlx _ (List.getElem_mem hlt)
    generalize M[i] = x at hx hxl
    have gA : ((M.flatMap enO ++ sp1).drop (i * 4)).take 4 = enO x := flat_take enO_len sp1 M i _ hx
    have hids' := hids.play x
    rw [show (M.take i).map (·.2.2.1) ++ [x.2.2.1] = (M.take (i + 1)).map (·.2.2.1) by rw [take_one hx]; simp] at hids'
    refine WP.skip <| WP.seq <| WP.block <| WP.region <| v0 (S0.move rfl) rfl <| v0 (S0.move rfl) rfl <| v0 (S0.move rfl) rfl <| ?_  -- op t29 := indexAddr 22 t27 t28
    refine v0 (S0.indexN (k := 4) rfl rfl hlt) rfl <| ?_
    refine v0 (S0.loadA rfl gA rfl) rfl <| ?_
    refine vc (S1.callF rfl (play_spec hT hb (by omega) (by omega)) (take1 at0 take0)) rfl ?_
    rintro _ _ ⟨c', rfl, hT', rfl⟩
    refine app ?_
    refine vE <| WP.region <| v0 (S0.move rfl) rfl <| v0 (S0.ari rfl rfl rfl (wrap_i64 (by omega))) rfl <| v0 (S0.assign rfl) rfl <| vE <| ?_  -- roundend
    exact ⟨(i + 1, playR L x, c'), (by first | exact ⟨hlt, hT', hok.play x, hb.play x, hids'⟩ | (dsimp only; exact ⟨hlt, hT', hok.play x, hb.play x, hids'⟩)), (show M.length - (i + 1) < M.length - i by omega), ⟨⟨rfl, rfl, rfl, trivial⟩, rfl, rfl⟩, ⟨_, (take1 at0 (take1 at0 (take1 at0 take0)))⟩⟩
  · skip
    have ei : i = M.length := by omega
    rw [ei, List.take_length] at hids
    have hbm : AskB L 60 := hb.mono (by omega)
    clear hb h0 ei hi
    have hfl : ∀ f ∈ allK L, filtS f = true ∧ f.length ≤ 200 := fun f hf => by
      obtain ⟨j, n, hm⟩ := mem_allK.1 hf
      have := (hok.filt _ hm).1
      exact ⟨this, filt_len this⟩
    have hal := allK_le hbm
    refine WP.exit <| WP.seq <| WP.region <| v0 (S0.move rfl) rfl <| ?_  -- op t33 := call F18{(*rivulet/trie.Trie).All}(t32)
    refine vc (S1.callF rfl (all_spec hT hbm (by decide)) (take1 at0 take0)) rfl ?_
    rintro av _ ⟨arow, ha, rfl⟩
    refine app ?_
    obtain ⟨aa, ac, rfl, hac, har⟩ := ha.strsE
    refine v0 (S0.assign rfl) rfl <| vE <| WP.seq <| WP.seq <| WP.region <| v0 (S0.assign rfl) rfl <| vE <| WP.block <| ?_  -- Code.loop
    refine WP.loop (fun p : Nat => p ≤ (allK L).length) (fun p : Nat => [(3, .slice a M.length cap), (4, .pointer (some ⟨tb, 0, none⟩)), (6, .slice aa (allK L).length ac), (7, .int .i64 (p : Int))]) (fun p : Nat => [arow, c, row, whole W]) (fun p : Nat => (allK L).length - p) (0) (Nat.zero_le _) ⟨rfl, rfl, rfl, rfl, trivial⟩ ⟨_, (take1 at0 (take1 at0 (take1 at0 (take1 at0 take0))))⟩ (fun p hinv => ?_) 
    refine WP.seq <| WP.seq <| WP.region <| v0 (S0.move rfl) rfl <| v0 (S0.move rfl) rfl <| v0 (S0.lenSl rfl) rfl <| v0 (S0.cmp rfl rfl rfl) rfl <| vE <| ?_  -- cond
    first | refine WP.condP rfl (fun h2 => ?_) (fun h2 => ?_) | refine WP.condN rfl (fun h2 => ?_) (fun h2 => ?_) | refine WP.cond rfl (fun h2 => ?_) (fun h2 => ?_)
    · skip
      have hlp : p < (allK L).length := by omega
      rcases har with ⟨e, -⟩ | ⟨b2, sp2, rfl, rfl, hsp2⟩
      · rw [e] at hlp; simp at hlp
      have hx : (allK L)[p]? = some (allK L)[p] := by simp [hlp]
      have hxm := List.getElem_mem hlp
      generalize (allK L)[p] = f at hx hxm
      have hxf := hfl f hxm
      obtain ⟨who, hwho, hpos⟩ := has_in hok hxm
      have hwm := hwho _ hids
      clear hwho
      refine WP.skip <| WP.seq <| WP.block <| WP.seq <| ?_  -- cut
      refine WP.cutT (fun q : Nat => True) (fun q : Nat => [(3, .slice a M.length cap), (4, .pointer (some ⟨tb, 0, none⟩)), (6, .slice (some ⟨b2, 0, none⟩) (allK L).length ac), (7, .int .i64 (p : Int))]) (fun q : Nat => [[(b2, .cells ⟨strs (allK L) ++ sp2⟩ 9 (0, 0))], c, row, whole W]) ?_ (fun q hinv => ?_)
      · skip
        refine WP.seq <| WP.drawP [(0, none), (1, none), (2, none), (3, none), (4, none), (5, none), (6, none), (7, none), (8, none), (9, none), (10, none), (11, none), (12, none), (13, none), (14, none), (15, none), (16, none), (17, none), (18, none), (19, none), (20, none), (21, none), (22, none)] mixed (by kernel_rfl) (by kernel_rfl) (by kernel_rfl) (take1 at0 take0) <| w0 rfl rfl rfl (S0.move rfl) rfl <| w0 rfl rfl rfl (S0.cmp rfl rfl rfl) rfl <| w0 rfl rfl rfl (S0.move rfl) rfl <| ?_  -- guard t42 (wants True) at t43 := move t6 [if #2=True]
        first | refine wcsP (t := 42) rfl (fun h3 => ?_) (fun h3 => ?_) | refine wcsN (t := 42) rfl (fun h3 => ?_) (fun h3 => ?_) | refine wcs (t := 42) rfl (fun h3 => ?_) (fun h3 => ?_)
        · skip
          obtain ⟨p, rfl⟩ : ∃ p', p = p' + 1 := ⟨p - 1, by omega⟩
          have hlp0 : p < (allK L).length := by omega
          have hy : (allK L)[p]? = some (allK L)[p] := by simp [hlp0]
          have hyl := (hfl _ (List.getElem_mem hlp0)).2
          generalize (allK L)[p] = g at hy hyl
          have hless := sorted_next (allK_sorted L) hy hx
          refine w0 rfl rfl rfl (S0.move rfl) rfl <| w0 rfl rfl rfl (S0.move rfl) rfl <| w0 rfl rfl rfl (S0.ari rfl rfl rfl (wrap_i64 (by omega))) rfl <| ?_  -- op t46 := indexAddr 40 t43 t45 [if #2=True]
          rw [show ((p + 1 : Nat) : Int) - 1 = (p : Int) by omega]
          refine w0 rfl rfl rfl (S0.index1 rfl rfl hlp0) rfl <| ?_
          refine w0 rfl rfl rfl (S0.load rfl (strs_get hy)) rfl <| ?_
          refine w0 rfl rfl rfl (S0.move rfl) rfl <| w0 rfl rfl rfl (S0.move rfl) rfl <| ?_  -- op t50 := indexAddr 40 t48 t49 [if #2=True]
          refine w0 rfl rfl rfl (S0.index1 rfl rfl hlp) rfl <| ?_
          refine w0 rfl rfl rfl (S0.load rfl (strs_get hx)) rfl <| ?_
          refine wcd rfl rfl rfl rfl (S1.callF rfl (rless_spec (show g.length ≤ 100000 by omega) (show f.length ≤ 100000 by omega)) take0) rfl ?_
          rw [hless]
          refine w0 rfl rfl rfl (S0.not rfl) rfl <| w0 rfl rfl rfl (S0.pickT rfl rfl) rfl <| w0 rfl rfl rfl (S0.move rfl) rfl <| ?_  -- guard t55 (wants False) at t56 := move t6 [if #15=False]
          refine wcsFh (t := 55) rfl (rfl) ?_
          refine w0 rfl rfl rfl (S0.move rfl) rfl <| w0 rfl rfl rfl (S0.move rfl) rfl <| ?_  -- op t58 := indexAddr 40 t56 t57 [if #15=False]
          refine w0 rfl rfl rfl (S0.index1 rfl rfl hlp) rfl <| ?_
          refine w0 rfl rfl rfl (S0.load rfl (strs_get hx)) rfl <| ?_
          refine wcd rfl rfl rfl rfl (S1.callF rfl (rfilter_spec (show f.length ≤ 900000 by omega)) take0) rfl ?_
          rw [hxf.1]
          refine w0 rfl rfl rfl (S0.not rfl) rfl <| w0 rfl rfl rfl (S0.pickF rfl rfl) rfl <| wE <| ?_  -- cond
          refine WP.condFh rfl (rfl) ?_
          refine WP.skip <| ?_  -- cutend
          exact ⟨0, (by first | exact trivial | (dsimp only; exact trivial)), ⟨⟨rfl, rfl, rfl, rfl, trivial⟩, rfl, rfl⟩, ⟨_, (take1 at0 (take1 at0 (take1 at0 (take1 at0 take0))))⟩⟩
        · skip
          refine wF rfl rfl rfl rfl <| wF rfl rfl rfl rfl <| wF rfl rfl rfl rfl <| wF rfl rfl rfl rfl <| wF rfl rfl rfl rfl <| wF rfl rfl rfl rfl <| wF rfl rfl rfl rfl <| wF rfl rfl rfl rfl <| wF rfl rfl rfl rfl <| wF rfl rfl rfl rfl <| wF rfl rfl rfl rfl <| w0 rfl rfl rfl (S0.pickF rfl rfl) rfl <| w0 rfl rfl rfl (S0.move rfl) rfl <| w0 rfl rfl rfl (S0.move rfl) rfl <| w0 rfl rfl rfl (S0.move rfl) rfl <| ?_  -- op t58 := indexAddr 40 t56 t57 [if #15=False]
          refine w0 rfl rfl rfl (S0.index1 rfl rfl hlp) rfl <| ?_
          refine w0 rfl rfl rfl (S0.load rfl (strs_get hx)) rfl <| ?_
          refine wcd rfl rfl rfl rfl (S1.callF rfl (rfilter_spec (show f.length ≤ 900000 by omega)) take0) rfl ?_
          rw [hxf.1]
          refine w0 rfl rfl rfl (S0.not rfl) rfl <| w0 rfl rfl rfl (S0.pickF rfl rfl) rfl <| wE <| ?_  -- cond
          refine WP.condFh rfl (rfl) ?_
          refine WP.skip <| ?_  -- cutend
          exact ⟨0, (by first | exact trivial | (dsimp only; exact trivial)), ⟨⟨rfl, rfl, rfl, rfl, trivial⟩, rfl, rfl⟩, ⟨_, (take1 at0 (take1 at0 (take1 at0 (take1 at0 take0))))⟩⟩
      · skip
        clear hinv
        refine WP.seq <| WP.region <| v0 (S0.assign rfl) rfl <| vE <| WP.seq <| WP.seq <| WP.region <| v0 (S0.assign rfl) rfl <| vE <| WP.block <| ?_  -- Code.loop
        refine WP.loop (fun st : Nat × Bool => st.1 ≤ M.length ∧ (st.2 = true ∨ ∀ j y, j < st.1 → M[j]? = some y → hasK L f y.2.2.1 = 0)) (fun st : Nat × Bool => [(3, .slice a M.length cap), (4, .pointer (some ⟨tb, 0, none⟩)), (6, .slice (some ⟨b2, 0, none⟩) (allK L).length ac), (7, .int .i64 (p : Int)), (8, .bool st.2), (9, .int .i64 (st.1 : Int))]) (fun st : Nat × Bool => [[(b2, .cells ⟨strs (allK L) ++ sp2⟩ 9 (0, 0))], c, row, whole W]) (fun st : Nat × Bool => M.length - st.1) ((0, false)) (⟨Nat.zero_le _, .inr fun j y hj => by omega⟩) ⟨rfl, rfl, rfl, rfl, rfl, rfl, trivial⟩ ⟨_, (take1 at0 (take1 at0 (take1 at0 (take1 at0 take0))))⟩ (fun st hinv => ?_) 
        obtain ⟨k, some_⟩ := st
        obtain ⟨hk, hsome⟩ := hinv
        dsimp only at hk hsome ⊢
        refine WP.seq <| WP.seq <| WP.region <| v0 (S0.move rfl) rfl <| v0 (S0.move rfl) rfl <| v0 (S0.lenSl rfl) rfl <| v0 (S0.cmp rfl rfl rfl) rfl <| vE <| ?_  -- cond
        first | refine WP.condP rfl (fun h3 => ?_) (fun h3 => ?_) | refine WP.condN rfl (fun h3 => ?_) (fun h3 => ?_) | refine WP.cond rfl (fun h3 => ?_) (fun h3 => ?_)
        · skip
          have hlt : k < M.length := by omega
          rcases hrow with ⟨e, -⟩ | ⟨b1, sp1, rfl, rfl, hsp1⟩
          · rw [e] at hlt; simp at hlt
          have hy : M[k]? = some M[k] := by simp [hlt]
          generalize M[k] = y at hy
          skip
          refine WP.skip <| WP.seq <| WP.block <| WP.drawP [(0, none), (1, none), (2, none), (3, none), (4, none), (5, none), (6, none), (7, none), (8, none), (9, none), (10, none), (11, none), (12, none), (13, none), (14, none), (15, none)] mixed (by kernel_rfl) (by kernel_rfl) (by kernel_rfl) (take1 at0 (take1 (atS at0) take0)) <| w0 rfl rfl rfl (S0.move rfl) rfl <| w0 rfl rfl rfl (S0.move rfl) rfl <| ?_  -- guard t70 (wants False) at t71 := move t4 [if #1=False]
          first | refine wcsP (t := 70) rfl (fun h4 => ?_) (fun h4 => ?_) | refine wcsN (t := 70) rfl (fun h4 => ?_) (fun h4 => ?_) | refine wcs (t := 70) rfl (fun h4 => ?_) (fun h4 => ?_)
          · skip
            refine wF rfl rfl rfl rfl <| wF rfl rfl rfl rfl <| wF rfl rfl rfl rfl <| wF rfl rfl rfl rfl <| wF rfl rfl rfl rfl <| wF rfl rfl rfl rfl <| wF rfl rfl rfl rfl <| wF rfl rfl rfl rfl <| wF rfl rfl rfl rfl <| wF rfl rfl rfl rfl <| wF rfl rfl rfl rfl <| wF rfl rfl rfl rfl <| w0 rfl rfl rfl (S0.pickT rfl rfl) rfl <| w0 rfl rfl rfl (S0.assign rfl) rfl <| wE <| WP.region <| v0 (S0.move rfl) rfl <| v0 (S0.ari rfl rfl rfl (wrap_i64 (by omega))) rfl <| v0 (S0.assign rfl) rfl <| vE <| ?_  -- roundend
            exact ⟨(k + 1, true), (by first | exact ⟨hlt, .inl rfl⟩ | (dsimp only; exact ⟨hlt, .inl rfl⟩)), (show M.length - (k + 1) < M.length - k by omega), ⟨⟨rfl, rfl, rfl, rfl, rfl, rfl, trivial⟩, rfl, rfl⟩, ⟨_, (take1 at0 (take1 (atS at0) (take1 at0 (take1 at0 take0))))⟩⟩
          · skip
            have hno := hsome.resolve_left (by simpa using h4)
            refine w0 rfl rfl rfl (S0.move rfl) rfl <| w0 rfl rfl rfl (S0.move rfl) rfl <| w0 rfl rfl rfl (S0.move rfl) rfl <| ?_  -- op t74 := indexAddr 40 t72 t73 [if #1=False]
            refine w0 rfl rfl rfl (S0.index1 rfl rfl hlp) rfl <| ?_
            refine w0 rfl rfl rfl (S0.load rfl (strs_get hx)) rfl <| ?_
            refine w0 rfl rfl rfl (S0.move rfl) rfl <| w0 rfl rfl rfl (S0.move rfl) rfl <| ?_  -- op t78 := indexAddr 22 t76 t77 [if #1=False]
            refine w0 rfl rfl rfl (S0.indexN (k := 4) rfl rfl hlt) rfl <| ?_
            refine w0 rfl rfl rfl (S0.fieldAddr rfl) rfl <| ?_  -- limit
            refine w0 rfl rfl rfl (S0.load (v := .int .i64 y.2.2.1) rfl (flat_get enO_len sp1 M k 2 _ hy (by decide))) rfl <| ?_
            refine wcd rfl rfl rfl rfl (S1.callF rfl (has_spec hT (show f.length ≤ 1000 by omega) y.2.2.1) (take1 at0 take0)) rfl ?_
            refine w0 rfl rfl rfl (S0.cmp rfl rfl rfl) rfl <| w0 rfl rfl rfl (S0.pickF rfl rfl) rfl <| w0 rfl rfl rfl (S0.assign rfl) rfl <| wE <| WP.region <| v0 (S0.move rfl) rfl <| v0 (S0.ari rfl rfl rfl (wrap_i64 (by omega))) rfl <| v0 (S0.assign rfl) rfl <| vE <| ?_  -- roundend
            have hst : (decide (0 < hasK L f y.2.2.1) = true ∨ ∀ j z, j < k + 1 → M[j]? = some z → hasK L f z.2.2.1 = 0) := by
              by_cases e : 0 < hasK L f y.2.2.1
              · exact .inl (by simpa using e)
              · have hz := has_nonneg hok f y.2.2.1
                exact .inr (below_at (p := fun _ z => hasK L f z.2.2.1 = 0) hno hy (by omega))
            exact ⟨(k + 1, decide (0 < hasK L f y.2.2.1)), (by first | exact ⟨hlt, hst⟩ | (dsimp only; exact ⟨hlt, hst⟩)), (show M.length - (k + 1) < M.length - k by omega), ⟨⟨rfl, rfl, rfl, rfl, rfl, rfl, trivial⟩, rfl, rfl⟩, ⟨_, (take1 at0 (take1 (atS at0) (take1 at0 (take1 at0 take0))))⟩⟩
        · skip
          have ek : k = M.length := by omega
          have e1 : some_ = true := by
            rcases hsome with h | h
            · exact h
            · exfalso
              obtain ⟨y, hy, e⟩ := List.mem_map.1 hwm
              obtain ⟨j, hj, rfl⟩ := List.getElem_of_mem hy
              have := h j M[j] (by omega) (by simp [hj])
              rw [e] at this; omega
          subst e1
          refine WP.exit <| WP.seq <| WP.region <| v0 (S0.move rfl) rfl <| v0 (S0.not rfl) rfl <| vE <| ?_  -- cond
          refine WP.condFh rfl (rfl) ?_
          refine WP.skip <| WP.region <| v0 (S0.move rfl) rfl <| v0 (S0.ari rfl rfl rfl (wrap_i64 (by omega))) rfl <| v0 (S0.assign rfl) rfl <| vE <| ?_  -- roundend
          exact ⟨p + 1, (by first | exact hlp | (dsimp only; exact hlp)), (show (allK L).length - (p + 1) < (allK L).length - p by omega), ⟨⟨rfl, rfl, rfl, rfl, trivial⟩, rfl, rfl⟩, ⟨_, (take1 at0 (take1 at0 (take1 at0 (take1 at0 take0))))⟩⟩
    · skip
      refine WP.exit <| WP.seq <| WP.seq <| WP.region <| v0 (S0.assign rfl) rfl <| vE <| WP.block <| ?_  -- Code.loop
      refine WP.loop (fun k : Nat => k ≤ M.length) (fun k : Nat => [(3, .slice a M.length cap), (4, .pointer (some ⟨tb, 0, none⟩)), (6, .slice aa (allK L).length ac), (10, .int .i64 (k : Int))]) (fun k : Nat => [arow, c, row, whole W]) (fun k : Nat => M.length - k) (0) (Nat.zero_le _) ⟨rfl, rfl, rfl, rfl, trivial⟩ ⟨_, (take1 at0 (take1 at0 (take1 at0 (take1 at0 take0))))⟩ (fun k hinv => ?_) 
      refine WP.seq <| WP.seq <| WP.region <| v0 (S0.move rfl) rfl <| v0 (S0.move rfl) rfl <| v0 (S0.lenSl rfl) rfl <| v0 (S0.cmp rfl rfl rfl) rfl <| vE <| ?_  -- cond
      first | refine WP.condP rfl (fun h3 => ?_) (fun h3 => ?_) | refine WP.condN rfl (fun h3 => ?_) (fun h3 => ?_) | refine WP.cond rfl (fun h3 => ?_) (fun h3 => ?_)
      · skip
        have hlt : k < M.length := by omega
        have hrow' := hrow
        rcases hrow with ⟨e, -⟩ | ⟨b1, sp1, rfl, rfl, hsp1⟩
        · rw [e] at hlt; simp at hlt
        have hy : M[k]? = some M[k] := by simp [hlt]
        generalize M[k] = y at hy
        refine WP.skip <| WP.seq <| WP.block <| WP.seq <| WP.region <| v0 (S0.move rfl) rfl <| v0 (S0.move rfl) rfl <| v0 (S0.move rfl) rfl <| ?_  -- op t95 := indexAddr 22 t93 t94
        refine v0 (S0.indexN (k := 4) rfl rfl hlt) rfl <| ?_
        refine v0 (S0.fieldAddr rfl) rfl <| ?_  -- limit
        refine v0 (S0.load (v := .int .i64 y.2.2.1) rfl (flat_get enO_len sp1 M k 2 _ hy (by decide))) rfl <| ?_
        refine vc (S1.callF rfl (of_spec hT hbm (by decide) y.2.2.1) (take1 (atS at0) take0)) rfl ?_
        rintro ov _ ⟨orow, ho, rfl⟩
        refine app ?_
        obtain ⟨oa, oc, rfl, hoc, hor⟩ := ho.strsE
        have hol := ofK_le hok hbm y.2.2.1
        have hsub : ∀ f ∈ ofK L y.2.2.1, f ∈ allK L := fun f hf => by
          obtain ⟨n, hm⟩ := mem_ofK.1 hf
          exact mem_allK.2 ⟨_, n, hm⟩
        generalize ofK L y.2.2.1 = O at ho hor hol hsub
        refine v0 (S0.assign rfl) rfl <| vE <| WP.seq <| WP.region <| v0 (S0.assign rfl) rfl <| vE <| WP.block <| ?_  -- Code.loop
        refine WP.loop (fun p : Nat => p ≤ O.length) (fun p : Nat => [(3, .slice (some ⟨b1, 0, none⟩) M.length cap), (4, .pointer (some ⟨tb, 0, none⟩)), (6, .slice aa (allK L).length ac), (10, .int .i64 (k : Int)), (11, .slice oa O.length oc), (12, .int .i64 (p : Int))]) (fun p : Nat => [orow, arow, c, [(b1, .cells ⟨M.flatMap enO ++ sp1⟩ 31 (0, 0))], whole W]) (fun p : Nat => O.length - p) (0) (Nat.zero_le _) ⟨rfl, rfl, rfl, rfl, rfl, rfl, trivial⟩ ⟨_, (take1 at0 (take1 (atS at0) (take1 at0 (take1 at0 (take1 at0 take0)))))⟩ (fun p hinv => ?_) 
        refine WP.seq <| WP.seq <| WP.region <| v0 (S0.move rfl) rfl <| v0 (S0.move rfl) rfl <| v0 (S0.lenSl rfl) rfl <| v0 (S0.cmp rfl rfl rfl) rfl <| vE <| ?_  -- cond
        first | refine WP.condP rfl (fun h4 => ?_) (fun h4 => ?_) | refine WP.condN rfl (fun h4 => ?_) (fun h4 => ?_) | refine WP.cond rfl (fun h4 => ?_) (fun h4 => ?_)
        · skip
          have hlp : p < O.length := by omega
          rcases hor with ⟨e, -⟩ | ⟨b3, sp3, rfl, rfl, hsp3⟩
          · rw [e] at hlp; simp at hlp
          have hx : O[p]? = some O[p] := by simp [hlp]
          have hxm := hsub _ (List.getElem_mem hlp)
          generalize O[p] = f at hx hxm
          refine WP.skip <| WP.seq <| WP.block <| WP.seq <| WP.region <| v0 (S0.assign rfl) rfl <| vE <| WP.seq <| WP.seq <| WP.region <| v0 (S0.assign rfl) rfl <| vE <| WP.block <| ?_  -- Code.loop
          refine WP.loop (fun st : Nat × Bool => st.1 ≤ (allK L).length ∧ (st.2 = true ∨ ∀ j z, j < st.1 → (allK L)[j]? = some z → z ≠ f)) (fun st : Nat × Bool => [(3, .slice (some ⟨b1, 0, none⟩) M.length cap), (4, .pointer (some ⟨tb, 0, none⟩)), (6, .slice aa (allK L).length ac), (10, .int .i64 (k : Int)), (11, .slice (some ⟨b3, 0, none⟩) O.length oc), (12, .int .i64 (p : Int)), (13, .bool st.2), (14, .int .i64 (st.1 : Int))]) (fun st : Nat × Bool => [[(b3, .cells ⟨strs O ++ sp3⟩ 9 (0, 0))], arow, c, [(b1, .cells ⟨M.flatMap enO ++ sp1⟩ 31 (0, 0))], whole W]) (fun st : Nat × Bool => (allK L).length - st.1) ((0, false)) (⟨Nat.zero_le _, .inr fun j z hj => by omega⟩) ⟨rfl, rfl, rfl, rfl, rfl, rfl, rfl, rfl, trivial⟩ ⟨_, (take1 at0 (take1 at0 (take1 at0 (take1 at0 (take1 at0 take0)))))⟩ (fun st hinv => ?_) 
          obtain ⟨j, in_⟩ := st
          obtain ⟨hj, hin⟩ := hinv
          dsimp only at hj hin ⊢
          refine WP.seq <| WP.seq <| WP.region <| v0 (S0.move rfl) rfl <| v0 (S0.move rfl) rfl <| v0 (S0.lenSl rfl) rfl <| v0 (S0.cmp rfl rfl rfl) rfl <| vE <| ?_  -- cond
          first | refine WP.condP rfl (fun h5 => ?_) (fun h5 => ?_) | refine WP.condN rfl (fun h5 => ?_) (fun h5 => ?_) | refine WP.cond rfl (fun h5 => ?_) (fun h5 => ?_)
          · skip
            have hlj : j < (allK L).length := by omega
            rcases har with ⟨e, -⟩ | ⟨b2, sp2, rfl, rfl, hsp2⟩
            · rw [e] at hlj; simp at hlj
            have hz : (allK L)[j]? = some (allK L)[j] := by simp [hlj]
            generalize (allK L)[j] = z at hz
            skip
            refine WP.skip <| WP.seq <| WP.block <| WP.drawP [(0, none), (1, none), (2, none), (3, none), (4, none), (5, none), (6, none), (7, none), (8, none), (9, none), (10, none), (11, none), (12, none)] mixed (by kernel_rfl) (by kernel_rfl) (by kernel_rfl) (take1 at0 (take1 at0 take0)) <| w0 rfl rfl rfl (S0.move rfl) rfl <| w0 rfl rfl rfl (S0.move rfl) rfl <| ?_  -- guard t112 (wants False) at t113 := move t6 [if #1=False]
            first | refine wcsP (t := 112) rfl (fun h6 => ?_) (fun h6 => ?_) | refine wcsN (t := 112) rfl (fun h6 => ?_) (fun h6 => ?_) | refine wcs (t := 112) rfl (fun h6 => ?_) (fun h6 => ?_)
            · skip
              refine wF rfl rfl rfl rfl <| wF rfl rfl rfl rfl <| wF rfl rfl rfl rfl <| wF rfl rfl rfl rfl <| wF rfl rfl rfl rfl <| wF rfl rfl rfl rfl <| wF rfl rfl rfl rfl <| wF rfl rfl rfl rfl <| wF rfl rfl rfl rfl <| w0 rfl rfl rfl (S0.pickT rfl rfl) rfl <| w0 rfl rfl rfl (S0.assign rfl) rfl <| wE <| WP.region <| v0 (S0.move rfl) rfl <| v0 (S0.ari rfl rfl rfl (wrap_i64 (by omega))) rfl <| v0 (S0.assign rfl) rfl <| vE <| ?_  -- roundend
              exact ⟨(j + 1, true), (by first | exact ⟨hlj, .inl rfl⟩ | (dsimp only; exact ⟨hlj, .inl rfl⟩)), (show (allK L).length - (j + 1) < (allK L).length - j by omega), ⟨⟨rfl, rfl, rfl, rfl, rfl, rfl, rfl, rfl, trivial⟩, rfl, rfl⟩, ⟨_, (take1 at0 (take1 at0 (take1 at0 (take1 at0 (take1 at0 take0)))))⟩⟩
            · skip
              have hno := hin.resolve_left (by simpa using h6)
              refine w0 rfl rfl rfl (S0.move rfl) rfl <| w0 rfl rfl rfl (S0.move rfl) rfl <| ?_  -- op t115 := indexAddr 40 t113 t114 [if #1=False]
              refine w0 rfl rfl rfl (S0.index1 rfl rfl hlj) rfl <| ?_
              refine w0 rfl rfl rfl (S0.load rfl (strs_get hz)) rfl <| ?_
              refine w0 rfl rfl rfl (S0.move rfl) rfl <| w0 rfl rfl rfl (S0.move rfl) rfl <| ?_  -- op t119 := indexAddr 40 t117 t118 [if #1=False]
              refine w0 rfl rfl rfl (S0.index1 rfl rfl hlp) rfl <| ?_
              refine w0 rfl rfl rfl (S0.load rfl (strs_get hx)) rfl <| ?_
              refine w0 rfl rfl rfl (S0.cmpS rfl rfl rfl) rfl <| w0 rfl rfl rfl (S0.pickF rfl rfl) rfl <| w0 rfl rfl rfl (S0.assign rfl) rfl <| wE <| WP.region <| v0 (S0.move rfl) rfl <| v0 (S0.ari rfl rfl rfl (wrap_i64 (by omega))) rfl <| v0 (S0.assign rfl) rfl <| vE <| ?_  -- roundend
              have hst : (decide (z = f) = true ∨ ∀ j' z', j' < j + 1 → (allK L)[j']? = some z' → z' ≠ f) := by
                by_cases e : z = f
                · exact .inl (by simpa using e)
                · exact .inr (below_at (p := fun _ z => z ≠ f) hno hz e)
              exact ⟨(j + 1, decide (z = f)), (by first | exact ⟨hlj, hst⟩ | (dsimp only; exact ⟨hlj, hst⟩)), (show (allK L).length - (j + 1) < (allK L).length - j by omega), ⟨⟨rfl, rfl, rfl, rfl, rfl, rfl, rfl, rfl, trivial⟩, rfl, rfl⟩, ⟨_, (take1 at0 (take1 at0 (take1 at0 (take1 at0 (take1 at0 take0)))))⟩⟩
          · skip
            have e1 : in_ = true := by
              rcases hin with h | h
              · exact h
              · exfalso
                obtain ⟨q, hq, e⟩ := List.getElem_of_mem hxm
                exact h q _ (by omega) (by simp [hq]) e
            subst e1
            refine WP.exit <| WP.seq <| WP.region <| v0 (S0.move rfl) rfl <| v0 (S0.not rfl) rfl <| vE <| ?_  -- cond
            refine WP.condFh rfl (rfl) ?_
            refine WP.skip <| WP.region <| v0 (S0.move rfl) rfl <| v0 (S0.ari rfl rfl rfl (wrap_i64 (by omega))) rfl <| v0 (S0.assign rfl) rfl <| vE <| ?_  -- roundend
            exact ⟨p + 1, (by first | exact hlp | (dsimp only; exact hlp)), (show O.length - (p + 1) < O.length - p by omega), ⟨⟨rfl, rfl, rfl, rfl, rfl, rfl, trivial⟩, rfl, rfl⟩, ⟨_, (take1 at0 (take1 at0 (take1 at0 (take1 at0 (take1 at0 take0)))))⟩⟩
        · skip
          refine WP.exit <| WP.region <| v0 (S0.move rfl) rfl <| v0 (S0.ari rfl rfl rfl (wrap_i64 (by omega))) rfl <| v0 (S0.assign rfl) rfl <| vE <| ?_  -- roundend
          exact ⟨k + 1, (by first | exact hlt | (dsimp only; exact hlt)), (show M.length - (k + 1) < M.length - k by omega), ⟨⟨rfl, rfl, rfl, rfl, trivial⟩, rfl, rfl⟩, ⟨_, (take1 (atS at0) (take1 (atS at0) (take1 (atS at0) (take1 (atS at0) take0))))⟩⟩
      · skip
        refine WP.exit <| WP.seq <| WP.region <| ?_  -- op t125 := call F27{rivulet/rivuletlaw04.fixed}()
        refine vcd (S1.callF rfl (fixed_spec) take0) rfl ?_
        refine v0 (S0.assign rfl) rfl <| vE <| WP.ret <| ?_  -- ret
        refine Leaves.drop (take1 (atS (atS (atS at0))) take0) ?_
        refine r1 rfl rfl ?_
        exact ⟨rfl, rfl⟩
end Go.Proofs.YtmkgokjfkmbcoaaGreatDoor
/- Door -/
/-
  A world in which Go's two tables of utf8 are laid.
-/
namespace Go.Proofs.YtmkgokjfkmbcoaaGreatDoor
open Go

def u8s (l : List Nat) : Array Value := (l.map fun (n : Nat) => Value.int .u8 n).toArray
def acceptZ : List Nat := [128, 191, 160, 191, 128, 159, 144, 191, 128, 143, 0, 0, 0, 0, 0, 0, 0, 0, 0, 0, 0, 0, 0, 0, 0, 0, 0, 0, 0, 0, 0, 0]
noncomputable def laidWorld (os : Os) : World :=
  let w0 := World.holding Tryz.prog os ⟨#[], #[], []⟩
  { w0 with heap := (w0.heap.modify 1 fun
      | .cells _ t frozen => .cells (u8s acceptZ) t frozen
      | o => o).modify 0 fun
      | .cells _ t frozen => .cells (u8s Go.Pinned.utf8FirstZ) t frozen
      | o => o }
abbrev laidList : List (String × DataW Unit) := [("unicode/utf8.acceptRanges", Rows.laid_unicode_utf8_acceptRanges), ("unicode/utf8.first", Rows.laid_unicode_utf8_first)]
set_option maxRecDepth 100000 in
theorem laidWorld_met (os : Os) (args : Array Value) : laidMetH Tryz.prog laidList ((laidWorld os).forCall (fun _ _ => 0) ⟨#[], args, []⟩).memory :=
  laidMetH_of_parts (laidMet_of_run' 100 (by kernel_rfl) (by kernel_rfl)) (by kernel_rfl)
end Go.Proofs.YtmkgokjfkmbcoaaGreatDoor
