import Derived.Test.YtmkgokjfkmbcoaaGreatDoorK4
import Derived.Test.YtmkgokjfkmbcoaaGreatDoorRows
import Derived.Test.YtmkgokjfkmbcoaaGreatDoorK2
import Derived.ChangeVars
import Derived.JoinedOf
import Derived.LaidLaws
import Derived.LaidHandle
import Derived.SizedLaws
set_option linter.unusedSimpArgs false
set_option linter.unusedVariables false
set_option linter.unnecessarySimpa false
/- L6 -/
namespace Go.Proofs.YtmkgokjfkmbcoaaGreatDoor
open Go

theorem sorted_next {l : List Str} (hs : SortedS l) {i : Nat} {x y : Str} (hx : l[i]? = some x) (hy : l[i + 1]? = some y) : lessS x y = true := by
  obtain ⟨h1, h2⟩ := List.getElem?_eq_some_iff.1 hx
  obtain ⟨h3, h4⟩ := List.getElem?_eq_some_iff.1 hy
  have := List.pairwise_iff_getElem.1 hs i (i + 1) h1 h3 (by omega)
  rwa [h2, h4] at this
set_option maxRecDepth 100000 in
theorem trieAll_walk (W : World) (lv : Value) (hl : ArgF W opK lv) : FN Tryz.prog 9 [lv] [whole W] (fun v h => v = .bool true ∧ h = [whole W]) := by
  obtain ⟨l0, hrl⟩ := argOps hl
  have hll := cutOs_len l0
  have hlx := cutOs_mem (l := l0)
  refine FN.intro 126 [(0, lv)] Tryz.func9 rfl (enters Tryz.func9 (by kernel_rfl) rfl) Tryz.ntmps9 rfl rfl ?_
  refine WP.seq <| WP.region <| v0 (S0.assign rfl) rfl <| vE <| WP.seq <| WP.region <| v0 (S0.move rfl) rfl <| ?_  -- op t16 := call F10{rivulet/rivuletlaw04.Cut}(t15)
  refine vc (S1.callF rfl (cut_spec hrl) (take1 at0 take0)) rfl ?_
  rintro _ _ ⟨row, hs, rfl⟩
  refine app ?_
  generalize cutOs l0 = M at hll hlx hs
  obtain ⟨a, cap, rfl, hcap, hrow⟩ := IsSl.elems (k := 3) enO_len hs
  -- (nothing to walk: op t17 := call F11{rivulet/trie.New}())
  refine vc (S1.callF rfl (new_spec) take0) rfl ?_
  rintro _ _ ⟨tb, c0, rfl, h0, rfl⟩
  refine app ?_
  refine v0 (S0.assign rfl) rfl <| v0 (S0.assign rfl) rfl <| vE <| WP.seq <| WP.seq <| WP.region <| v0 (S0.move rfl) rfl <| v0 (S0.nilP rfl rfl rfl rfl) rfl <| vE <| ?_  -- cond
  refine WP.condFh rfl (rfl) ?_
  refine WP.skip <| WP.seq <| WP.seq <| WP.region <| v0 (S0.assign rfl) rfl <| vE <| WP.block <| ?_  -- Code.loop
  refine WP.loop (fun st : Nat × Asks × List Blk => st.1 ≤ M.length ∧ IsTr tb st.2.1 st.2.2 ∧ AsksOk st.2.1 ∧ AskB st.2.1 st.1 ∧ IdsIn st.2.1 ((M.take st.1).map (·.2.2.1))) (fun st : Nat × Asks × List Blk => [(3, .slice a M.length cap), (4, .pointer (some ⟨tb, 0, none⟩)), (5, .int .i64 (st.1 : Int))]) (fun st : Nat × Asks × List Blk => [st.2.2, row, whole W]) (fun st : Nat × Asks × List Blk => M.length - st.1) ((0, [], c0)) (⟨Nat.zero_le _, h0, AsksOk.nil, AskB.nil 0, by simp [IdsIn]⟩) ⟨rfl, rfl, rfl, trivial⟩ ⟨_, (take1 at0 (take1 at0 (take1 at0 take0)))⟩ (fun st hinv => ?_) 
  obtain ⟨i, L, c⟩ := st
  obtain ⟨hi, hT, hok, hb, hids⟩ := hinv
  dsimp only at hi hT hok hb hids ⊢
  refine WP.seq <| WP.seq <| WP.region <| v0 (S0.move rfl) rfl <| v0 (S0.move rfl) rfl <| v0 (S0.lenSl rfl) rfl <| v0 (S0.cmp rfl rfl rfl) rfl <| vE <| ?_  -- cond
  first | refine WP.condP rfl (fun h1 => ?_) (fun h1 => ?_) | refine WP.condN rfl (fun h1 => ?_) (fun h1 => ?_) | refine WP.cond rfl (fun h1 => ?_) (fun h1 => ?_)
  · skip
    have hlt : i < M.length := by omega
    rcases hrow with ⟨e, -⟩ | ⟨b1, sp1, rfl, rfl, hsp1⟩
    · rw [e] at hlt; simp at hlt
    have hx : M[i]? = some M[i] := by simp [hlt]
    have hxl := hlx _ (List.getElem_mem hlt)
    generalize M[i] = x at hx hxl
    have gA : ((M.flatMap enO ++ sp1).drop (i * 4)).take 4 = enO x := flat_take enO_len sp1 M i _ hx
    have hids' := hids.play x
    rw [show (M.take i).map (·.2.2.1) ++ [x.2.2.1] = (M.take (i + 1)).map (·.2.2.1) by rw [take_one hx]; simp] at hids'
    refine WP.skip <| WP.seq <| WP.block <| WP.region <| v0 (S0.move rfl) rfl <| v0 (S0.move rfl) rfl <| v0 (S0.move rfl) rfl <| ?_  -- op t29 := indexAddr 22 t27 t28
    refine v0 (S0.indexN (k := 4) rfl rfl hlt) rfl <| ?_
    refine v0 (S0.loadA rfl gA rfl) rfl <| ?_
    refine vc (S1.callF rfl (play_spec hT hb (by omega) (by omega)) (take1 at0 take0)) rfl ?_
    rintro _ _ ⟨c', rfl, hT', rfl⟩
    refine app ?_
    refine vE <| WP.region <| v0 (S0.move rfl) rfl <| v0 (S0.ari rfl rfl rfl (wrap_i64 (by omega))) rfl <| v0 (S0.assign rfl) rfl <| vE <| ?_  -- roundend
    exact ⟨(i + 1, playR L x, c'), (by first | exact ⟨hlt, hT', hok.play x, hb.play x, hids'⟩ | (dsimp only; exact ⟨hlt, hT', hok.play x, hb.play x, hids'⟩)), (show M.length - (i + 1) < M.length - i by omega), ⟨⟨rfl, rfl, rfl, trivial⟩, rfl, rfl⟩, ⟨_, (take1 at0 (take1 at0 (take1 at0 take0)))⟩⟩
  · skip
    have ei : i = M.length := by omega
    rw [ei, List.take_length] at hids
    have hbm : AskB L 60 := hb.mono (by omega)
    clear hb h0 ei hi
    have hfl : ∀ f ∈ allK L, filtS f = true ∧ f.length ≤ 200 := fun f hf => by
      obtain ⟨j, n, hm⟩ := mem_allK.1 hf
      have := (hok.filt _ hm).1
      exact ⟨this, filt_len this⟩
    have hal := allK_le hbm
    refine WP.exit <| WP.seq <| WP.region <| v0 (S0.move rfl) rfl <| ?_  -- op t33 := call F18{(*rivulet/trie.Trie).All}(t32)
    refine vc (S1.callF rfl (all_spec hT hbm (by decide)) (take1 at0 take0)) rfl ?_
    rintro av _ ⟨arow, ha, rfl⟩
    refine app ?_
    obtain ⟨aa, ac, rfl, hac, har⟩ := ha.strsE
    refine v0 (S0.assign rfl) rfl <| vE <| WP.seq <| WP.seq <| WP.region <| v0 (S0.assign rfl) rfl <| vE <| WP.block <| ?_  -- Code.loop
    refine WP.loop (fun p : Nat => p ≤ (allK L).length) (fun p : Nat => [(3, .slice a M.length cap), (4, .pointer (some ⟨tb, 0, none⟩)), (6, .slice aa (allK L).length ac), (7, .int .i64 (p : Int))]) (fun p : Nat => [arow, c, row, whole W]) (fun p : Nat => (allK L).length - p) (0) (Nat.zero_le _) ⟨rfl, rfl, rfl, rfl, trivial⟩ ⟨_, (take1 at0 (take1 at0 (take1 at0 (take1 at0 take0))))⟩ (fun p hinv => ?_) 
    refine WP.seq <| WP.seq <| WP.region <| v0 (S0.move rfl) rfl <| v0 (S0.move rfl) rfl <| v0 (S0.lenSl rfl) rfl <| v0 (S0.cmp rfl rfl rfl) rfl <| vE <| ?_  -- cond
    first | refine WP.condP rfl (fun h2 => ?_) (fun h2 => ?_) | refine WP.condN rfl (fun h2 => ?_) (fun h2 => ?_) | refine WP.cond rfl (fun h2 => ?_) (fun h2 => ?_)
    · skip
      have hlp : p < (allK L).length := by omega
      rcases har with ⟨e, -⟩ | ⟨b2, sp2, rfl, rfl, hsp2⟩
      · rw [e] at hlp; simp at hlp
      have hx : (allK L)[p]? = some (allK L)[p] := by simp [hlp]
      have hxm := List.getElem_mem hlp
      generalize (allK L)[p] = f at hx hxm
      have hxf := hfl f hxm
      obtain ⟨who, hwho, hpos⟩ := has_in hok hxm
      have hwm := hwho _ hids
      clear hwho
      refine WP.skip <| WP.seq <| WP.block <| WP.seq <| ?_  -- cut
      refine WP.cutT (fun q : Nat => True) (fun q : Nat => [(3, .slice a M.length cap), (4, .pointer (some ⟨tb, 0, none⟩)), (6, .slice (some ⟨b2, 0, none⟩) (allK L).length ac), (7, .int .i64 (p : Int))]) (fun q : Nat => [[(b2, .cells ⟨strs (allK L) ++ sp2⟩ 9 (0, 0))], c, row, whole W]) ?_ (fun q hinv => ?_)
      · skip
        refine WP.seq <| WP.drawP [(0, none), (1, none), (2, none), (3, none), (4, none), (5, none), (6, none), (7, none), (8, none), (9, none), (10, none), (11, none), (12, none), (13, none), (14, none), (15, none), (16, none), (17, none), (18, none), (19, none), (20, none), (21, none), (22, none)] mixed (by kernel_rfl) (by kernel_rfl) (by kernel_rfl) (take1 at0 take0) <| w0 rfl rfl rfl (S0.move rfl) rfl <| w0 rfl rfl rfl (S0.cmp rfl rfl rfl) rfl <| w0 rfl rfl rfl (S0.move rfl) rfl <| ?_  -- guard t42 (wants True) at t43 := move t6 [if #2=True]
        first | refine wcsP (t := 42) rfl (fun h3 => ?_) (fun h3 => ?_) | refine wcsN (t := 42) rfl (fun h3 => ?_) (fun h3 => ?_) | refine wcs (t := 42) rfl (fun h3 => ?_) (fun h3 => ?_)
        · skip
          obtain ⟨p, rfl⟩ : ∃ p', p = p' + 1 := ⟨p - 1, by omega⟩
          have hlp0 : p < (allK L).length := by omega
          have hy : (allK L)[p]? = some (allK L)[p] := by simp [hlp0]
          have hyl := (hfl _ (List.getElem_mem hlp0)).2
          generalize (allK L)[p] = g at hy hyl
          have hless := sorted_next (allK_sorted L) hy hx
          refine w0 rfl rfl rfl (S0.move rfl) rfl <| w0 rfl rfl rfl (S0.move rfl) rfl <| w0 rfl rfl rfl (S0.ari rfl rfl rfl (wrap_i64 (by omega))) rfl <| ?_  -- op t46 := indexAddr 40 t43 t45 [if #2=True]
          rw [show ((p + 1 : Nat) : Int) - 1 = (p : Int) by omega]
          refine w0 rfl rfl rfl (S0.index1 rfl rfl hlp0) rfl <| ?_
          refine w0 rfl rfl rfl (S0.load rfl (strs_get hy)) rfl <| ?_
          refine w0 rfl rfl rfl (S0.move rfl) rfl <| w0 rfl rfl rfl (S0.move rfl) rfl <| ?_  -- op t50 := indexAddr 40 t48 t49 [if #2=True]
          refine w0 rfl rfl rfl (S0.index1 rfl rfl hlp) rfl <| ?_
          refine w0 rfl rfl rfl (S0.load rfl (strs_get hx)) rfl <| ?_
          refine wcd rfl rfl rfl rfl (S1.callF rfl (rless_spec (show g.length ≤ 100000 by omega) (show f.length ≤ 100000 by omega)) take0) rfl ?_
          rw [hless]
          refine w0 rfl rfl rfl (S0.not rfl) rfl <| w0 rfl rfl rfl (S0.pickT rfl rfl) rfl <| w0 rfl rfl rfl (S0.move rfl) rfl <| ?_  -- guard t55 (wants False) at t56 := move t6 [if #15=False]
          refine wcsFh (t := 55) rfl (rfl) ?_
          refine w0 rfl rfl rfl (S0.move rfl) rfl <| w0 rfl rfl rfl (S0.move rfl) rfl <| ?_  -- op t58 := indexAddr 40 t56 t57 [if #15=False]
          refine w0 rfl rfl rfl (S0.index1 rfl rfl hlp) rfl <| ?_
          refine w0 rfl rfl rfl (S0.load rfl (strs_get hx)) rfl <| ?_
          refine wcd rfl rfl rfl rfl (S1.callF rfl (rfilter_spec (show f.length ≤ 900000 by omega)) take0) rfl ?_
          rw [hxf.1]
          refine w0 rfl rfl rfl (S0.not rfl) rfl <| w0 rfl rfl rfl (S0.pickF rfl rfl) rfl <| wE <| ?_  -- cond
          refine WP.condFh rfl (rfl) ?_
          refine WP.skip <| ?_  -- cutend
          exact ⟨0, (by first | exact trivial | (dsimp only; exact trivial)), ⟨⟨rfl, rfl, rfl, rfl, trivial⟩, rfl, rfl⟩, ⟨_, (take1 at0 (take1 at0 (take1 at0 (take1 at0 take0))))⟩⟩
        · skip
          refine wF rfl rfl rfl rfl <| wF rfl rfl rfl rfl <| wF rfl rfl rfl rfl <| wF rfl rfl rfl rfl <| wF rfl rfl rfl rfl <| wF rfl rfl rfl rfl <| wF rfl rfl rfl rfl <| wF rfl rfl rfl rfl <| wF rfl rfl rfl rfl <| wF rfl rfl rfl rfl <| wF rfl rfl rfl rfl <| w0 rfl rfl rfl (S0.pickF rfl rfl) rfl <| w0 rfl rfl rfl (S0.move rfl) rfl <| w0 rfl rfl rfl (S0.move rfl) rfl <| w0 rfl rfl rfl (S0.move rfl) rfl <| ?_  -- op t58 := indexAddr 40 t56 t57 [if #15=False]
          refine w0 rfl rfl rfl (S0.index1 rfl rfl hlp) rfl <| ?_
          refine w0 rfl rfl rfl (S0.load rfl (strs_get hx)) rfl <| ?_
          refine wcd rfl rfl rfl rfl (S1.callF rfl (rfilter_spec (show f.length ≤ 900000 by omega)) take0) rfl ?_
          rw [hxf.1]
          refine w0 rfl rfl rfl (S0.not rfl) rfl <| w0 rfl rfl rfl (S0.pickF rfl rfl) rfl <| wE <| ?_  -- cond
          refine WP.condFh rfl (rfl) ?_
          refine WP.skip <| ?_  -- cutend
          exact ⟨0, (by first | exact trivial | (dsimp only; exact trivial)), ⟨⟨rfl, rfl, rfl, rfl, trivial⟩, rfl, rfl⟩, ⟨_, (take1 at0 (take1 at0 (take1 at0 (take1 at0 take0))))⟩⟩
      · skip
        clear hinv
        refine WP.seq <| WP.region <| v0 (S0.assign rfl) rfl <| vE <| WP.seq <| WP.seq <| WP.region <| v0 (S0.assign rfl) rfl <| vE <| WP.block <| ?_  -- Code.loop
        refine WP.loop (fun st : Nat × Bool => st.1 ≤ M.length ∧ (st.2 = true ∨ ∀ j y, j < st.1 → M[j]? = some y → hasK L f y.2.2.1 = 0)) (fun st : Nat × Bool => [(3, .slice a M.length cap), (4, .pointer (some ⟨tb, 0, none⟩)), (6, .slice (some ⟨b2, 0, none⟩) (allK L).length ac), (7, .int .i64 (p : Int)), (8, .bool st.2), (9, .int .i64 (st.1 : Int))]) (fun st : Nat × Bool => [[(b2, .cells ⟨strs (allK L) ++ sp2⟩ 9 (0, 0))], c, row, whole W]) (fun st : Nat × Bool => M.length - st.1) ((0, false)) (⟨Nat.zero_le _, .inr fun j y hj => by omega⟩) ⟨rfl, rfl, rfl, rfl, rfl, rfl, trivial⟩ ⟨_, (take1 at0 (take1 at0 (take1 at0 (take1 at0 take0))))⟩ (fun st hinv => ?_) 
        obtain ⟨k, some_⟩ := st
        obtain ⟨hk, hsome⟩ := hinv
        dsimp only at hk hsome ⊢
        refine WP.seq <| WP.seq <| WP.region <| v0 (S0.move rfl) rfl <| v0 (S0.move rfl) rfl <| v0 (S0.lenSl rfl) rfl <| v0 (S0.cmp rfl rfl rfl) rfl <| vE <| ?_  -- cond
        first | refine WP.condP rfl (fun h3 => ?_) (fun h3 => ?_) | refine WP.condN rfl (fun h3 => ?_) (fun h3 => ?_) | refine WP.cond rfl (fun h3 => ?_) (fun h3 => ?_)
        · skip
          have hlt : k < M.length := by omega
          rcases hrow with ⟨e, -⟩ | ⟨b1, sp1, rfl, rfl, hsp1⟩
          · rw [e] at hlt; simp at hlt
          have hy : M[k]? = some M[k] := by simp [hlt]
          generalize M[k] = y at hy
          skip
          refine WP.skip <| WP.seq <| WP.block <| WP.drawP [(0, none), (1, none), (2, none), (3, none), (4, none), (5, none), (6, none), (7, none), (8, none), (9, none), (10, none), (11, none), (12, none), (13, none), (14, none), (15, none)] mixed (by kernel_rfl) (by kernel_rfl) (by kernel_rfl) (take1 at0 (take1 (atS at0) take0)) <| w0 rfl rfl rfl (S0.move rfl) rfl <| w0 rfl rfl rfl (S0.move rfl) rfl <| ?_  -- guard t70 (wants False) at t71 := move t4 [if #1=False]
          first | refine wcsP (t := 70) rfl (fun h4 => ?_) (fun h4 => ?_) | refine wcsN (t := 70) rfl (fun h4 => ?_) (fun h4 => ?_) | refine wcs (t := 70) rfl (fun h4 => ?_) (fun h4 => ?_)
          · skip
            refine wF rfl rfl rfl rfl <| wF rfl rfl rfl rfl <| wF rfl rfl rfl rfl <| wF rfl rfl rfl rfl <| wF rfl rfl rfl rfl <| wF rfl rfl rfl rfl <| wF rfl rfl rfl rfl <| wF rfl rfl rfl rfl <| wF rfl rfl rfl rfl <| wF rfl rfl rfl rfl <| wF rfl rfl rfl rfl <| wF rfl rfl rfl rfl <| w0 rfl rfl rfl (S0.pickT rfl rfl) rfl <| w0 rfl rfl rfl (S0.assign rfl) rfl <| wE <| WP.region <| v0 (S0.move rfl) rfl <| v0 (S0.ari rfl rfl rfl (wrap_i64 (by omega))) rfl <| v0 (S0.assign rfl) rfl <| vE <| ?_  -- roundend
            exact ⟨(k + 1, true), (by first | exact ⟨hlt, .inl rfl⟩ | (dsimp only; exact ⟨hlt, .inl rfl⟩)), (show M.length - (k + 1) < M.length - k by omega), ⟨⟨rfl, rfl, rfl, rfl, rfl, rfl, trivial⟩, rfl, rfl⟩, ⟨_, (take1 at0 (take1 (atS at0) (take1 at0 (take1 at0 take0))))⟩⟩
          · skip
            have hno := hsome.resolve_left (by simpa using h4)
            refine w0 rfl rfl rfl (S0.move rfl) rfl <| w0 rfl rfl rfl (S0.move rfl) rfl <| w0 rfl rfl rfl (S0.move rfl) rfl <| ?_  -- op t74 := indexAddr 40 t72 t73 [if #1=False]
            refine w0 rfl rfl rfl (S0.index1 rfl rfl hlp) rfl <| ?_
            refine w0 rfl rfl rfl (S0.load rfl (strs_get hx)) rfl <| ?_
            refine w0 rfl rfl rfl (S0.move rfl) rfl <| w0 rfl rfl rfl (S0.move rfl) rfl <| ?_  -- op t78 := indexAddr 22 t76 t77 [if #1=False]
            refine w0 rfl rfl rfl (S0.indexN (k := 4) rfl rfl hlt) rfl <| ?_
            refine w0 rfl rfl rfl (S0.fieldAddr rfl) rfl <| ?_  -- limit
            refine w0 rfl rfl rfl (S0.load (v := .int .i64 y.2.2.1) rfl (flat_get enO_len sp1 M k 2 _ hy (by decide))) rfl <| ?_
            refine wcd rfl rfl rfl rfl (S1.callF rfl (has_spec hT (show f.length ≤ 1000 by omega) y.2.2.1) (take1 at0 take0)) rfl ?_
            refine w0 rfl rfl rfl (S0.cmp rfl rfl rfl) rfl <| w0 rfl rfl rfl (S0.pickF rfl rfl) rfl <| w0 rfl rfl rfl (S0.assign rfl) rfl <| wE <| WP.region <| v0 (S0.move rfl) rfl <| v0 (S0.ari rfl rfl rfl (wrap_i64 (by omega))) rfl <| v0 (S0.assign rfl) rfl <| vE <| ?_  -- roundend
            have hst : (decide (0 < hasK L f y.2.2.1) = true ∨ ∀ j z, j < k + 1 → M[j]? = some z → hasK L f z.2.2.1 = 0) := by
              by_cases e : 0 < hasK L f y.2.2.1
              · exact .inl (by simpa using e)
              · have hz := has_nonneg hok f y.2.2.1
                exact .inr (below_at (p := fun _ z => hasK L f z.2.2.1 = 0) hno hy (by omega))
            exact ⟨(k + 1, decide (0 < hasK L f y.2.2.1)), (by first | exact ⟨hlt, hst⟩ | (dsimp only; exact ⟨hlt, hst⟩)), (show M.length - (k + 1) < M.length - k by omega), ⟨⟨rfl, rfl, rfl, rfl, rfl, rfl, trivial⟩, rfl, rfl⟩, ⟨_, (take1 at0 (take1 (atS at0) (take1 at0 (take1 at0 take0))))⟩⟩
        · skip
          have ek : k = M.length := by omega
          have e1 : some_ = true := by
            rcases hsome with h | h
            · exact h
            · exfalso
              obtain ⟨y, hy, e⟩ := List.mem_map.1 hwm
              obtain ⟨j, hj, rfl⟩ := List.getElem_of_mem hy
              have := h j M[j] (by omega) (by simp [hj])
              rw [e] at this; omega
          subst e1
          refine WP.exit <| WP.seq <| WP.region <| v0 (S0.move rfl) rfl <| v0 (S0.not rfl) rfl <| vE <| ?_  -- cond
          refine WP.condFh rfl (rfl) ?_
          refine WP.skip <| WP.region <| v0 (S0.move rfl) rfl <| v0 (S0.ari rfl rfl rfl (wrap_i64 (by omega))) rfl <| v0 (S0.assign rfl) rfl <| vE <| ?_  -- roundend
          exact ⟨p + 1, (by first | exact hlp | (dsimp only; exact hlp)), (show (allK L).length - (p + 1) < (allK L).length - p by omega), ⟨⟨rfl, rfl, rfl, rfl, trivial⟩, rfl, rfl⟩, ⟨_, (take1 at0 (take1 at0 (take1 at0 (take1 at0 take0))))⟩⟩
    · skip
      refine WP.exit <| WP.seq <| WP.seq <| WP.region <| v0 (S0.assign rfl) rfl <| vE <| WP.block <| ?_  -- Code.loop
      refine WP.loop (fun k : Nat => k ≤ M.length) (fun k : Nat => [(3, .slice a M.length cap), (4, .pointer (some ⟨tb, 0, none⟩)), (6, .slice aa (allK L).length ac), (10, .int .i64 (k : Int))]) (fun k : Nat => [arow, c, row, whole W]) (fun k : Nat => M.length - k) (0) (Nat.zero_le _) ⟨rfl, rfl, rfl, rfl, trivial⟩ ⟨_, (take1 at0 (take1 at0 (take1 at0 (take1 at0 take0))))⟩ (fun k hinv => ?_) 
      refine WP.seq <| WP.seq <| WP.region <| v0 (S0.move rfl) rfl <| v0 (S0.move rfl) rfl <| v0 (S0.lenSl rfl) rfl <| v0 (S0.cmp rfl rfl rfl) rfl <| vE <| ?_  -- cond
      first | refine WP.condP rfl (fun h3 => ?_) (fun h3 => ?_) | refine WP.condN rfl (fun h3 => ?_) (fun h3 => ?_) | refine WP.cond rfl (fun h3 => ?_) (fun h3 => ?_)
      · skip
        have hlt : k < M.length := by omega
        have hrow' := hrow
        rcases hrow with ⟨e, -⟩ | ⟨b1, sp1, rfl, rfl, hsp1⟩
        · rw [e] at hlt; simp at hlt
        have hy : M[k]? = some M[k] := by simp [hlt]
        generalize M[k] = y at hy
        refine WP.skip <| WP.seq <| WP.block <| WP.seq <| WP.region <| v0 (S0.move rfl) rfl <| v0 (S0.move rfl) rfl <| v0 (S0.move rfl) rfl <| ?_  -- op t95 := indexAddr 22 t93 t94
        refine v0 (S0.indexN (k := 4) rfl rfl hlt) rfl <| ?_
        refine v0 (S0.fieldAddr rfl) rfl <| ?_  -- limit
        refine v0 (S0.load (v := .int .i64 y.2.2.1) rfl (flat_get enO_len sp1 M k 2 _ hy (by decide))) rfl <| ?_
        refine vc (S1.callF rfl (of_spec hT hbm (by decide) y.2.2.1) (take1 (atS at0) take0)) rfl ?_
        rintro ov _ ⟨orow, ho, rfl⟩
        refine app ?_
        obtain ⟨oa, oc, rfl, hoc, hor⟩ := ho.strsE
        have hol := ofK_le hok hbm y.2.2.1
        have hsub : ∀ f ∈ ofK L y.2.2.1, f ∈ allK L := fun f hf => by
          obtain ⟨n, hm⟩ := mem_ofK.1 hf
          exact mem_allK.2 ⟨_, n, hm⟩
        generalize ofK L y.2.2.1 = O at ho hor hol hsub
        refine v0 (S0.assign rfl) rfl <| vE <| WP.seq <| WP.region <| v0 (S0.assign rfl) rfl <| vE <| WP.block <| ?_  -- Code.loop
        refine WP.loop (fun p : Nat => p ≤ O.length) (fun p : Nat => [(3, .slice (some ⟨b1, 0, none⟩) M.length cap), (4, .pointer (some ⟨tb, 0, none⟩)), (6, .slice aa (allK L).length ac), (10, .int .i64 (k : Int)), (11, .slice oa O.length oc), (12, .int .i64 (p : Int))]) (fun p : Nat => [orow, arow, c, [(b1, .cells ⟨M.flatMap enO ++ sp1⟩ 31 (0, 0))], whole W]) (fun p : Nat => O.length - p) (0) (Nat.zero_le _) ⟨rfl, rfl, rfl, rfl, rfl, rfl, trivial⟩ ⟨_, (take1 at0 (take1 (atS at0) (take1 at0 (take1 at0 (take1 at0 take0)))))⟩ (fun p hinv => ?_) 
        refine WP.seq <| WP.seq <| WP.region <| v0 (S0.move rfl) rfl <| v0 (S0.move rfl) rfl <| v0 (S0.lenSl rfl) rfl <| v0 (S0.cmp rfl rfl rfl) rfl <| vE <| ?_  -- cond
        first | refine WP.condP rfl (fun h4 => ?_) (fun h4 => ?_) | refine WP.condN rfl (fun h4 => ?_) (fun h4 => ?_) | refine WP.cond rfl (fun h4 => ?_) (fun h4 => ?_)
        · skip
          have hlp : p < O.length := by omega
          rcases hor with ⟨e, -⟩ | ⟨b3, sp3, rfl, rfl, hsp3⟩
          · rw [e] at hlp; simp at hlp
          have hx : O[p]? = some O[p] := by simp [hlp]
          have hxm := hsub _ (List.getElem_mem hlp)
          generalize O[p] = f at hx hxm
          refine WP.skip <| WP.seq <| WP.block <| WP.seq <| WP.region <| v0 (S0.assign rfl) rfl <| vE <| WP.seq <| WP.seq <| WP.region <| v0 (S0.assign rfl) rfl <| vE <| WP.block <| ?_  -- Code.loop
          refine WP.loop (fun st : Nat × Bool => st.1 ≤ (allK L).length ∧ (st.2 = true ∨ ∀ j z, j < st.1 → (allK L)[j]? = some z → z ≠ f)) (fun st : Nat × Bool => [(3, .slice (some ⟨b1, 0, none⟩) M.length cap), (4, .pointer (some ⟨tb, 0, none⟩)), (6, .slice aa (allK L).length ac), (10, .int .i64 (k : Int)), (11, .slice (some ⟨b3, 0, none⟩) O.length oc), (12, .int .i64 (p : Int)), (13, .bool st.2), (14, .int .i64 (st.1 : Int))]) (fun st : Nat × Bool => [[(b3, .cells ⟨strs O ++ sp3⟩ 9 (0, 0))], arow, c, [(b1, .cells ⟨M.flatMap enO ++ sp1⟩ 31 (0, 0))], whole W]) (fun st : Nat × Bool => (allK L).length - st.1) ((0, false)) (⟨Nat.zero_le _, .inr fun j z hj => by omega⟩) ⟨rfl, rfl, rfl, rfl, rfl, rfl, rfl, rfl, trivial⟩ ⟨_, (take1 at0 (take1 at0 (take1 at0 (take1 at0 (take1 at0 take0)))))⟩ (fun st hinv => ?_) 
          obtain ⟨j, in_⟩ := st
          obtain ⟨hj, hin⟩ := hinv
          dsimp only at hj hin ⊢
          refine WP.seq <| WP.seq <| WP.region <| v0 (S0.move rfl) rfl <| v0 (S0.move rfl) rfl <| v0 (S0.lenSl rfl) rfl <| v0 (S0.cmp rfl rfl rfl) rfl <| vE <| ?_  -- cond
          first | refine WP.condP rfl (fun h5 => ?_) (fun h5 => ?_) | refine WP.condN rfl (fun h5 => ?_) (fun h5 => ?_) | refine WP.cond rfl (fun h5 => ?_) (fun h5 => ?_)
          · skip
            have hlj : j < (allK L).length := by omega
            rcases har with ⟨e, -⟩ | ⟨b2, sp2, rfl, rfl, hsp2⟩
            · rw [e] at hlj; simp at hlj
            have hz : (allK L)[j]? = some (allK L)[j] := by simp [hlj]
            generalize (allK L)[j] = z at hz
            skip
            refine WP.skip <| WP.seq <| WP.block <| WP.drawP [(0, none), (1, none), (2, none), (3, none), (4, none), (5, none), (6, none), (7, none), (8, none), (9, none), (10, none), (11, none), (12, none)] mixed (by kernel_rfl) (by kernel_rfl) (by kernel_rfl) (take1 at0 (take1 at0 take0)) <| w0 rfl rfl rfl (S0.move rfl) rfl <| w0 rfl rfl rfl (S0.move rfl) rfl <| ?_  -- guard t112 (wants False) at t113 := move t6 [if #1=False]
            first | refine wcsP (t := 112) rfl (fun h6 => ?_) (fun h6 => ?_) | refine wcsN (t := 112) rfl (fun h6 => ?_) (fun h6 => ?_) | refine wcs (t := 112) rfl (fun h6 => ?_) (fun h6 => ?_)
            · skip
              refine wF rfl rfl rfl rfl <| wF rfl rfl rfl rfl <| wF rfl rfl rfl rfl <| wF rfl rfl rfl rfl <| wF rfl rfl rfl rfl <| wF rfl rfl rfl rfl <| wF rfl rfl rfl rfl <| wF rfl rfl rfl rfl <| wF rfl rfl rfl rfl <| w0 rfl rfl rfl (S0.pickT rfl rfl) rfl <| w0 rfl rfl rfl (S0.assign rfl) rfl <| wE <| WP.region <| v0 (S0.move rfl) rfl <| v0 (S0.ari rfl rfl rfl (wrap_i64 (by omega))) rfl <| v0 (S0.assign rfl) rfl <| vE <| ?_  -- roundend
              exact ⟨(j + 1, true), (by first | exact ⟨hlj, .inl rfl⟩ | (dsimp only; exact ⟨hlj, .inl rfl⟩)), (show (allK L).length - (j + 1) < (allK L).length - j by omega), ⟨⟨rfl, rfl, rfl, rfl, rfl, rfl, rfl, rfl, trivial⟩, rfl, rfl⟩, ⟨_, (take1 at0 (take1 at0 (take1 at0 (take1 at0 (take1 at0 take0)))))⟩⟩
            · skip
              have hno := hin.resolve_left (by simpa using h6)
              refine w0 rfl rfl rfl (S0.move rfl) rfl <| w0 rfl rfl rfl (S0.move rfl) rfl <| ?_  -- op t115 := indexAddr 40 t113 t114 [if #1=False]
              refine w0 rfl rfl rfl (S0.index1 rfl rfl hlj) rfl <| ?_
              refine w0 rfl rfl rfl (S0.load rfl (strs_get hz)) rfl <| ?_
              refine w0 rfl rfl rfl (S0.move rfl) rfl <| w0 rfl rfl rfl (S0.move rfl) rfl <| ?_  -- op t119 := indexAddr 40 t117 t118 [if #1=False]
              refine w0 rfl rfl rfl (S0.index1 rfl rfl hlp) rfl <| ?_
              refine w0 rfl rfl rfl (S0.load rfl (strs_get hx)) rfl <| ?_
              refine w0 rfl rfl rfl (S0.cmpS rfl rfl rfl) rfl <| w0 rfl rfl rfl (S0.pickF rfl rfl) rfl <| w0 rfl rfl rfl (S0.assign rfl) rfl <| wE <| WP.region <| v0 (S0.move rfl) rfl <| v0 (S0.ari rfl rfl rfl (wrap_i64 (by omega))) rfl <| v0 (S0.assign rfl) rfl <| vE <| ?_  -- roundend
              have hst : (decide (z = f) = true ∨ ∀ j' z', j' < j + 1 → (allK L)[j']? = some z' → z' ≠ f) := by
                by_cases e : z = f
                · exact .inl (by simpa using e)
                · exact .inr (below_at (p := fun _ z => z ≠ f) hno hz e)
              exact ⟨(j + 1, decide (z = f)), (by first | exact ⟨hlj, hst⟩ | (dsimp only; exact ⟨hlj, hst⟩)), (show (allK L).length - (j + 1) < (allK L).length - j by omega), ⟨⟨rfl, rfl, rfl, rfl, rfl, rfl, rfl, rfl, trivial⟩, rfl, rfl⟩, ⟨_, (take1 at0 (take1 at0 (take1 at0 (take1 at0 (take1 at0 take0)))))⟩⟩
          · skip
            have e1 : in_ = true := by
              rcases hin with h | h
              · exact h
              · exfalso
                obtain ⟨q, hq, e⟩ := List.getElem_of_mem hxm
                exact h q _ (by omega) (by simp [hq]) e
            subst e1
            refine WP.exit <| WP.seq <| WP.region <| v0 (S0.move rfl) rfl <| v0 (S0.not rfl) rfl <| vE <| ?_  -- cond
            refine WP.condFh rfl (rfl) ?_
            refine WP.skip <| WP.region <| v0 (S0.move rfl) rfl <| v0 (S0.ari rfl rfl rfl (wrap_i64 (by omega))) rfl <| v0 (S0.assign rfl) rfl <| vE <| ?_  -- roundend
            exact ⟨p + 1, (by first | exact hlp | (dsimp only; exact hlp)), (show O.length - (p + 1) < O.length - p by omega), ⟨⟨rfl, rfl, rfl, rfl, rfl, rfl, trivial⟩, rfl, rfl⟩, ⟨_, (take1 at0 (take1 at0 (take1 at0 (take1 at0 (take1 at0 take0)))))⟩⟩
        · skip
          refine WP.exit <| WP.region <| v0 (S0.move rfl) rfl <| v0 (S0.ari rfl rfl rfl (wrap_i64 (by omega))) rfl <| v0 (S0.assign rfl) rfl <| vE <| ?_  -- roundend
          exact ⟨k + 1, (by first | exact hlt | (dsimp only; exact hlt)), (show M.length - (k + 1) < M.length - k by omega), ⟨⟨rfl, rfl, rfl, rfl, trivial⟩, rfl, rfl⟩, ⟨_, (take1 (atS at0) (take1 (atS at0) (take1 (atS at0) (take1 (atS at0) take0))))⟩⟩
      · skip
        refine WP.exit <| WP.seq <| WP.region <| ?_  -- op t125 := call F27{rivulet/rivuletlaw04.fixed}()
        refine vcd (S1.callF rfl (fixed_spec) take0) rfl ?_
        refine v0 (S0.assign rfl) rfl <| vE <| WP.ret <| ?_  -- ret
        refine Leaves.drop (take1 (atS (atS (atS at0))) take0) ?_
        refine r1 rfl rfl ?_
        exact ⟨rfl, rfl⟩
end Go.Proofs.YtmkgokjfkmbcoaaGreatDoor
/- L7 -/
namespace Go.Proofs.YtmkgokjfkmbcoaaGreatDoor
open Go

theorem rising_next {l : List Int} (hs : Rising l) {i : Nat} {x y : Int} (hx : l[i]? = some x) (hy : l[i + 1]? = some y) : x < y := by
  obtain ⟨h1, h2⟩ := List.getElem?_eq_some_iff.1 hx
  obtain ⟨h3, h4⟩ := List.getElem?_eq_some_iff.1 hy
  have := List.pairwise_iff_getElem.1 hs i (i + 1) h1 h3 (by omega)
  rwa [h2, h4] at this
theorem any_take {α : Type} {l : List α} {k : Nat} {x : α} (h : l[k]? = some x) (p : α → Bool) : (l.take (k + 1)).any p = ((l.take k).any p || p x) := by
  rw [take_one h, List.any_append]; simp
theorem want_has (L : Asks) (s : Str) (id : Int) : ((ofK L id).any fun f => matchS f s) = (idsK L s).any fun x => decide (x = id) := by
  rw [Bool.eq_iff_iff, List.any_eq_true, List.any_eq_true]
  constructor
  · rintro ⟨f, hf, hm⟩
    obtain ⟨n, hmem⟩ := mem_ofK.1 hf
    exact ⟨id, mem_idsK.2 ⟨_, hmem, rfl, hm⟩, by simp⟩
  · rintro ⟨x, hx, e⟩
    have e : x = id := by simpa using e
    obtain ⟨y, hy, e2, hm⟩ := mem_idsK.1 hx
    refine ⟨y.1, mem_ofK.2 ⟨y.2.2, ?_⟩, hm⟩
    rw [← e, ← e2]; exact hy
set_option maxRecDepth 100000 in
theorem trieMatches_walk (W : World) (lv : Value) (hl : ArgF W opK lv) (s0 : Str) (hs0 : s0.length ≤ maxLen) : FN Tryz.prog 4 [lv, sv s0] [whole W] (fun v h => v = .bool true ∧ h = [whole W]) := by
  obtain ⟨l0, hrl⟩ := argOps hl
  have hll := cutOs_len l0
  have hlx := cutOs_mem (l := l0)
  refine FN.intro 123 [(0, lv), (1, sv s0)] Tryz.func4 rfl (enters Tryz.func4 (by kernel_rfl) rfl) Tryz.ntmps4 rfl rfl ?_
  refine WP.seq <| WP.region <| v0 (S0.assign rfl) rfl <| vE <| WP.seq <| WP.region <| v0 (S0.move rfl) rfl <| ?_  -- op t17 := call F10{rivulet/rivuletlaw04.Cut}(t16)
  refine vc (S1.callF rfl (cut_spec hrl) (take1 at0 take0)) rfl ?_
  rintro _ _ ⟨row, hs, rfl⟩
  refine app ?_
  generalize cutOs l0 = M at hll hlx hs
  obtain ⟨a, cap, rfl, hcap, hrow⟩ := IsSl.elems (k := 3) enO_len hs
  -- (nothing to walk: op t18 := call F11{rivulet/trie.New}())
  refine vc (S1.callF rfl (new_spec) take0) rfl ?_
  rintro _ _ ⟨tb, c0, rfl, h0, rfl⟩
  refine app ?_
  refine v0 (S0.assign rfl) rfl <| v0 (S0.assign rfl) rfl <| vE <| WP.seq <| WP.region <| v0 (S0.move rfl) rfl <| v0 (S0.move rfl) rfl <| v0 (S0.lenSt rfl) rfl <| v0 (S0.min2 rfl rfl rfl) rfl <| ?_  -- op t23 := slice 9 t19 none t22 none
  rw [min150]
  refine v0 (S0.sliceSt (i := 0) (j := min s0.length 150) rfl rfl rfl ⟨Nat.zero_le _, by omega⟩) rfl <| ?_
  rw [take_min150]
  have hsl : (s0.take 150).length ≤ 1000 := by rw [List.length_take]; omega
  generalize s0.take 150 = s at hsl
  refine v0 (S0.assign rfl) rfl <| vE <| WP.seq <| WP.seq <| WP.region <| v0 (S0.move rfl) rfl <| v0 (S0.nilP rfl rfl rfl rfl) rfl <| vE <| ?_  -- cond
  refine WP.condFh rfl (rfl) ?_
  refine WP.skip <| WP.seq <| WP.seq <| WP.region <| v0 (S0.assign rfl) rfl <| vE <| WP.block <| ?_  -- Code.loop
  refine WP.loop (fun st : Nat × Asks × List Blk => st.1 ≤ M.length ∧ IsTr tb st.2.1 st.2.2 ∧ AsksOk st.2.1 ∧ AskB st.2.1 st.1 ∧ IdsIn st.2.1 ((M.take st.1).map (·.2.2.1))) (fun st : Nat × Asks × List Blk => [(5, .slice a M.length cap), (6, .pointer (some ⟨tb, 0, none⟩)), (7, .int .i64 (st.1 : Int)), (1, sv s)]) (fun st : Nat × Asks × List Blk => [st.2.2, row, whole W]) (fun st : Nat × Asks × List Blk => M.length - st.1) ((0, [], c0)) (⟨Nat.zero_le _, h0, AsksOk.nil, AskB.nil 0, by simp [IdsIn]⟩) ⟨rfl, rfl, rfl, rfl, trivial⟩ ⟨_, (take1 at0 (take1 at0 (take1 at0 take0)))⟩ (fun st hinv => ?_) 
  obtain ⟨i, L, c⟩ := st
  obtain ⟨hi, hT, hok, hb, hids⟩ := hinv
  dsimp only at hi hT hok hb hids ⊢
  refine WP.seq <| WP.seq <| WP.region <| v0 (S0.move rfl) rfl <| v0 (S0.move rfl) rfl <| v0 (S0.lenSl rfl) rfl <| v0 (S0.cmp rfl rfl rfl) rfl <| vE <| ?_  -- cond
  first | refine WP.condP rfl (fun h1 => ?_) (fun h1 => ?_) | refine WP.condN rfl (fun h1 => ?_) (fun h1 => ?_) | refine WP.cond rfl (fun h1 => ?_) (fun h1 => ?_)
  · skip
    have hlt : i < M.length := by omega
    rcases hrow with ⟨e, -⟩ | ⟨b1, sp1, rfl, rfl, hsp1⟩
    · rw [e] at hlt; simp at hlt
    have hx : M[i]? = some M[i] := by simp [hlt]
    have hxl := hlx _ (List.getElem_mem hlt)
    generalize M[i] = x at hx hxl
    have gA : ((M.flatMap enO ++ sp1).drop (i * 4)).take 4 = enO x := flat_take enO_len sp1 M i _ hx
    have hids' := hids.play x
    rw [show (M.take i).map (·.2.2.1) ++ [x.2.2.1] = (M.take (i + 1)).map (·.2.2.1) by rw [take_one hx]; simp] at hids'
    refine WP.skip <| WP.seq <| WP.block <| WP.region <| v0 (S0.move rfl) rfl <| v0 (S0.move rfl) rfl <| v0 (S0.move rfl) rfl <| ?_  -- op t35 := indexAddr 22 t33 t34
    refine v0 (S0.indexN (k := 4) rfl rfl hlt) rfl <| ?_
    refine v0 (S0.loadA rfl gA rfl) rfl <| ?_
    refine vc (S1.callF rfl (play_spec hT hb (by omega) (by omega)) (take1 at0 take0)) rfl ?_
    rintro _ _ ⟨c', rfl, hT', rfl⟩
    refine app ?_
    refine vE <| WP.region <| v0 (S0.move rfl) rfl <| v0 (S0.ari rfl rfl rfl (wrap_i64 (by omega))) rfl <| v0 (S0.assign rfl) rfl <| vE <| ?_  -- roundend
    exact ⟨(i + 1, playR L x, c'), (by first | exact ⟨hlt, hT', hok.play x, hb.play x, hids'⟩ | (dsimp only; exact ⟨hlt, hT', hok.play x, hb.play x, hids'⟩)), (show M.length - (i + 1) < M.length - i by omega), ⟨⟨rfl, rfl, rfl, rfl, trivial⟩, rfl, rfl⟩, ⟨_, (take1 at0 (take1 at0 (take1 at0 take0)))⟩⟩
  · skip
    have ei : i = M.length := by omega
    rw [ei, List.take_length] at hids
    have hbm : AskB L 60 := hb.mono (by omega)
    clear hb h0 ei hi
    have hil := idsK_le hbm s
    refine WP.exit <| WP.seq <| WP.region <| v0 (S0.move rfl) rfl <| v0 (S0.move rfl) rfl <| ?_  -- op t40 := call F17{(*rivulet/trie.Trie).Match}(t38, t39)
    refine vc (S1.callF rfl (match_spec0 hT hbm (by decide) (s := s) hsl) (take1 at0 take0)) rfl ?_
    rintro mv _ ⟨mrow, hm, rfl⟩
    refine app ?_
    obtain ⟨ma, mc, rfl, hmc, hmr⟩ := hm.intsE
    refine v0 (S0.assign rfl) rfl <| vE <| WP.seq <| WP.seq <| WP.region <| v0 (S0.assign rfl) rfl <| vE <| WP.block <| ?_  -- Code.loop
    refine WP.loop (fun n : Nat => n ≤ 6) (fun n : Nat => [(1, sv s), (6, .pointer (some ⟨tb, 0, none⟩)), (8, .slice ma (idsK L s).length mc), (9, .int .i64 (n : Int))]) (fun n : Nat => [mrow, c, whole W]) (fun n : Nat => 6 - n) (0) (Nat.zero_le _) ⟨rfl, rfl, rfl, rfl, trivial⟩ ⟨_, (take1 at0 (take1 at0 (take1 (atS at0) take0)))⟩ (fun n hinv => ?_) 
    refine WP.seq <| WP.seq <| WP.region <| v0 (S0.move rfl) rfl <| v0 (S0.cmp rfl rfl rfl) rfl <| vE <| ?_  -- cond
    first | refine WP.condP rfl (fun h2 => ?_) (fun h2 => ?_) | refine WP.condN rfl (fun h2 => ?_) (fun h2 => ?_) | refine WP.cond rfl (fun h2 => ?_) (fun h2 => ?_)
    · skip
      have hlt : n < 6 := by omega
      refine WP.skip <| WP.seq <| WP.block <| WP.seq <| WP.region <| v0 (S0.assign rfl) rfl <| v0 (S0.assign rfl) rfl <| vE <| WP.seq <| WP.region <| v0 (S0.move rfl) rfl <| v0 (S0.move rfl) rfl <| ?_  -- op t47 := call F23{(*rivulet/trie.Trie).Of}(t45, t46)
      refine vc (S1.callF rfl (of_spec hT hbm (by decide) (n : Int)) (take1 (atS at0) take0)) rfl ?_
      rintro ov _ ⟨orow, ho, rfl⟩
      refine app ?_
      obtain ⟨oa, oc, rfl, hoc, hor⟩ := ho.strsE
      have hol := ofK_le hok hbm (n : Int)
      have hof : ∀ f ∈ ofK L (n : Int), f.length ≤ 200 ∧ 0 < hasK L f (n : Int) := fun f hf => by
        obtain ⟨m, hmm⟩ := mem_ofK.1 hf
        have h1 := filt_len (hok.filt _ hmm).1
        have h2 := hok.pos _ hmm
        have h3 := has_mem hok hmm
        simp only at h1 h2
        exact ⟨h1, by omega⟩
      have hos := ofK_sorted L (n : Int)
      have hwh := want_has L s (n : Int)
      generalize ofK L (n : Int) = O at ho hor hol hof hos hwh
      refine v0 (S0.assign rfl) rfl <| vE <| WP.seq <| WP.seq <| WP.region <| v0 (S0.assign rfl) rfl <| vE <| WP.block <| ?_  -- Code.loop
      refine WP.loop (fun k : Nat => k ≤ O.length) (fun k : Nat => [(1, sv s), (6, .pointer (some ⟨tb, 0, none⟩)), (8, .slice ma (idsK L s).length mc), (9, .int .i64 (n : Int)), (10, .bool ((O.take k).any fun f => matchS f s)), (11, .bool false), (12, .slice oa O.length oc), (13, .int .i64 (k : Int))]) (fun k : Nat => [orow, c, mrow, whole W]) (fun k : Nat => O.length - k) (0) (Nat.zero_le _) ⟨rfl, rfl, rfl, rfl, rfl, rfl, rfl, rfl, trivial⟩ ⟨_, (take1 at0 (take1 at0 (take1 at0 (take1 at0 take0))))⟩ (fun k hinv => ?_) 
      refine WP.seq <| WP.seq <| WP.region <| v0 (S0.move rfl) rfl <| v0 (S0.move rfl) rfl <| v0 (S0.lenSl rfl) rfl <| v0 (S0.cmp rfl rfl rfl) rfl <| vE <| ?_  -- cond
      first | refine WP.condP rfl (fun h3 => ?_) (fun h3 => ?_) | refine WP.condN rfl (fun h3 => ?_) (fun h3 => ?_) | refine WP.cond rfl (fun h3 => ?_) (fun h3 => ?_)
      · skip
        have hlk : k < O.length := by omega
        rcases hor with ⟨e, -⟩ | ⟨b2, sp2, rfl, rfl, hsp2⟩
        · rw [e] at hlk; simp at hlk
        have hx : O[k]? = some O[k] := by simp [hlk]
        have hxf := hof _ (List.getElem_mem hlk)
        generalize O[k] = f at hx hxf
        have hat := any_take hx (fun f => matchS f s)
        refine WP.skip <| WP.seq <| WP.block <| ?_  -- cut
        refine WP.cutS (fun q : Nat => True) (fun q : Nat => [(1, sv s), (6, .pointer (some ⟨tb, 0, none⟩)), (8, .slice ma (idsK L s).length mc), (9, .int .i64 (n : Int)), (10, .bool ((O.take (k + 1)).any fun f => matchS f s)), (11, .bool false), (12, .slice (some ⟨b2, 0, none⟩) O.length oc), (13, .int .i64 (k : Int))]) (fun q : Nat => [[(b2, .cells ⟨strs O ++ sp2⟩ 9 (0, 0))], c, mrow, whole W]) ?_ (fun q hinv => ?_)
        · refine WP.region <| v0 (S0.move rfl) rfl <| v0 (S0.move rfl) rfl <| ?_  -- guard t55 (wants False) at t56 := move t12 [if #1=False]
          first | refine csP (t := 55) rfl (fun h4 => ?_) (fun h4 => ?_) | refine csN (t := 55) rfl (fun h4 => ?_) (fun h4 => ?_) | refine cs (t := 55) rfl (fun h4 => ?_) (fun h4 => ?_)
          · skip
            rw [show ((O.take (k + 1)).any fun f => matchS f s) = true by rw [hat, h4]; rfl]
            refine gF rfl rfl <| gF rfl rfl <| gF rfl rfl <| gF rfl rfl <| gF rfl rfl <| gF rfl rfl <| v0 (S0.pickT rfl rfl) rfl <| v0 (S0.assign rfl) rfl <| vE <| ?_  -- cutend
            exact ⟨0, (by first | exact trivial | (dsimp only; exact trivial)), ⟨⟨rfl, rfl, rfl, rfl, rfl, rfl, rfl, rfl, trivial⟩, rfl, rfl⟩, ⟨_, (take1 at0 (take1 at0 (take1 at0 (take1 at0 take0))))⟩⟩
          · skip
            rw [show ((O.take (k + 1)).any fun f => matchS f s) = matchS f s by rw [hat, h4]; rfl]
            refine gT rfl <| v0 (S0.move rfl) rfl <| gT rfl <| v0 (S0.move rfl) rfl <| ?_  -- op t58 := indexAddr 40 t56 t57 [if #1=False]
            refine gT rfl <| v0 (S0.index1 rfl rfl hlk) rfl <| ?_
            refine gT rfl <| v0 (S0.load rfl (strs_get hx)) rfl <| ?_
            refine gT rfl <| v0 (S0.move rfl) rfl <| ?_  -- op t61 := call F28{rivulet/rivuletref03.Match}(t59, t60) [if #1=False]
            refine gT rfl <| vcd (S1.callF rfl (rmatch_spec (show f.length ≤ 800000 by omega) (show s.length ≤ 800000 by omega)) take0) rfl ?_
            refine v0 (S0.pickF rfl rfl) rfl <| v0 (S0.assign rfl) rfl <| vE <| ?_  -- cutend
            exact ⟨0, (by first | exact trivial | (dsimp only; exact trivial)), ⟨⟨rfl, rfl, rfl, rfl, rfl, rfl, rfl, rfl, trivial⟩, rfl, rfl⟩, ⟨_, (take1 at0 (take1 at0 (take1 at0 (take1 at0 take0))))⟩⟩
        · skip
          clear hinv
          skip
          refine WP.seq <| WP.drawP [(0, none), (1, none), (2, none), (3, none), (4, none), (5, none), (6, none), (7, none), (8, none), (9, none), (10, none), (11, none), (12, none), (13, none), (14, none), (15, none), (16, none), (17, none), (18, none), (19, none), (20, none), (21, none), (22, none), (23, none), (24, none)] mixed (by kernel_rfl) (by kernel_rfl) (by kernel_rfl) (take1 at0 take0) <| w0 rfl rfl rfl (S0.move rfl) rfl <| w0 rfl rfl rfl (S0.move rfl) rfl <| w0 rfl rfl rfl (S0.move rfl) rfl <| ?_  -- op t66 := indexAddr 40 t64 t65
          refine w0 rfl rfl rfl (S0.index1 rfl rfl hlk) rfl <| ?_
          refine w0 rfl rfl rfl (S0.load rfl (strs_get hx)) rfl <| ?_
          refine w0 rfl rfl rfl (S0.move rfl) rfl <| ?_  -- op t69 := call F25{(*rivulet/trie.Trie).Has}(t63, t67, t68)
          refine wcd rfl rfl rfl rfl (S1.callF rfl (has_spec hT (show f.length ≤ 1000 by omega) (n : Int)) (take1 at0 take0)) rfl ?_
          refine w0 rfl rfl rfl (S0.cmp rfl rfl rfl) rfl <| w0 rfl rfl rfl (S0.move rfl) rfl <| ?_  -- guard t71 (wants False) at t72 := move t13 [if #8=False]
          refine wcsFh (t := 71) rfl ((decide_eq_false (by omega))) ?_
          refine w0 rfl rfl rfl (S0.move rfl) rfl <| w0 rfl rfl rfl (S0.cmp rfl rfl rfl) rfl <| w0 rfl rfl rfl (S0.move rfl) rfl <| ?_  -- guard t74 (wants True) at t75 := move t12 [if #11=True]
          first | refine wcsP (t := 74) rfl (fun h5 => ?_) (fun h5 => ?_) | refine wcsN (t := 74) rfl (fun h5 => ?_) (fun h5 => ?_) | refine wcs (t := 74) rfl (fun h5 => ?_) (fun h5 => ?_)
          · skip
            obtain ⟨k, rfl⟩ : ∃ k', k = k' + 1 := ⟨k - 1, by omega⟩
            have hlk0 : k < O.length := by omega
            have hy : O[k]? = some O[k] := by simp [hlk0]
            have hyl := (hof _ (List.getElem_mem hlk0)).1
            generalize O[k] = g at hy hyl
            have hless := sorted_next hos hy hx
            refine w0 rfl rfl rfl (S0.move rfl) rfl <| w0 rfl rfl rfl (S0.move rfl) rfl <| w0 rfl rfl rfl (S0.ari rfl rfl rfl (wrap_i64 (by omega))) rfl <| ?_  -- op t78 := indexAddr 40 t75 t77 [if #11=True]
            rw [show ((k + 1 : Nat) : Int) - 1 = (k : Int) by omega]
            refine w0 rfl rfl rfl (S0.index1 rfl rfl hlk0) rfl <| ?_
            refine w0 rfl rfl rfl (S0.load rfl (strs_get hy)) rfl <| ?_
            refine w0 rfl rfl rfl (S0.move rfl) rfl <| w0 rfl rfl rfl (S0.move rfl) rfl <| ?_  -- op t82 := indexAddr 40 t80 t81 [if #11=True]
            refine w0 rfl rfl rfl (S0.index1 rfl rfl hlk) rfl <| ?_
            refine w0 rfl rfl rfl (S0.load rfl (strs_get hx)) rfl <| ?_
            refine wcd rfl rfl rfl rfl (S1.callF rfl (rless_spec (show g.length ≤ 100000 by omega) (show f.length ≤ 100000 by omega)) take0) rfl ?_
            rw [hless]
            refine w0 rfl rfl rfl (S0.not rfl) rfl <| w0 rfl rfl rfl (S0.pickT rfl rfl) rfl <| w0 rfl rfl rfl (S0.pickF rfl rfl) rfl <| wE <| ?_  -- cond
            refine WP.condFh rfl (rfl) ?_
            refine WP.skip <| WP.region <| v0 (S0.move rfl) rfl <| v0 (S0.ari rfl rfl rfl (wrap_i64 (by omega))) rfl <| v0 (S0.assign rfl) rfl <| vE <| ?_  -- roundend
            exact ⟨k + 1 + 1, (by first | exact hlk | (dsimp only; exact hlk)), (show O.length - (k + 1 + 1) < O.length - (k + 1) by omega), ⟨⟨rfl, rfl, rfl, rfl, rfl, rfl, rfl, rfl, trivial⟩, rfl, rfl⟩, ⟨_, (take1 at0 (take1 at0 (take1 at0 (take1 at0 take0))))⟩⟩
          · skip
            refine wF rfl rfl rfl rfl <| wF rfl rfl rfl rfl <| wF rfl rfl rfl rfl <| wF rfl rfl rfl rfl <| wF rfl rfl rfl rfl <| wF rfl rfl rfl rfl <| wF rfl rfl rfl rfl <| wF rfl rfl rfl rfl <| wF rfl rfl rfl rfl <| wF rfl rfl rfl rfl <| wF rfl rfl rfl rfl <| w0 rfl rfl rfl (S0.pickF rfl rfl) rfl <| w0 rfl rfl rfl (S0.pickF rfl rfl) rfl <| wE <| WP.condF rfl <| WP.skip <| WP.region <| v0 (S0.move rfl) rfl <| v0 (S0.ari rfl rfl rfl (wrap_i64 (by omega))) rfl <| v0 (S0.assign rfl) rfl <| vE <| ?_  -- roundend
            exact ⟨k + 1, (by first | exact hlk | (dsimp only; exact hlk)), (show O.length - (k + 1) < O.length - k by omega), ⟨⟨rfl, rfl, rfl, rfl, rfl, rfl, rfl, rfl, trivial⟩, rfl, rfl⟩, ⟨_, (take1 at0 (take1 at0 (take1 at0 (take1 at0 take0))))⟩⟩
      · skip
        have ek : k = O.length := by omega
        rw [ek, List.take_length]
        refine WP.exit <| WP.seq <| WP.seq <| WP.region <| v0 (S0.assign rfl) rfl <| vE <| WP.block <| ?_  -- Code.loop
        refine WP.loop (fun j : Nat => j ≤ (idsK L s).length) (fun j : Nat => [(1, sv s), (6, .pointer (some ⟨tb, 0, none⟩)), (8, .slice ma (idsK L s).length mc), (9, .int .i64 (n : Int)), (10, .bool (O.any fun f => matchS f s)), (11, .bool (((idsK L s).take j).any fun x => decide (x = (n : Int)))), (14, .int .i64 (j : Int))]) (fun j : Nat => [c, mrow, whole W]) (fun j : Nat => (idsK L s).length - j) (0) (Nat.zero_le _) ⟨rfl, rfl, rfl, rfl, rfl, rfl, rfl, trivial⟩ ⟨_, (take1 (atS at0) (take1 (atS at0) (take1 (atS at0) take0)))⟩ (fun j hinv => ?_) 
        refine WP.seq <| WP.seq <| WP.region <| v0 (S0.move rfl) rfl <| v0 (S0.move rfl) rfl <| v0 (S0.lenSl rfl) rfl <| v0 (S0.cmp rfl rfl rfl) rfl <| vE <| ?_  -- cond
        first | refine WP.condP rfl (fun h4 => ?_) (fun h4 => ?_) | refine WP.condN rfl (fun h4 => ?_) (fun h4 => ?_) | refine WP.cond rfl (fun h4 => ?_) (fun h4 => ?_)
        · skip
          have hlj : j < (idsK L s).length := by omega
          rcases hmr with ⟨e, -⟩ | ⟨b3, sp3, rfl, rfl, hsp3⟩
          · rw [e] at hlj; simp at hlj
          have hy : (idsK L s)[j]? = some (idsK L s)[j] := by simp [hlj]
          generalize (idsK L s)[j] = y at hy
          have hat := any_take hy (fun x => decide (x = (n : Int)))
          refine WP.skip <| WP.seq <| WP.block <| WP.region <| v0 (S0.move rfl) rfl <| v0 (S0.move rfl) rfl <| ?_  -- guard t95 (wants False) at t96 := move t8 [if #1=False]
          first | refine csP (t := 95) rfl (fun h5 => ?_) (fun h5 => ?_) | refine csN (t := 95) rfl (fun h5 => ?_) (fun h5 => ?_) | refine cs (t := 95) rfl (fun h5 => ?_) (fun h5 => ?_)
          · skip
            have e2 : (((idsK L s).take (j + 1)).any fun x => decide (x = (n : Int))) = true := by rw [hat, h5]; rfl
            refine gF rfl rfl <| gF rfl rfl <| gF rfl rfl <| gF rfl rfl <| gF rfl rfl <| gF rfl rfl <| v0 (S0.pickT rfl rfl) rfl <| v0 (S0.assign rfl) rfl <| vE <| WP.region <| v0 (S0.move rfl) rfl <| v0 (S0.ari rfl rfl rfl (wrap_i64 (by omega))) rfl <| v0 (S0.assign rfl) rfl <| vE <| ?_  -- roundend
            refine ⟨j + 1, hlj, (show (idsK L s).length - (j + 1) < (idsK L s).length - j by omega), ⟨⟨rfl, rfl, rfl, rfl, rfl, ?_, rfl, trivial⟩, rfl, rfl⟩, ⟨_, (take1 at0 (take1 at0 (take1 at0 take0)))⟩⟩
            rw [e2]; rfl
          · skip
            have e2 : (((idsK L s).take (j + 1)).any fun x => decide (x = (n : Int))) = decide (y = (n : Int)) := by rw [hat, h5]; rfl
            refine gT rfl <| v0 (S0.move rfl) rfl <| gT rfl <| v0 (S0.move rfl) rfl <| ?_  -- op t98 := indexAddr 38 t96 t97 [if #1=False]
            refine gT rfl <| v0 (S0.index1 rfl rfl hlj) rfl <| ?_
            refine gT rfl <| v0 (S0.load rfl (ints_get hy)) rfl <| ?_
            refine gT rfl <| v0 (S0.move rfl) rfl <| gT rfl <| v0 (S0.cmp rfl rfl rfl) rfl <| v0 (S0.pickF rfl rfl) rfl <| v0 (S0.assign rfl) rfl <| vE <| WP.region <| v0 (S0.move rfl) rfl <| v0 (S0.ari rfl rfl rfl (wrap_i64 (by omega))) rfl <| v0 (S0.assign rfl) rfl <| vE <| ?_  -- roundend
            refine ⟨j + 1, hlj, (show (idsK L s).length - (j + 1) < (idsK L s).length - j by omega), ⟨⟨rfl, rfl, rfl, rfl, rfl, ?_, rfl, trivial⟩, rfl, rfl⟩, ⟨_, (take1 at0 (take1 at0 (take1 at0 take0)))⟩⟩
            rw [e2]; rfl
        · skip
          have ej : j = (idsK L s).length := by omega
          rw [ej, List.take_length, hwh]
          refine WP.exit <| WP.seq <| WP.region <| v0 (S0.move rfl) rfl <| v0 (S0.move rfl) rfl <| v0 (S0.cmpB rfl rfl rfl) rfl <| vE <| ?_  -- cond
          refine WP.condFh rfl ((by simp)) ?_
          refine WP.skip <| WP.region <| v0 (S0.move rfl) rfl <| v0 (S0.ari rfl rfl rfl (wrap_i64 (by omega))) rfl <| v0 (S0.assign rfl) rfl <| vE <| ?_  -- roundend
          exact ⟨n + 1, (by first | exact hlt | (dsimp only; exact hlt)), (show 6 - (n + 1) < 6 - n by omega), ⟨⟨rfl, rfl, rfl, rfl, trivial⟩, rfl, rfl⟩, ⟨_, (take1 (atS at0) (take1 at0 (take1 at0 take0)))⟩⟩
    · skip
      have hri := idsK_rising L s
      refine WP.exit <| WP.seq <| WP.seq <| WP.region <| v0 (S0.assign rfl) rfl <| vE <| WP.block <| ?_  -- Code.loop
      refine WP.loop (fun k : Nat => 1 ≤ k) (fun k : Nat => [(8, .slice ma (idsK L s).length mc), (15, .int .i64 (k : Int))]) (fun k : Nat => [mrow, whole W]) (fun k : Nat => (idsK L s).length - k) (1) (Nat.le_refl _) ⟨rfl, rfl, trivial⟩ ⟨_, (take1 at0 (take1 (atS at0) take0))⟩ (fun k hinv => ?_) 
      refine WP.seq <| WP.seq <| WP.region <| v0 (S0.move rfl) rfl <| v0 (S0.move rfl) rfl <| v0 (S0.lenSl rfl) rfl <| v0 (S0.cmp rfl rfl rfl) rfl <| vE <| ?_  -- cond
      first | refine WP.condP rfl (fun h3 => ?_) (fun h3 => ?_) | refine WP.condN rfl (fun h3 => ?_) (fun h3 => ?_) | refine WP.cond rfl (fun h3 => ?_) (fun h3 => ?_)
      · skip
        obtain ⟨k, rfl⟩ : ∃ k', k = k' + 1 := ⟨k - 1, by omega⟩
        have hlk : k + 1 < (idsK L s).length := by omega
        have hlk0 : k < (idsK L s).length := by omega
        rcases hmr with ⟨e, -⟩ | ⟨b3, sp3, rfl, rfl, hsp3⟩
        · rw [e] at hlk; simp at hlk
        have hy : (idsK L s)[k]? = some (idsK L s)[k] := by simp [hlk0]
        have hz : (idsK L s)[k + 1]? = some (idsK L s)[k + 1] := by simp [hlk]
        generalize (idsK L s)[k] = y at hy
        generalize (idsK L s)[k + 1] = z at hz
        have hlt := rising_next hri hy hz
        skip
        refine WP.skip <| WP.seq <| WP.block <| WP.seq <| WP.drawP [(0, none), (1, none), (2, none), (3, none), (4, none), (5, none), (6, none), (7, none), (8, none), (9, none)] mixed (by kernel_rfl) (by kernel_rfl) (by kernel_rfl) (take1 at0 take0) <| w0 rfl rfl rfl (S0.move rfl) rfl <| w0 rfl rfl rfl (S0.move rfl) rfl <| w0 rfl rfl rfl (S0.ari rfl rfl rfl (wrap_i64 (by omega))) rfl <| ?_  -- op t115 := indexAddr 38 t112 t114
        rw [show ((k + 1 : Nat) : Int) - 1 = (k : Int) by omega]
        refine w0 rfl rfl rfl (S0.index1 rfl rfl hlk0) rfl <| ?_
        refine w0 rfl rfl rfl (S0.load rfl (ints_get hy)) rfl <| ?_
        refine w0 rfl rfl rfl (S0.move rfl) rfl <| w0 rfl rfl rfl (S0.move rfl) rfl <| ?_  -- op t119 := indexAddr 38 t117 t118
        refine w0 rfl rfl rfl (S0.index1 rfl rfl hlk) rfl <| ?_
        refine w0 rfl rfl rfl (S0.load rfl (ints_get hz)) rfl <| ?_
        refine w0 rfl rfl rfl (S0.cmp rfl rfl rfl) rfl <| wE <| ?_  -- cond
        refine WP.condFh rfl ((decide_eq_false (by omega))) ?_
        refine WP.skip <| WP.region <| v0 (S0.move rfl) rfl <| v0 (S0.ari rfl rfl rfl (wrap_i64 (by omega))) rfl <| v0 (S0.assign rfl) rfl <| vE <| ?_  -- roundend
        exact ⟨k + 1 + 1, (by first | exact (by omega) | (dsimp only; exact (by omega))), (show (idsK L s).length - (k + 1 + 1) < (idsK L s).length - (k + 1) by omega), ⟨⟨rfl, rfl, trivial⟩, rfl, rfl⟩, ⟨_, (take1 at0 (take1 at0 take0))⟩⟩
      · skip
        refine WP.exit <| WP.seq <| WP.region <| ?_  -- op t122 := call F27{rivulet/rivuletlaw04.fixed}()
        refine vcd (S1.callF rfl (fixed_spec) take0) rfl ?_
        refine v0 (S0.assign rfl) rfl <| vE <| WP.ret <| ?_  -- ret
        refine Leaves.drop (take1 (atS at0) take0) ?_
        refine r1 rfl rfl ?_
        exact ⟨rfl, rfl⟩
end Go.Proofs.YtmkgokjfkmbcoaaGreatDoor
/- L8 -/
namespace Go.Proofs.YtmkgokjfkmbcoaaGreatDoor
open Go

theorem min30 (n : Nat) : (if (30 : Int) < (n : Int) then 30 else (n : Int)) = ((min n 30 : Nat) : Int) := by split <;> omega
theorem cntO_take {l : List OpT} {k : Nat} {x : OpT} (h : l[k]? = some x) (f : Str) (i : Int) : cntO (l.take (k + 1)) f i = cntO (l.take k) f i + cntO [x] f i := by rw [take_one h, cntO_app]
theorem cntO_drop {l : List OpT} {k : Nat} {x : OpT} (h : l[k]? = some x) (f : Str) (i : Int) : cntO (l.drop k) f i = cntO [x] f i + cntO (l.drop (k + 1)) f i := by
  have : l.drop k = [x] ++ l.drop (k + 1) := by
    obtain ⟨h1, h2⟩ := List.getElem?_eq_some_iff.1 h
    rw [← h2, List.drop_eq_getElem_cons h1]; rfl
  rw [this, cntO_app]
theorem cntO_self {x : OpT} (h : okA x.2.1 x.2.2.1 = true) : cntO [x] x.2.1 x.2.2.1 = 1 := by rw [cntO_one, if_pos ⟨h, rfl, rfl⟩]
set_option maxRecDepth 100000 in
theorem trieTurns_walk (W : World) (lv : Value) (hl : ArgF W opK lv) : FN Tryz.prog 5 [lv] [whole W] (fun v h => v = .bool true ∧ h = [whole W]) := by
  obtain ⟨l0, hrl⟩ := argOps hl
  have hll := cutOs_len l0
  have hlx := cutOs_mem (l := l0)
  refine FN.intro 173 [(0, lv)] Tryz.func5 rfl (enters Tryz.func5 (by kernel_rfl) rfl) Tryz.ntmps5 rfl rfl ?_
  refine WP.seq <| WP.region <| v0 (S0.assign rfl) rfl <| vE <| WP.seq <| WP.region <| v0 (S0.move rfl) rfl <| ?_  -- op t13 := call F10{rivulet/rivuletlaw04.Cut}(t12)
  refine vc (S1.callF rfl (cut_spec hrl) (take1 at0 take0)) rfl ?_
  rintro _ _ ⟨row, hs, rfl⟩
  refine app ?_
  generalize cutOs l0 = M at hll hlx hs
  obtain ⟨a, cap, rfl, hcap, hrow⟩ := IsSl.elems (k := 3) enO_len hs
  refine v0 (S0.assign rfl) rfl <| vE <| WP.seq <| WP.region <| ?_  -- op t14 := call F11{rivulet/trie.New}()
  refine vc (S1.callF rfl (new_spec) take0) rfl ?_
  rintro _ _ ⟨ta, a0, rfl, hA0, rfl⟩
  refine app ?_
  -- (nothing to walk: op t15 := call F11{rivulet/trie.New}())
  refine vc (S1.callF rfl (new_spec) take0) rfl ?_
  rintro _ _ ⟨tb, b0, rfl, hB0, rfl⟩
  refine app ?_
  refine v0 (S0.assign rfl) rfl <| v0 (S0.assign rfl) rfl <| vE <| WP.seq <| WP.seq <| WP.region <| v0 (S0.move rfl) rfl <| v0 (S0.nilP rfl rfl rfl rfl) rfl <| v0 (S0.move rfl) rfl <| ?_  -- guard t18 (wants False) at t19 := move t5 [if #2=False]
  refine csFh (t := 18) rfl (rfl) ?_
  refine gT rfl <| v0 (S0.move rfl) rfl <| gT rfl <| v0 (S0.nilP rfl rfl rfl rfl) rfl <| v0 (S0.pickF rfl rfl) rfl <| vE <| ?_  -- cond
  refine WP.condFh rfl (rfl) ?_
  refine WP.skip <| WP.seq <| WP.region <| v0 (S0.move rfl) rfl <| v0 (S0.lenSl rfl) rfl <| v0 (S0.min2 rfl rfl rfl) rfl <| v0 (S0.assign rfl) rfl <| vE <| WP.seq <| WP.seq <| WP.region <| v0 (S0.assign rfl) rfl <| vE <| WP.block <| ?_  -- Code.loop
  rw [min30]
  have hn30 : min M.length 30 ≤ 30 := by omega
  have hnM : min M.length 30 ≤ M.length := by omega
  generalize min M.length 30 = n at hn30 hnM
  have hrev : ∀ i, i < n → ((M.take n).reverse)[i]? = M[n - 1 - i]? := fun i hi => by
    have hlen : (M.take n).length = n := by rw [List.length_take]; omega
    rw [List.getElem?_reverse (by omega), hlen, List.getElem?_take_of_lt (by omega)]
  refine WP.loop (fun st : Nat × Asks × List Blk × Asks × List Blk => st.1 ≤ n ∧ (IsTr ta st.2.1 st.2.2.1 ∧ AsksOk st.2.1 ∧ AskB st.2.1 st.1 ∧ ∀ f i, hasK st.2.1 f i = (cntO (M.take st.1) f i : Int)) ∧ (IsTr tb st.2.2.2.1 st.2.2.2.2 ∧ AsksOk st.2.2.2.1 ∧ AskB st.2.2.2.1 st.1 ∧ ∀ f i, hasK st.2.2.2.1 f i = (cntO ((M.take n).reverse.take st.1) f i : Int))) (fun st : Nat × Asks × List Blk × Asks × List Blk => [(3, .slice a M.length cap), (4, .pointer (some ⟨ta, 0, none⟩)), (5, .pointer (some ⟨tb, 0, none⟩)), (6, .int .i64 (n : Int)), (7, .int .i64 (st.1 : Int))]) (fun st : Nat × Asks × List Blk × Asks × List Blk => [st.2.2.1, st.2.2.2.2, row, whole W]) (fun st : Nat × Asks × List Blk × Asks × List Blk => n - st.1) ((0, [], a0, [], b0)) (⟨Nat.zero_le _, ⟨hA0, AsksOk.nil, AskB.nil 0, fun f i => rfl⟩, hB0, AsksOk.nil, AskB.nil 0, fun f i => rfl⟩) ⟨rfl, rfl, rfl, rfl, rfl, trivial⟩ ⟨_, (take1 (atS at0) (take1 at0 (take1 at0 (take1 at0 take0))))⟩ (fun st hinv => ?_) 
  obtain ⟨i, A, ca, B, cb⟩ := st
  obtain ⟨hi, ⟨hA, hAok, hAb, hAc⟩, hB, hBok, hBb, hBc⟩ := hinv
  dsimp only at hi hA hAok hAb hAc hB hBok hBb hBc ⊢
  refine WP.seq <| WP.seq <| WP.region <| v0 (S0.move rfl) rfl <| v0 (S0.move rfl) rfl <| v0 (S0.cmp rfl rfl rfl) rfl <| vE <| ?_  -- cond
  first | refine WP.condP rfl (fun h1 => ?_) (fun h1 => ?_) | refine WP.condN rfl (fun h1 => ?_) (fun h1 => ?_) | refine WP.cond rfl (fun h1 => ?_) (fun h1 => ?_)
  · skip
    have hlt : i < n := by omega
    have hltM : i < M.length := by omega
    rcases hrow with ⟨e, -⟩ | ⟨b1, sp1, rfl, rfl, hsp1⟩
    · rw [e] at hltM; simp at hltM
    have hx : M[i]? = some M[i] := by simp [hltM]
    have hxl := hlx _ (List.getElem_mem hltM)
    generalize M[i] = x at hx hxl
    have hltR : n - 1 - i < M.length := by omega
    have hy : M[n - 1 - i]? = some M[n - 1 - i] := by simp [hltR]
    have hyl := hlx _ (List.getElem_mem hltR)
    generalize M[n - 1 - i] = y at hy hyl
    have hyr : ((M.take n).reverse)[i]? = some y := by rw [hrev i hlt, hy]
    skip
    refine WP.skip <| WP.seq <| WP.block <| WP.seq <| WP.drawP [(0, none), (1, none), (2, none), (3, none), (4, none), (5, none), (6, none), (7, none), (8, none), (9, none), (10, none), (11, none)] mixed (by kernel_rfl) (by kernel_rfl) (by kernel_rfl) (take1 (atS (atS at0)) take0) <| w0 rfl rfl rfl (S0.move rfl) rfl <| w0 rfl rfl rfl (S0.move rfl) rfl <| w0 rfl rfl rfl (S0.move rfl) rfl <| ?_  -- op t33 := indexAddr 22 t31 t32
    refine w0 rfl rfl rfl (S0.indexN (k := 4) rfl rfl hltM) rfl <| ?_
    refine w0 rfl rfl rfl (S0.fieldAddr rfl) rfl <| ?_  -- limit
    refine w0 rfl rfl rfl (S0.load (v := sv x.2.1) rfl (flat_get enO_len sp1 M i 1 _ hx (by decide))) rfl <| ?_
    refine w0 rfl rfl rfl (S0.move rfl) rfl <| w0 rfl rfl rfl (S0.move rfl) rfl <| ?_  -- op t38 := indexAddr 22 t36 t37
    refine w0 rfl rfl rfl (S0.indexN (k := 4) rfl rfl hltM) rfl <| ?_
    refine w0 rfl rfl rfl (S0.fieldAddr rfl) rfl <| ?_  -- limit
    refine w0 rfl rfl rfl (S0.load (v := .int .i64 x.2.2.1) rfl (flat_get enO_len sp1 M i 2 _ hx (by decide))) rfl <| ?_
    refine wc rfl rfl rfl rfl (S1.callF rfl (add_spec hA hAb (by omega) (f := x.2.1) (by omega) x.2.2.1) (take1 at0 take0)) rfl ?_
    rintro _ _ ⟨ca', rfl, hA', rfl⟩
    refine wapp ?_
    skip
    refine wE <| WP.drawP [(0, none), (1, none), (2, none), (3, none), (4, none), (5, none), (6, none), (7, none), (8, none), (9, none), (10, none), (11, none), (12, none), (13, none), (14, none), (15, none), (16, none), (17, none)] mixed (by kernel_rfl) (by kernel_rfl) (by kernel_rfl) (take1 at0 take0) <| w0 rfl rfl rfl (S0.move rfl) rfl <| w0 rfl rfl rfl (S0.move rfl) rfl <| w0 rfl rfl rfl (S0.move rfl) rfl <| w0 rfl rfl rfl (S0.ari rfl rfl rfl (wrap_i64 (by omega))) rfl <| w0 rfl rfl rfl (S0.move rfl) rfl <| w0 rfl rfl rfl (S0.ari rfl rfl rfl (wrap_i64 (by omega))) rfl <| ?_  -- op t48 := indexAddr 22 t43 t47
    rw [show (n : Int) - 1 - (i : Int) = ((n - 1 - i : Nat) : Int) by omega]
    refine w0 rfl rfl rfl (S0.indexN (k := 4) rfl rfl hltR) rfl <| ?_
    refine w0 rfl rfl rfl (S0.fieldAddr rfl) rfl <| ?_  -- limit
    refine w0 rfl rfl rfl (S0.load (v := sv y.2.1) rfl (flat_get enO_len sp1 M (n - 1 - i) 1 _ hy (by decide))) rfl <| ?_
    refine w0 rfl rfl rfl (S0.move rfl) rfl <| w0 rfl rfl rfl (S0.move rfl) rfl <| w0 rfl rfl rfl (S0.ari rfl rfl rfl (wrap_i64 (by omega))) rfl <| w0 rfl rfl rfl (S0.move rfl) rfl <| w0 rfl rfl rfl (S0.ari rfl rfl rfl (wrap_i64 (by omega))) rfl <| ?_  -- op t56 := indexAddr 22 t51 t55
    rw [show (n : Int) - 1 - (i : Int) = ((n - 1 - i : Nat) : Int) by omega]
    refine w0 rfl rfl rfl (S0.indexN (k := 4) rfl rfl hltR) rfl <| ?_
    refine w0 rfl rfl rfl (S0.fieldAddr rfl) rfl <| ?_  -- limit
    refine w0 rfl rfl rfl (S0.load (v := .int .i64 y.2.2.1) rfl (flat_get enO_len sp1 M (n - 1 - i) 2 _ hy (by decide))) rfl <| ?_
    refine wc rfl rfl rfl rfl (S1.callF rfl (add_spec hB hBb (by omega) (f := y.2.1) (by omega) y.2.2.1) (take1 (atS at0) take0)) rfl ?_
    rintro _ _ ⟨cb', rfl, hB', rfl⟩
    refine wapp ?_
    refine wE <| WP.region <| v0 (S0.move rfl) rfl <| v0 (S0.ari rfl rfl rfl (wrap_i64 (by omega))) rfl <| v0 (S0.assign rfl) rfl <| vE <| ?_  -- roundend
    exact ⟨(i + 1, addR A x.2.1 x.2.2.1, ca', addR B y.2.1 y.2.2.1, cb'), (by first | exact ⟨hlt, ⟨hA', hAok.addR _ _, hAb.addR _ _, fun f j => by rw [has_addR hAok, hAc, cntO_take hx]; omega⟩, hB', hBok.addR _ _, hBb.addR _ _, fun f j => by rw [has_addR hBok, hBc, cntO_take hyr]; omega⟩ | (dsimp only; exact ⟨hlt, ⟨hA', hAok.addR _ _, hAb.addR _ _, fun f j => by rw [has_addR hAok, hAc, cntO_take hx]; omega⟩, hB', hBok.addR _ _, hBb.addR _ _, fun f j => by rw [has_addR hBok, hBc, cntO_take hyr]; omega⟩)), (show n - (i + 1) < n - i by omega), ⟨⟨rfl, rfl, rfl, rfl, rfl, trivial⟩, rfl, rfl⟩, ⟨_, (take1 (atS (atS at0)) (take1 (atS at0) (take1 at0 (take1 at0 take0))))⟩⟩
  · skip
    have ei : i = n := by omega
    subst ei
    have hrl : (M.take i).reverse.length = i := by rw [List.length_reverse, List.length_take]; omega
    have hsame : ∀ f j, hasK A f j = hasK B f j := fun f j => by
      rw [hAc, hBc, List.take_of_length_le (l := (M.take i).reverse) (by omega), cntO_perm (List.reverse_perm (M.take i))]
    obtain ⟨hall, hids⟩ := same_all hsame hAok hBok
    have hAb' := hAb.mono (n := 30) hn30
    have hBb' := hBb.mono (n := 30) hn30
    have hal := allK_le hAb'
    refine WP.exit <| WP.seq <| WP.seq <| WP.region <| v0 (S0.move rfl) rfl <| ?_  -- op t61 := call F18{(*rivulet/trie.Trie).All}(t60)
    refine vc (S1.callF rfl (all_spec hA hAb' (by decide)) (take1 at0 take0)) rfl ?_
    rintro av _ ⟨arow, ha, rfl⟩
    refine app ?_
    refine v0 (S0.move rfl) rfl <| ?_  -- op t63 := call F18{(*rivulet/trie.Trie).All}(t62)
    refine vc (S1.callF rfl (all_spec hB hBb' (by decide)) (take1 (atS (atS at0)) take0)) rfl ?_
    rintro bv _ ⟨brow, hb, rfl⟩
    refine app ?_
    rw [← hall] at hb
    -- (nothing to walk: op t64 := call F21{rivulet/rivuletref02.Same}(t61, t63))
    refine vcd (S1.callF rfl (same_spec ha.rdS hb.rdS (by omega)) (take1 (atS (atS at0)) (take1 at0 take0))) rfl ?_
    refine v0 (S0.not rfl) rfl <| vE <| ?_  -- cond
    refine WP.condFh rfl ((by simp)) ?_
    refine WP.skip <| WP.seq <| WP.seq <| WP.region <| v0 (S0.assign rfl) rfl <| vE <| WP.block <| ?_  -- Code.loop
    refine WP.loop (fun k : Nat => k ≤ i) (fun k : Nat => [(3, .slice a M.length cap), (4, .pointer (some ⟨ta, 0, none⟩)), (5, .pointer (some ⟨tb, 0, none⟩)), (6, .int .i64 (i : Int)), (8, .int .i64 (k : Int))]) (fun k : Nat => [ca, cb, row, whole W]) (fun k : Nat => i - k) (0) (Nat.zero_le _) ⟨rfl, rfl, rfl, rfl, rfl, trivial⟩ ⟨_, (take1 (atS (atS (atS at0))) (take1 (atS (atS at0)) (take1 (atS (atS at0)) (take1 (atS (atS at0)) take0))))⟩ (fun k hinv => ?_) 
    refine WP.seq <| WP.seq <| WP.region <| v0 (S0.move rfl) rfl <| v0 (S0.move rfl) rfl <| v0 (S0.cmp rfl rfl rfl) rfl <| vE <| ?_  -- cond
    first | refine WP.condP rfl (fun h2 => ?_) (fun h2 => ?_) | refine WP.condN rfl (fun h2 => ?_) (fun h2 => ?_) | refine WP.cond rfl (fun h2 => ?_) (fun h2 => ?_)
    · skip
      have hlt : k < i := by omega
      have hltM : k < M.length := by omega
      rcases hrow with ⟨e, -⟩ | ⟨b1, sp1, rfl, rfl, hsp1⟩
      · rw [e] at hltM; simp at hltM
      have hx : M[k]? = some M[k] := by simp [hltM]
      have hxl := hlx _ (List.getElem_mem hltM)
      generalize M[k] = x at hx hxl
      have hil := idsK_le hAb' x.2.2.2
      have g1 := flat_get enO_len sp1 M k 1 _ hx (by decide)
      have g2 := flat_get enO_len sp1 M k 2 _ hx (by decide)
      have g3 := flat_get enO_len sp1 M k 3 _ hx (by decide)
      skip
      refine WP.skip <| WP.seq <| WP.block <| WP.seq <| WP.drawP [(0, none), (1, none), (2, none), (3, none), (4, none), (5, none), (7, none), (8, none), (9, none), (10, none), (11, none), (12, none), (6, none), (13, none), (14, none), (15, none), (16, none), (17, none), (18, none), (19, none), (20, none), (21, none), (22, none), (23, none), (24, none), (25, none), (26, none), (27, none), (29, none), (30, none), (31, none), (32, none), (33, none), (34, none), (35, none), (36, none), (37, none), (38, none), (39, none), (28, none), (40, none), (41, none), (42, none)] mixed (by kernel_rfl) (by kernel_rfl) (by kernel_rfl) (take1 (atS (atS at0)) take0) <| w0 rfl rfl rfl (S0.move rfl) rfl <| w0 rfl rfl rfl (S0.move rfl) rfl <| w0 rfl rfl rfl (S0.move rfl) rfl <| ?_  -- op t74 := indexAddr 22 t72 t73
      refine w0 rfl rfl rfl (S0.indexN (k := 4) rfl rfl hltM) rfl <| ?_
      refine w0 rfl rfl rfl (S0.fieldAddr rfl) rfl <| ?_  -- limit
      refine w0 rfl rfl rfl (S0.load (v := sv x.2.2.2) rfl g3) rfl <| ?_
      refine w0 rfl rfl rfl (S0.move rfl) rfl <| w0 rfl rfl rfl (S0.move rfl) rfl <| w0 rfl rfl rfl (S0.move rfl) rfl <| ?_  -- op t81 := indexAddr 22 t79 t80
      refine w0 rfl rfl rfl (S0.indexN (k := 4) rfl rfl hltM) rfl <| ?_
      refine w0 rfl rfl rfl (S0.fieldAddr rfl) rfl <| ?_  -- limit
      refine w0 rfl rfl rfl (S0.load (v := sv x.2.2.2) rfl g3) rfl <| ?_
      refine wc rfl rfl rfl rfl (S1.callF rfl (match_spec0 hA hAb' (by decide) (s := x.2.2.2) (by omega)) (take1 at0 take0)) rfl ?_
      rintro mv _ ⟨mrow, hm, rfl⟩
      refine wapp ?_
      refine wc rfl rfl rfl rfl (S1.callF rfl (match_spec0 hB hBb' (by decide) (s := x.2.2.2) (by omega)) (take1 (atS (atS at0)) take0)) rfl ?_
      rintro mv2 _ ⟨mrow2, hm2, rfl⟩
      refine wapp ?_
      rw [← hids] at hm2
      refine wcd rfl rfl rfl rfl (S1.callF rfl (ints_spec hm hm2 (by omega)) (take1 (atS (atS at0)) (take1 at0 take0))) rfl ?_
      refine w0 rfl rfl rfl (S0.not rfl) rfl <| w0 rfl rfl rfl (S0.move rfl) rfl <| ?_  -- guard t87 (wants False) at t88 := move t4 [if #16=False]
      refine wcsFh (t := 87) rfl ((by simp)) ?_
      refine w0 rfl rfl rfl (S0.move rfl) rfl <| w0 rfl rfl rfl (S0.move rfl) rfl <| w0 rfl rfl rfl (S0.move rfl) rfl <| ?_  -- op t91 := indexAddr 22 t89 t90 [if #16=False]
      refine w0 rfl rfl rfl (S0.indexN (k := 4) rfl rfl hltM) rfl <| ?_
      refine w0 rfl rfl rfl (S0.fieldAddr rfl) rfl <| ?_  -- limit
      refine w0 rfl rfl rfl (S0.load (v := sv x.2.1) rfl g1) rfl <| ?_
      refine w0 rfl rfl rfl (S0.move rfl) rfl <| w0 rfl rfl rfl (S0.move rfl) rfl <| ?_  -- op t96 := indexAddr 22 t94 t95 [if #16=False]
      refine w0 rfl rfl rfl (S0.indexN (k := 4) rfl rfl hltM) rfl <| ?_
      refine w0 rfl rfl rfl (S0.fieldAddr rfl) rfl <| ?_  -- limit
      refine w0 rfl rfl rfl (S0.load (v := .int .i64 x.2.2.1) rfl g2) rfl <| ?_
      refine w0 rfl rfl rfl (S0.move rfl) rfl <| w0 rfl rfl rfl (S0.move rfl) rfl <| w0 rfl rfl rfl (S0.move rfl) rfl <| ?_  -- op t103 := indexAddr 22 t101 t102 [if #16=False]
      refine w0 rfl rfl rfl (S0.indexN (k := 4) rfl rfl hltM) rfl <| ?_
      refine w0 rfl rfl rfl (S0.fieldAddr rfl) rfl <| ?_  -- limit
      refine w0 rfl rfl rfl (S0.load (v := sv x.2.1) rfl g1) rfl <| ?_
      refine w0 rfl rfl rfl (S0.move rfl) rfl <| w0 rfl rfl rfl (S0.move rfl) rfl <| ?_  -- op t108 := indexAddr 22 t106 t107 [if #16=False]
      refine w0 rfl rfl rfl (S0.indexN (k := 4) rfl rfl hltM) rfl <| ?_
      refine w0 rfl rfl rfl (S0.fieldAddr rfl) rfl <| ?_  -- limit
      refine w0 rfl rfl rfl (S0.load (v := .int .i64 x.2.2.1) rfl g2) rfl <| ?_
      refine wcd rfl rfl rfl rfl (S1.callF rfl (has_spec hA (show x.2.1.length ≤ 1000 by omega) x.2.2.1) (take1 (atS (atS (atS at0))) take0)) rfl ?_
      refine wcd rfl rfl rfl rfl (S1.callF rfl (has_spec hB (show x.2.1.length ≤ 1000 by omega) x.2.2.1) (take1 (atS (atS (atS at0))) take0)) rfl ?_
      rw [← hsame]
      refine w0 rfl rfl rfl (S0.cmp rfl rfl rfl) rfl <| w0 rfl rfl rfl (S0.pickF rfl rfl) rfl <| wE <| ?_  -- cond
      refine WP.condFh rfl ((by simp)) ?_
      refine WP.skip <| WP.region <| v0 (S0.move rfl) rfl <| v0 (S0.ari rfl rfl rfl (wrap_i64 (by omega))) rfl <| v0 (S0.assign rfl) rfl <| vE <| ?_  -- roundend
      exact ⟨k + 1, (by first | exact hlt | (dsimp only; exact hlt)), (show i - (k + 1) < i - k by omega), ⟨⟨rfl, rfl, rfl, rfl, rfl, trivial⟩, rfl, rfl⟩, ⟨_, (take1 (atS (atS at0)) (take1 (atS at0) (take1 at0 (take1 (atS (atS at0)) take0))))⟩⟩
    · skip
      have hNl : (M.take i).length = i := by rw [List.length_take]; omega
      refine WP.exit <| WP.seq <| WP.seq <| WP.region <| v0 (S0.assign rfl) rfl <| vE <| WP.block <| ?_  -- Code.loop
      refine WP.loop (fun st : Nat × Asks × List Blk => st.1 ≤ i ∧ IsTr ta st.2.1 st.2.2 ∧ AsksOk st.2.1 ∧ AskB st.2.1 (30 + st.1) ∧ ∀ f j, hasK st.2.1 f j = (cntO ((M.take i).drop st.1) f j : Int)) (fun st : Nat × Asks × List Blk => [(3, .slice a M.length cap), (4, .pointer (some ⟨ta, 0, none⟩)), (6, .int .i64 (i : Int)), (9, .int .i64 (st.1 : Int))]) (fun st : Nat × Asks × List Blk => [st.2.2, row, whole W]) (fun st : Nat × Asks × List Blk => i - st.1) ((0, A, ca)) (⟨Nat.zero_le _, hA, hAok, hAb', fun f j => hAc f j⟩) ⟨rfl, rfl, rfl, rfl, trivial⟩ ⟨_, (take1 at0 (take1 (atS at0) (take1 (atS at0) take0)))⟩ (fun st hinv => ?_) 
      obtain ⟨k, D, cd⟩ := st
      obtain ⟨hk, hD, hDok, hDb, hDc⟩ := hinv
      dsimp only at hk hD hDok hDb hDc ⊢
      refine WP.seq <| WP.seq <| WP.region <| v0 (S0.move rfl) rfl <| v0 (S0.move rfl) rfl <| v0 (S0.cmp rfl rfl rfl) rfl <| vE <| ?_  -- cond
      first | refine WP.condP rfl (fun h3 => ?_) (fun h3 => ?_) | refine WP.condN rfl (fun h3 => ?_) (fun h3 => ?_) | refine WP.cond rfl (fun h3 => ?_) (fun h3 => ?_)
      · skip
        have hlt : k < i := by omega
        have hltM : k < M.length := by omega
        rcases hrow with ⟨e, -⟩ | ⟨b1, sp1, rfl, rfl, hsp1⟩
        · rw [e] at hltM; simp at hltM
        have hx : M[k]? = some M[k] := by simp [hltM]
        have hxl := hlx _ (List.getElem_mem hltM)
        generalize M[k] = x at hx hxl
        have hxN : (M.take i)[k]? = some x := by rw [List.getElem?_take_of_lt hlt, hx]
        have g1 := flat_get enO_len sp1 M k 1 _ hx (by decide)
        have g2 := flat_get enO_len sp1 M k 2 _ hx (by decide)
        skip
        refine WP.skip <| WP.seq <| WP.block <| WP.seq <| WP.drawP [(0, none), (1, none), (2, none), (3, none), (4, none), (5, none), (6, none), (7, none), (8, none), (9, none), (10, none), (11, none), (12, none), (13, none), (14, none), (15, none), (16, none)] mixed (by kernel_rfl) (by kernel_rfl) (by kernel_rfl) (take1 (atS at0) take0) <| w0 rfl rfl rfl (S0.move rfl) rfl <| w0 rfl rfl rfl (S0.move rfl) rfl <| w0 rfl rfl rfl (S0.move rfl) rfl <| ?_  -- op t123 := indexAddr 22 t121 t122
        refine w0 rfl rfl rfl (S0.indexN (k := 4) rfl rfl hltM) rfl <| ?_
        refine w0 rfl rfl rfl (S0.fieldAddr rfl) rfl <| ?_  -- limit
        refine w0 rfl rfl rfl (S0.load (v := sv x.2.1) rfl g1) rfl <| ?_
        refine w0 rfl rfl rfl (S0.move rfl) rfl <| w0 rfl rfl rfl (S0.move rfl) rfl <| ?_  -- op t128 := indexAddr 22 t126 t127
        refine w0 rfl rfl rfl (S0.indexN (k := 4) rfl rfl hltM) rfl <| ?_
        refine w0 rfl rfl rfl (S0.fieldAddr rfl) rfl <| ?_  -- limit
        refine w0 rfl rfl rfl (S0.load (v := .int .i64 x.2.2.1) rfl g2) rfl <| ?_
        refine wc rfl rfl rfl rfl (S1.callF rfl (add_spec hD hDb (by omega) (f := x.2.1) (by omega) x.2.2.1) (take1 at0 take0)) rfl ?_
        rintro _ _ ⟨c1, rfl, hD1, rfl⟩
        refine wapp ?_
        refine w0 rfl rfl rfl (S0.move rfl) rfl <| w0 rfl rfl rfl (S0.extract rfl rfl) rfl <| w0 rfl rfl rfl (S0.extract rfl rfl) rfl <| w0 rfl rfl rfl (S0.assign rfl) rfl <| w0 rfl rfl rfl (S0.assign rfl) rfl <| wE <| WP.seq <| WP.region <| v0 (S0.move rfl) rfl <| v0 (S0.cmp rfl rfl rfl) rfl <| vE <| ?_  -- cond
        first | refine WP.condP rfl (fun h4 => ?_) (fun h4 => ?_) | refine WP.condN rfl (fun h4 => ?_) (fun h4 => ?_) | refine WP.cond rfl (fun h4 => ?_) (fun h4 => ?_)
        · skip
          have hokx : okA x.2.1 x.2.2.1 = true := by
            cases h : okA x.2.1 x.2.2.1 with
            | true => rfl
            | false => simp [addE, h] at h4
          have hself := cntO_self hokx
          have hDself := hDc x.2.1 x.2.2.1
          rw [cntO_drop hxN, hself] at hDself
          have hok1 := hDok.addR x.2.1 x.2.2.1
          have hb1 := hDb.addR x.2.1 x.2.2.1
          have hc1 : ∀ f j, hasK (addR D x.2.1 x.2.2.1) f j = hasK D f j + (cntO [x] f j : Int) := has_addR hDok x
          have hs1 := hc1 x.2.1 x.2.2.1
          rw [hself] at hs1
          have hok2 := hok1.dropR x.2.1 x.2.2.1
          have hb2 := hb1.dropR x.2.1 x.2.2.1
          have hc2 := has_dropR hok1 x hokx (by omega)
          have hs2 := hc2 x.2.1 x.2.2.1
          rw [hself] at hs2
          have hok3 := hok2.dropR x.2.1 x.2.2.1
          have hb3 := hb2.dropR x.2.1 x.2.2.1
          have hc3 := has_dropR hok2 x hokx (by omega)
          have hcf : ∀ f j, hasK (dropR (dropR (addR D x.2.1 x.2.2.1) x.2.1 x.2.2.1) x.2.1 x.2.2.1) f j = (cntO ((M.take i).drop (k + 1)) f j : Int) := fun f j => by
            rw [hc3, hc2, hc1, hDc, cntO_drop hxN]; omega
          skip
          refine WP.seq <| WP.drawP [(0, none), (1, none), (2, none), (3, none), (4, none), (5, none), (6, none), (7, none), (8, none), (9, none), (10, none), (11, none)] mixed (by kernel_rfl) (by kernel_rfl) (by kernel_rfl) (take1 at0 take0) <| w0 rfl rfl rfl (S0.move rfl) rfl <| w0 rfl rfl rfl (S0.move rfl) rfl <| w0 rfl rfl rfl (S0.move rfl) rfl <| ?_  -- op t139 := indexAddr 22 t137 t138
          refine w0 rfl rfl rfl (S0.indexN (k := 4) rfl rfl hltM) rfl <| ?_
          refine w0 rfl rfl rfl (S0.fieldAddr rfl) rfl <| ?_  -- limit
          refine w0 rfl rfl rfl (S0.load (v := sv x.2.1) rfl g1) rfl <| ?_
          refine w0 rfl rfl rfl (S0.move rfl) rfl <| w0 rfl rfl rfl (S0.move rfl) rfl <| ?_  -- op t144 := indexAddr 22 t142 t143
          refine w0 rfl rfl rfl (S0.indexN (k := 4) rfl rfl hltM) rfl <| ?_
          refine w0 rfl rfl rfl (S0.fieldAddr rfl) rfl <| ?_  -- limit
          refine w0 rfl rfl rfl (S0.load (v := .int .i64 x.2.2.1) rfl g2) rfl <| ?_
          refine wc rfl rfl rfl rfl (S1.callF rfl (drop_spec hD1 hb1 (by omega) (f := x.2.1) (by omega) x.2.2.1) (take1 at0 take0)) rfl ?_
          rintro _ _ ⟨c2, rfl, hD2, rfl⟩
          refine wapp ?_
          skip
          refine wE <| WP.drawP [(0, none), (1, none), (2, none), (3, none), (4, none), (5, none), (6, none), (7, none), (8, none), (9, none), (10, none), (11, none)] mixed (by kernel_rfl) (by kernel_rfl) (by kernel_rfl) (take1 at0 take0) <| w0 rfl rfl rfl (S0.move rfl) rfl <| w0 rfl rfl rfl (S0.move rfl) rfl <| w0 rfl rfl rfl (S0.move rfl) rfl <| ?_  -- op t151 := indexAddr 22 t149 t150
          refine w0 rfl rfl rfl (S0.indexN (k := 4) rfl rfl hltM) rfl <| ?_
          refine w0 rfl rfl rfl (S0.fieldAddr rfl) rfl <| ?_  -- limit
          refine w0 rfl rfl rfl (S0.load (v := sv x.2.1) rfl g1) rfl <| ?_
          refine w0 rfl rfl rfl (S0.move rfl) rfl <| w0 rfl rfl rfl (S0.move rfl) rfl <| ?_  -- op t156 := indexAddr 22 t154 t155
          refine w0 rfl rfl rfl (S0.indexN (k := 4) rfl rfl hltM) rfl <| ?_
          refine w0 rfl rfl rfl (S0.fieldAddr rfl) rfl <| ?_  -- limit
          refine w0 rfl rfl rfl (S0.load (v := .int .i64 x.2.2.1) rfl g2) rfl <| ?_
          refine wc rfl rfl rfl rfl (S1.callF rfl (drop_spec hD2 hb2 (by omega) (f := x.2.1) (by omega) x.2.2.1) (take1 at0 take0)) rfl ?_
          rintro _ _ ⟨c3, rfl, hD3, rfl⟩
          refine wapp ?_
          refine wE <| WP.region <| v0 (S0.move rfl) rfl <| v0 (S0.ari rfl rfl rfl (wrap_i64 (by omega))) rfl <| v0 (S0.assign rfl) rfl <| vE <| ?_  -- roundend
          exact ⟨(k + 1, dropR (dropR (addR D x.2.1 x.2.2.1) x.2.1 x.2.2.1) x.2.1 x.2.2.1, c3), (by first | exact ⟨hlt, hD3, hok3, hb3, hcf⟩ | (dsimp only; exact ⟨hlt, hD3, hok3, hb3, hcf⟩)), (show i - (k + 1) < i - k by omega), ⟨⟨rfl, rfl, rfl, rfl, trivial⟩, rfl, rfl⟩, ⟨_, (take1 (atS at0) (take1 at0 (take1 at0 take0)))⟩⟩
        · skip
          have hokx : okA x.2.1 x.2.2.1 = false := by
            cases h : okA x.2.1 x.2.2.1 with
            | true => simp [addE, h] at h4
            | false => rfl
          have hcx : ∀ f j, cntO [x] f j = 0 := fun f j => by rw [cntO_one, if_neg (fun h => by rw [hokx] at h; cases h.1)]
          have hcf : ∀ f j, hasK (addR D x.2.1 x.2.2.1) f j = (cntO ((M.take i).drop (k + 1)) f j : Int) := fun f j => by
            rw [has_addR hDok x, hDc, cntO_drop hxN, hcx]; omega
          have hok1 := hDok.addR x.2.1 x.2.2.1
          have hb1 := hDb.addR x.2.1 x.2.2.1
          refine WP.skip <| WP.region <| v0 (S0.move rfl) rfl <| v0 (S0.ari rfl rfl rfl (wrap_i64 (by omega))) rfl <| v0 (S0.assign rfl) rfl <| vE <| ?_  -- roundend
          exact ⟨(k + 1, addR D x.2.1 x.2.2.1, c1), (by first | exact ⟨hlt, hD1, hok1, hb1, hcf⟩ | (dsimp only; exact ⟨hlt, hD1, hok1, hb1, hcf⟩)), (show i - (k + 1) < i - k by omega), ⟨⟨rfl, rfl, rfl, rfl, trivial⟩, rfl, rfl⟩, ⟨_, (take1 (atS at0) (take1 at0 (take1 at0 take0)))⟩⟩
      · skip
        have ek : k = i := by omega
        have hnil : D = [] := none_of_has hDok fun f j => by
          rw [hDc, List.drop_eq_nil_of_le (by omega)]; rfl
        subst hnil
        have eA : allK [] = [] := rfl
        have eI : idsK [] [97] = [] := rfl
        refine WP.exit <| WP.seq <| WP.region <| v0 (S0.move rfl) rfl <| ?_  -- op t161 := call F18{(*rivulet/trie.Trie).All}(t160)
        refine vc (S1.callF rfl (all_spec hD (AskB.nil 100) (by decide)) (take1 at0 take0)) rfl ?_
        rintro _ _ ⟨arow2, ha2, rfl⟩
        refine app ?_
        rw [eA] at ha2
        obtain ⟨aa2, ac2, rfl, -, -⟩ := ha2.strsE
        refine v0 (S0.lenSl rfl) rfl <| v0 (S0.cmp rfl rfl rfl) rfl <| v0 (S0.move rfl) rfl <| ?_  -- guard t164 (wants True) at t165 := move t4 [if #4=True]
        refine csTh (t := 164) rfl (rfl) ?_
        refine gT rfl <| v0 (S0.move rfl) rfl <| ?_  -- op t166 := call F17{(*rivulet/trie.Trie).Match}(t165, Value.string {'data': [97]}) [if #4=True]
        refine gT rfl <| vc (S1.callF rfl (match_spec0 hD (AskB.nil 100) (by decide) (s := [97]) (by decide)) (take1 (atS at0) take0)) rfl ?_
        rintro _ _ ⟨mrow3, hm3, rfl⟩
        refine app ?_
        rw [eI] at hm3
        obtain ⟨ma3, mc3, rfl, -, -⟩ := hm3.intsE
        refine gT rfl <| v0 (S0.lenSl rfl) rfl <| gT rfl <| v0 (S0.cmp rfl rfl rfl) rfl <| v0 (S0.pickT rfl rfl) rfl <| v0 (S0.move rfl) rfl <| ?_  -- guard t170 (wants True) at t171 := call F27{rivulet/rivuletlaw04.fixed}() [if #10=True]
        refine csTh (t := 170) rfl (rfl) ?_
        -- (nothing to walk: op t171 := call F27{rivulet/rivuletlaw04.fixed}() [if #10=True])
        refine gT rfl <| vcd (S1.callF rfl (fixed_spec) take0) rfl ?_
        refine v0 (S0.pickT rfl rfl) rfl <| v0 (S0.assign rfl) rfl <| vE <| WP.ret <| ?_  -- ret
        refine Leaves.drop (take1 (atS (atS (atS (atS at0)))) take0) ?_
        refine r1 rfl rfl ?_
        exact ⟨rfl, rfl⟩
end Go.Proofs.YtmkgokjfkmbcoaaGreatDoor
/- L9 -/
namespace Go.Proofs.YtmkgokjfkmbcoaaGreatDoor
open Go

/-- one filter, asked for by one, so often -/
def mkL (f : Str) (id : Int) : Nat → Asks
  | 0 => []
  | m + 1 => [(f, id, ((m + 1 : Nat) : Int))]
theorem mkL_has (f : Str) (id : Int) (m : Nat) : hasK (mkL f id m) f id = (m : Int) := by
  cases m <;> simp [mkL, hasK]
theorem mkL_add {f : Str} {id : Int} (h : okA f id = true) (m : Nat) : addR (mkL f id m) f id = mkL f id (m + 1) ∧ addV (mkL f id m) f id = ((m + 1 : Nat) : Int) := by
  refine ⟨?_, by rw [addV, if_pos h, mkL_has]; omega⟩
  rw [addR, if_pos h]
  cases m with
  | zero => simp [mkL, addK, hasK]
  | succ m =>
    have : hasK (mkL f id (m + 1)) f id ≠ 0 := by rw [mkL_has]; omega
    rw [addK, if_neg this]
    simp only [mkL, List.map_cons, List.map_nil, and_self, if_true, List.cons.injEq, Prod.mk.injEq, true_and, and_true]
    omega
theorem mkL_drop {f : Str} {id : Int} (h : okA f id = true) (m : Nat) : dropR (mkL f id (m + 1)) f id = mkL f id m ∧ dropV (mkL f id (m + 1)) f id = (m : Int) := by
  have h0 : hasK (mkL f id (m + 1)) f id ≠ 0 := by rw [mkL_has]; omega
  refine ⟨?_, by rw [dropV, if_pos ⟨h, h0⟩, mkL_has]; omega⟩
  rw [dropR, if_pos ⟨h, h0⟩, lessK]
  cases m with
  | zero => rw [if_pos (by rw [mkL_has]; rfl)]; simp [mkL]
  | succ m =>
    rw [if_neg (by rw [mkL_has]; omega)]
    simp only [mkL, List.map_cons, List.map_nil, and_self, if_true, List.cons.injEq, Prod.mk.injEq, true_and, and_true]
    omega
theorem mkL_b (f : Str) (id : Int) {m : Nat} (h : m ≤ 100) : AskB (mkL f id m) 100 := by
  cases m with
  | zero => exact AskB.nil 100
  | succ m => exact ⟨by simp [mkL], fun x hx => by simp only [mkL, List.mem_singleton] at hx; subst hx; simp only; omega⟩
theorem mkL_all (f : Str) (id : Int) (m : Nat) : (allK (mkL f id m)).length = if 0 < m then 1 else 0 := by
  cases m <;> simp [mkL, allK, insS]
set_option maxRecDepth 100000 in
theorem trieCounts_walk (W : World) (s0 : Str) (hs0 : s0.length ≤ maxLen) (id n : Int) : FN Tryz.prog 8 [sv s0, .int .i64 id, .int .i64 n] [whole W] (fun v h => v = .bool true ∧ h = [whole W]) := by
  refine FN.intro 111 [(0, sv s0), (1, .int .i64 id), (2, .int .i64 n)] Tryz.func8 rfl (enters Tryz.func8 (by kernel_rfl) rfl) Tryz.ntmps8 rfl rfl ?_
  refine WP.seq <| WP.region <| v0 (S0.assign rfl) rfl <| vE <| WP.seq <| WP.region <| v0 (S0.move rfl) rfl <| v0 (S0.move rfl) rfl <| v0 (S0.lenSt rfl) rfl <| v0 (S0.min2 rfl rfl rfl) rfl <| ?_  -- op t19 := slice 9 t15 none t18 none
  rw [min150]
  refine v0 (S0.sliceSt (i := 0) (j := min s0.length 150) rfl rfl rfl ⟨Nat.zero_le _, by omega⟩) rfl <| ?_
  rw [take_min150]
  have hsl : (s0.take 150).length ≤ 1000 := by rw [List.length_take]; omega
  generalize s0.take 150 = s at hsl
  refine v0 (S0.assign rfl) rfl <| vE <| WP.seq <| WP.region <| ?_  -- op t20 := call F11{rivulet/trie.New}()
  refine vc (S1.callF rfl (new_spec) take0) rfl ?_
  rintro _ _ ⟨tb, c0, rfl, h0, rfl⟩
  refine app ?_
  refine v0 (S0.assign rfl) rfl <| vE <| WP.seq <| WP.seq <| WP.region <| v0 (S0.move rfl) rfl <| v0 (S0.nilP rfl rfl rfl rfl) rfl <| v0 (S0.move rfl) rfl <| ?_  -- guard t23 (wants False) at t24 := move t0 [if #2=False]
  refine csFh (t := 23) rfl (rfl) ?_
  refine gT rfl <| v0 (S0.move rfl) rfl <| ?_  -- op t25 := call F31{rivulet/rivuletref03.Filter}(t24) [if #2=False]
  refine gT rfl <| vcd (S1.callF rfl (rfilter_spec (show s.length ≤ 900000 by omega)) take0) rfl ?_
  refine gT rfl <| v0 (S0.not rfl) rfl <| v0 (S0.pickF rfl rfl) rfl <| v0 (S0.move rfl) rfl <| ?_  -- guard t28 (wants False) at t29 := move t1 [if #7=False]
  skip
  by_cases hF : filtS s = true
  · skip
    refine csFh (t := 28) rfl ((by simp [hF])) ?_
    refine gT rfl <| v0 (S0.move rfl) rfl <| gT rfl <| v0 (S0.cmp rfl rfl rfl) rfl <| v0 (S0.pickF rfl rfl) rfl <| vE <| ?_  -- cond
    first | refine WP.condP rfl (fun hi => ?_) (fun hi => ?_) | refine WP.condN rfl (fun hi => ?_) (fun hi => ?_) | refine WP.cond rfl (fun hi => ?_) (fun hi => ?_)
    · skip
      refine WP.seq <| WP.region <| v0 (S0.move rfl) rfl <| v0 (S0.nilP rfl rfl rfl rfl) rfl <| v0 (S0.move rfl) rfl <| ?_  -- guard t34 (wants True) at t35 := move t7 [if #2=True]
      refine csTh (t := 34) rfl (rfl) ?_
      refine gT rfl <| v0 (S0.move rfl) rfl <| gT rfl <| v0 (S0.move rfl) rfl <| gT rfl <| v0 (S0.move rfl) rfl <| ?_  -- op t38 := call F25{(*rivulet/trie.Trie).Has}(t35, t36, t37) [if #2=True]
      refine gT rfl <| vcd (S1.callF rfl (has_spec h0 hsl id) (take1 at0 take0)) rfl ?_
      refine gT rfl <| v0 (S0.cmp rfl rfl rfl) rfl <| v0 (S0.pickT rfl rfl) rfl <| v0 (S0.move rfl) rfl <| ?_  -- guard t41 (wants True) at t42 := call F27{rivulet/rivuletlaw04.fixed}() [if #9=True]
      refine csTh (t := 41) rfl (rfl) ?_
      -- (nothing to walk: op t42 := call F27{rivulet/rivuletlaw04.fixed}() [if #9=True])
      refine gT rfl <| vcd (S1.callF rfl (fixed_spec) take0) rfl ?_
      refine v0 (S0.pickT rfl rfl) rfl <| v0 (S0.assign rfl) rfl <| vE <| WP.ret <| ?_  -- ret
      refine Leaves.drop (take1 (atS at0) take0) ?_
      refine r1 rfl rfl ?_
      exact ⟨rfl, rfl⟩
    · skip
      have hok : okA s id = true := by simp [okA, hF]; omega
      obtain ⟨z, hz⟩ : ∃ z, bitsI .and .i64 n 15 = some z := ⟨_, rfl⟩
      have hz2 := mask_i64 hz ⟨by decide, by decide⟩
      obtain ⟨z, rfl⟩ : ∃ z' : Nat, z = (z' : Int) := ⟨z.toNat, by omega⟩
      refine WP.skip <| WP.seq <| WP.region <| v0 (S0.move rfl) rfl <| ?_  -- op t45 := and t44 15:i64 :3
      refine v0 (S0.bits rfl rfl hz) rfl <| ?_
      refine v0 (S0.ari rfl rfl rfl (wrap_i64 (by omega))) rfl <| v0 (S0.assign rfl) rfl <| vE <| WP.seq <| WP.seq <| WP.region <| v0 (S0.assign rfl) rfl <| vE <| WP.block <| ?_  -- Code.loop
      refine WP.loop (fun st : Nat × List Blk => 1 ≤ st.1 ∧ st.1 ≤ z + 2 ∧ IsTr tb (mkL s id (st.1 - 1)) st.2) (fun st : Nat × List Blk => [(0, sv s), (1, .int .i64 id), (7, .pointer (some ⟨tb, 0, none⟩)), (8, .int .i64 (1 + (z : Int))), (9, .int .i64 (st.1 : Int))]) (fun st : Nat × List Blk => [st.2, whole W]) (fun st : Nat × List Blk => z + 2 - st.1) ((1, c0)) (⟨Nat.le_refl _, by omega, h0⟩) ⟨rfl, rfl, rfl, rfl, rfl, trivial⟩ ⟨_, (take1 at0 (take1 at0 take0))⟩ (fun st hinv => ?_) 
      obtain ⟨i, c⟩ := st
      obtain ⟨hi1, hi2, hT⟩ := hinv
      dsimp only at hi1 hi2 hT ⊢
      obtain ⟨i, rfl⟩ : ∃ i', i = i' + 1 := ⟨i - 1, by omega⟩
      rw [Nat.add_sub_cancel] at hT
      obtain ⟨ea, ev⟩ := mkL_add hok i
      refine WP.seq <| WP.seq <| WP.region <| v0 (S0.move rfl) rfl <| v0 (S0.move rfl) rfl <| v0 (S0.cmp rfl rfl rfl) rfl <| vE <| ?_  -- cond
      first | refine WP.condP rfl (fun h1 => ?_) (fun h1 => ?_) | refine WP.condN rfl (fun h1 => ?_) (fun h1 => ?_) | refine WP.cond rfl (fun h1 => ?_) (fun h1 => ?_)
      · skip
        refine WP.skip <| WP.seq <| WP.block <| WP.seq <| WP.region <| v0 (S0.move rfl) rfl <| v0 (S0.move rfl) rfl <| v0 (S0.move rfl) rfl <| ?_  -- op t56 := call F13{(*rivulet/trie.Trie).Add}(t53, t54, t55)
        refine vc (S1.callF rfl (add_spec hT (mkL_b s id (by omega)) (by decide) hsl id) (take1 at0 take0)) rfl ?_
        rintro _ _ ⟨c', rfl, hT', rfl⟩
        refine app ?_
        rw [ev]
        rw [ea] at hT'
        refine v0 (S0.move rfl) rfl <| v0 (S0.extract rfl rfl) rfl <| v0 (S0.extract rfl rfl) rfl <| v0 (S0.assign rfl) rfl <| v0 (S0.assign rfl) rfl <| vE <| WP.seq <| WP.region <| v0 (S0.move rfl) rfl <| v0 (S0.move rfl) rfl <| v0 (S0.cmp rfl rfl rfl) rfl <| v0 (S0.move rfl) rfl <| ?_  -- guard t62 (wants False) at t63 := move t7 [if #3=False]
        refine csFh (t := 62) rfl ((by simp)) ?_
        refine gT rfl <| v0 (S0.move rfl) rfl <| gT rfl <| v0 (S0.move rfl) rfl <| gT rfl <| v0 (S0.move rfl) rfl <| ?_  -- op t66 := call F25{(*rivulet/trie.Trie).Has}(t63, t64, t65) [if #3=False]
        refine gT rfl <| vcd (S1.callF rfl (has_spec hT' hsl id) (take1 at0 take0)) rfl ?_
        rw [mkL_has]
        refine gT rfl <| v0 (S0.move rfl) rfl <| gT rfl <| v0 (S0.cmp rfl rfl rfl) rfl <| v0 (S0.pickF rfl rfl) rfl <| vE <| ?_  -- cond
        refine WP.condFh rfl ((by simp)) ?_
        refine WP.skip <| WP.region <| v0 (S0.move rfl) rfl <| v0 (S0.ari rfl rfl rfl (wrap_i64 (by omega))) rfl <| v0 (S0.assign rfl) rfl <| vE <| ?_  -- roundend
        exact ⟨(i + 1 + 1, c'), (by first | exact ⟨by omega, by omega, hT'⟩ | (dsimp only; exact ⟨by omega, by omega, hT'⟩)), (show z + 2 - (i + 1 + 1) < z + 2 - (i + 1) by omega), ⟨⟨rfl, rfl, rfl, rfl, rfl, trivial⟩, rfl, rfl⟩, ⟨_, (take1 at0 (take1 at0 take0))⟩⟩
      · skip
        have ei : i = z + 1 := by omega
        subst ei
        refine WP.exit <| WP.seq <| WP.seq <| WP.region <| v0 (S0.move rfl) rfl <| v0 (S0.ari rfl rfl rfl (wrap_i64 (by omega))) rfl <| v0 (S0.assign rfl) rfl <| vE <| WP.block <| ?_  -- Code.loop
        rw [show 1 + (z : Int) - 1 = ((z + 1 : Nat) : Int) - 1 by omega]
        refine WP.loop (fun st : Nat × List Blk => st.1 ≤ z + 1 ∧ IsTr tb (mkL s id st.1) st.2) (fun st : Nat × List Blk => [(0, sv s), (1, .int .i64 id), (7, .pointer (some ⟨tb, 0, none⟩)), (12, .int .i64 ((st.1 : Int) - 1))]) (fun st : Nat × List Blk => [st.2, whole W]) (fun st : Nat × List Blk => st.1) ((z + 1, c)) (⟨Nat.le_refl _, hT⟩) ⟨rfl, rfl, rfl, rfl, trivial⟩ ⟨[], by simp⟩ (fun st hinv => ?_) 
        obtain ⟨j, c⟩ := st
        obtain ⟨hj, hT⟩ := hinv
        dsimp only at hj hT ⊢
        refine WP.seq <| WP.seq <| WP.region <| v0 (S0.move rfl) rfl <| v0 (S0.cmp rfl rfl rfl) rfl <| vE <| ?_  -- cond
        first | refine WP.condP rfl (fun h2 => ?_) (fun h2 => ?_) | refine WP.condN rfl (fun h2 => ?_) (fun h2 => ?_) | refine WP.cond rfl (fun h2 => ?_) (fun h2 => ?_)
        · skip
          obtain ⟨j, rfl⟩ : ∃ j', j = j' + 1 := ⟨j - 1, by omega⟩
          obtain ⟨ea, ev⟩ := mkL_drop hok j
          have hal := mkL_all s id j
          refine WP.skip <| WP.seq <| WP.block <| WP.seq <| WP.region <| v0 (S0.move rfl) rfl <| v0 (S0.move rfl) rfl <| v0 (S0.move rfl) rfl <| ?_  -- op t80 := call F30{(*rivulet/trie.Trie).Drop}(t77, t78, t79)
          refine vc (S1.callF rfl (drop_spec hT (mkL_b s id (by omega)) (by decide) hsl id) (take1 at0 take0)) rfl ?_
          rintro _ _ ⟨c', rfl, hT', rfl⟩
          refine app ?_
          rw [ev, show ((j + 1 : Nat) : Int) - 1 = (j : Int) by omega]
          rw [ea] at hT'
          refine v0 (S0.move rfl) rfl <| v0 (S0.extract rfl rfl) rfl <| v0 (S0.extract rfl rfl) rfl <| v0 (S0.assign rfl) rfl <| v0 (S0.assign rfl) rfl <| vE <| WP.seq <| WP.region <| v0 (S0.move rfl) rfl <| v0 (S0.move rfl) rfl <| v0 (S0.cmp rfl rfl rfl) rfl <| v0 (S0.move rfl) rfl <| ?_  -- guard t86 (wants False) at t87 := move t7 [if #3=False]
          refine csFh (t := 86) rfl ((by simp)) ?_
          refine gT rfl <| v0 (S0.move rfl) rfl <| gT rfl <| v0 (S0.move rfl) rfl <| gT rfl <| v0 (S0.move rfl) rfl <| ?_  -- op t90 := call F25{(*rivulet/trie.Trie).Has}(t87, t88, t89) [if #3=False]
          refine gT rfl <| vcd (S1.callF rfl (has_spec hT' hsl id) (take1 at0 take0)) rfl ?_
          rw [mkL_has]
          refine gT rfl <| v0 (S0.move rfl) rfl <| gT rfl <| v0 (S0.cmp rfl rfl rfl) rfl <| v0 (S0.pickF rfl rfl) rfl <| v0 (S0.move rfl) rfl <| ?_  -- guard t94 (wants False) at t95 := move t7 [if #11=False]
          refine csFh (t := 94) rfl ((by simp)) ?_
          refine gT rfl <| v0 (S0.move rfl) rfl <| ?_  -- op t96 := call F18{(*rivulet/trie.Trie).All}(t95) [if #11=False]
          refine gT rfl <| vc (S1.callF rfl (all_spec hT' (mkL_b s id (m := j) (by omega)) (by decide)) (take1 at0 take0)) rfl ?_
          rintro _ _ ⟨arow, ha, rfl⟩
          refine app ?_
          obtain ⟨aa, ac, rfl, -, -⟩ := ha.strsE
          rw [hal]
          refine gT rfl <| v0 (S0.lenSl rfl) rfl <| gT rfl <| v0 (S0.cmp rfl rfl rfl) rfl <| gT rfl <| v0 (S0.move rfl) rfl <| gT rfl <| v0 (S0.cmp rfl rfl rfl) rfl <| gT rfl <| v0 (S0.cmpB rfl rfl rfl) rfl <| v0 (S0.pickF rfl rfl) rfl <| vE <| ?_  -- cond
          refine WP.condFh rfl ((by by_cases e : 0 < j <;> simp [e] <;> omega)) ?_
          refine WP.skip <| WP.region <| v0 (S0.move rfl) rfl <| v0 (S0.ari rfl rfl rfl (wrap_i64 (by omega))) rfl <| v0 (S0.assign rfl) rfl <| vE <| ?_  -- roundend
          exact ⟨(j, c'), (by first | exact ⟨by omega, hT'⟩ | (dsimp only; exact ⟨by omega, hT'⟩)), (show j < j + 1 by omega), ⟨⟨rfl, rfl, rfl, rfl, trivial⟩, rfl, rfl⟩, ⟨_, (take1 (atS at0) (take1 (atS at0) take0))⟩⟩
        · skip
          have ej : j = 0 := by omega
          subst ej
          have eO : ofK (mkL s id 0) id = [] := rfl
          refine WP.exit <| WP.seq <| WP.region <| v0 (S0.move rfl) rfl <| v0 (S0.move rfl) rfl <| ?_  -- op t105 := call F23{(*rivulet/trie.Trie).Of}(t103, t104)
          refine vc (S1.callF rfl (of_spec hT (mkL_b s id (m := 0) (by omega)) (by decide) id) (take1 at0 take0)) rfl ?_
          rintro _ _ ⟨orow, ho, rfl⟩
          refine app ?_
          rw [eO] at ho
          obtain ⟨oa, oc, rfl, -, -⟩ := ho.strsE
          refine v0 (S0.lenSl rfl) rfl <| v0 (S0.cmp rfl rfl rfl) rfl <| v0 (S0.move rfl) rfl <| ?_  -- guard t108 (wants True) at t109 := call F27{rivulet/rivuletlaw04.fixed}() [if #5=True]
          refine csTh (t := 108) rfl (rfl) ?_
          -- (nothing to walk: op t109 := call F27{rivulet/rivuletlaw04.fixed}() [if #5=True])
          refine gT rfl <| vcd (S1.callF rfl (fixed_spec) take0) rfl ?_
          refine v0 (S0.pickT rfl rfl) rfl <| v0 (S0.assign rfl) rfl <| vE <| WP.ret <| ?_  -- ret
          refine Leaves.drop (take1 (atS (atS at0)) take0) ?_
          refine r1 rfl rfl ?_
          exact ⟨rfl, rfl⟩
  · skip
    refine csTh (t := 28) rfl ((by simp [hF])) ?_
    refine gF rfl rfl <| gF rfl rfl <| v0 (S0.pickT rfl rfl) rfl <| vE <| WP.condT rfl <| WP.seq <| WP.region <| v0 (S0.move rfl) rfl <| v0 (S0.nilP rfl rfl rfl rfl) rfl <| v0 (S0.move rfl) rfl <| ?_  -- guard t34 (wants True) at t35 := move t7 [if #2=True]
    refine csTh (t := 34) rfl (rfl) ?_
    refine gT rfl <| v0 (S0.move rfl) rfl <| gT rfl <| v0 (S0.move rfl) rfl <| gT rfl <| v0 (S0.move rfl) rfl <| ?_  -- op t38 := call F25{(*rivulet/trie.Trie).Has}(t35, t36, t37) [if #2=True]
    refine gT rfl <| vcd (S1.callF rfl (has_spec h0 hsl id) (take1 at0 take0)) rfl ?_
    refine gT rfl <| v0 (S0.cmp rfl rfl rfl) rfl <| v0 (S0.pickT rfl rfl) rfl <| v0 (S0.move rfl) rfl <| ?_  -- guard t41 (wants True) at t42 := call F27{rivulet/rivuletlaw04.fixed}() [if #9=True]
    refine csTh (t := 41) rfl (rfl) ?_
    -- (nothing to walk: op t42 := call F27{rivulet/rivuletlaw04.fixed}() [if #9=True])
    refine gT rfl <| vcd (S1.callF rfl (fixed_spec) take0) rfl ?_
    refine v0 (S0.pickT rfl rfl) rfl <| v0 (S0.assign rfl) rfl <| vE <| WP.ret <| ?_  -- ret
    refine Leaves.drop (take1 (atS at0) take0) ?_
    refine r1 rfl rfl ?_
    exact ⟨rfl, rfl⟩
end Go.Proofs.YtmkgokjfkmbcoaaGreatDoor
/- Door -/
/-
  A world in which Go's two tables of utf8 are laid.
-/
namespace Go.Proofs.YtmkgokjfkmbcoaaGreatDoor
open Go

def u8s (l : List Nat) : Array Value := (l.map fun (n : Nat) => Value.int .u8 n).toArray
def acceptZ : List Nat := [128, 191, 160, 191, 128, 159, 144, 191, 128, 143, 0, 0, 0, 0, 0, 0, 0, 0, 0, 0, 0, 0, 0, 0, 0, 0, 0, 0, 0, 0, 0, 0]
noncomputable def laidWorld (os : Os) : World :=
  let w0 := World.holding Tryz.prog os ⟨#[], #[], []⟩
  { w0 with heap := (w0.heap.modify 1 fun
      | .cells _ t frozen => .cells (u8s acceptZ) t frozen
      | o => o).modify 0 fun
      | .cells _ t frozen => .cells (u8s Go.Pinned.utf8FirstZ) t frozen
      | o => o }
abbrev laidList : List (String × DataW Unit) := [("unicode/utf8.acceptRanges", Rows.laid_unicode_utf8_acceptRanges), ("unicode/utf8.first", Rows.laid_unicode_utf8_first)]
set_option maxRecDepth 100000 in
theorem laidWorld_met (os : Os) (args : Array Value) : laidMetH Tryz.prog laidList ((laidWorld os).forCall (fun _ _ => 0) ⟨#[], args, []⟩).memory :=
  laidMetH_of_parts (laidMet_of_run' 100 (by kernel_rfl) (by kernel_rfl)) (by kernel_rfl)
end Go.Proofs.YtmkgokjfkmbcoaaGreatDoor
