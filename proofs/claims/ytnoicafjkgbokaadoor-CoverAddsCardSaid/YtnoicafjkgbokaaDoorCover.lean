import Derived.Test.YtnoicafjkgbokaaDoorSortF
import Derived.Test.YtnoicafjkgbokaaDoorGrow
namespace Go.Proofs.YtnoicafjkgbokaaDoor
open Go

theorem strs_snoc (l : List Str) (x : Str) : strs (l ++ [x]) = strs l ++ [sv x] := by simp [strs]
theorem clean_spec {v : Value} {l : List Str} {c : List Blk} (hr : RdS v l c) (hx : ∀ x ∈ l, x.length ≤ 1000) (hl : l.length ≤ 1000) : FN Tryd.prog 29 [v] [c] (fun u h => ∃ row, IsSl 9 1 u (strs (cleanS l)) row ∧ h = [row, c]) := by
  obtain ⟨a, cap, rfl, hcap, hr⟩ := hr
  refine FN.intro 23 [(0, .slice a l.length cap)] Tryd.func29 rfl (enters Tryd.func29 (by kernel_rfl) rfl) Tryd.ntmps29 rfl rfl ?_
  refine WP.seq <| WP.region <| v0 (S0.assign rfl) rfl <| vE <| WP.seq <| WP.region <| v0 (S0.assign rfl) rfl <| vE <| WP.seq <| WP.seq <| WP.region <| v0 (S0.move rfl) rfl <| v0 (S0.lenSl rfl) rfl <| v0 (S0.move rfl) rfl <| vE <| WP.block <| ?_  -- Code.loop
  refine WP.loop (fun st : Nat × Value × List Blk => st.1 ≤ l.length ∧ IsSl 9 1 st.2.1 (strs ((l.take st.1).filter filtS)) st.2.2) (fun st : Nat × Value × List Blk => [(0, .slice a l.length cap), (3, st.2.1), (6, .slice a l.length cap), (7, .int .i64 (l.length : Int)), (8, .int .i64 (st.1 : Int))]) (fun st : Nat × Value × List Blk => [st.2.2, c]) (fun st : Nat × Value × List Blk => l.length - st.1) ((0, .slice none 0 0, [])) (⟨Nat.zero_le _, by simpa using IsSl.nil⟩) ⟨rfl, rfl, rfl, rfl, rfl, trivial⟩ ⟨[], by simp⟩ (fun st hinv => ?_) 
  obtain ⟨i, ov, row⟩ := st
  obtain ⟨hi, hsl⟩ := hinv
  dsimp only at hi hsl ⊢
  refine WP.seq <| WP.region <| v0 (S0.cmp rfl rfl rfl) rfl <| vE <| WP.seq <| ?_  -- cond
  first | refine WP.condP rfl (fun h1 => ?_) (fun h1 => ?_) | refine WP.condN rfl (fun h1 => ?_) (fun h1 => ?_) | refine WP.cond rfl (fun h1 => ?_) (fun h1 => ?_)
  · skip
    have hlt : i < l.length := by omega
    rcases hr with e | ⟨b1, o1, L1, U1, fz1, rfl, hm1, he1⟩
    · rw [e] at hlt; simp at hlt
    have : HasC c b1 (.cells ⟨L1⟩ U1 fz1) := ⟨hm1⟩
    have hg : l[i]? = some l[i] := by simp [hlt]
    have hxl := hx _ (List.getElem_mem hlt)
    generalize l[i] = x at hg hxl
    have hxe := he1 i x hg
    have htk : l.take (i + 1) = l.take i ++ [x] := by rw [List.take_add_one, hg]; rfl
    skip
    refine WP.skip <| WP.seq <| WP.block <| WP.seq <| WP.region <| ?_  -- op t10 := indexAddr 22 t6 t8
    refine v0 (S0.indexO1 rfl rfl hlt) rfl <| ?_
    refine v0 (S0.load rfl (rdS_get hxe)) rfl <| ?_
    refine v0 (S0.assign rfl) rfl <| vE <| WP.seq <| WP.region <| v0 (S0.move rfl) rfl <| ?_  -- op t13 := call F46{rivulet/topic.Filter}(t12)
    refine vcd (S1.callF rfl (filter_spec (show x.length ≤ 1000000 by omega)) take0) rfl ?_
    refine vE <| ?_  -- cond
    first | refine WP.condP rfl (fun h2 => ?_) (fun h2 => ?_) | refine WP.condN rfl (fun h2 => ?_) (fun h2 => ?_) | refine WP.cond rfl (fun h2 => ?_) (fun h2 => ?_)
    · skip
      have hfl := List.length_filter_le filtS (l.take i)
      have htl : (l.take i).length ≤ l.length := by simp; omega
      refine WP.region <| v0 (S0.move rfl) rfl <| v0 (S0.move rfl) rfl <| vnv (S1.buildSlice rfl (qs := [(0, _)]) rfl rfl) rfl fun b16 => ?_  -- op t17 := append(t14, t16) :[22, 22]
      refine ve (S1.appendL rfl hsl rfl rfl (atS at0) rfl rfl (by rw [strs_len]; simp; omega)) rfl ?_
      rintro v2 _ ⟨row2, hsl2, rfl⟩
      refine v0 (S0.assign rfl) rfl <| vE <| WP.region <| v0 (S0.ari rfl rfl rfl (wrap_i64 (by omega))) rfl <| v0 (S0.move rfl) rfl <| vE <| ?_  -- roundend
      exact ⟨(i + 1, v2, row2), (by first | exact ⟨hlt, by rw [htk, List.filter_append]; simpa [h2, strs] using hsl2⟩ | (dsimp only; exact ⟨hlt, by rw [htk, List.filter_append]; simpa [h2, strs] using hsl2⟩)), (show l.length - (i + 1) < l.length - i by omega), ⟨⟨rfl, rfl, rfl, rfl, rfl, trivial⟩, rfl, rfl⟩, ⟨_, (take1 at0 (take1 (atS at0) take0))⟩⟩
    · skip
      refine WP.skip <| WP.region <| v0 (S0.ari rfl rfl rfl (wrap_i64 (by omega))) rfl <| v0 (S0.move rfl) rfl <| vE <| ?_  -- roundend
      exact ⟨(i + 1, ov, row), (by first | exact ⟨hlt, by rw [htk, List.filter_append]; simpa [h2] using hsl⟩ | (dsimp only; exact ⟨hlt, by rw [htk, List.filter_append]; simpa [h2] using hsl⟩)), (show l.length - (i + 1) < l.length - i by omega), ⟨⟨rfl, rfl, rfl, rfl, rfl, trivial⟩, rfl, rfl⟩, ⟨_, (take1 at0 (take1 at0 take0))⟩⟩
  · skip
    have e : i = l.length := by omega
    subst e
    rw [List.take_length] at hsl
    have hfl := List.length_filter_le filtS l
    refine WP.exit <| WP.seq <| WP.region <| v0 (S0.move rfl) rfl <| ?_  -- op t20 := call F47{slices.SortFunc[[]string,string]}(t19, F48)
    refine vc (S1.callF rfl (sortF_spec (fun x y => order_spec (Nat.le_trans x.2 (by omega)) (Nat.le_trans y.2 (by omega))) hsl (fun x hm => by have := hx x (List.mem_filter.1 hm).1; omega) (by omega)) (take1 at0 take0)) rfl ?_
    rintro _ _ ⟨rfl, row2, hsl2, rfl⟩
    refine app ?_
    refine vE <| WP.seq <| WP.region <| v0 (S0.move rfl) rfl <| ?_  -- op t22 := call F49{slices.Compact[[]string,string]}(t21)
    refine vc (S1.callF rfl (compact_spec hsl2 (by have := (sortP_perm (l.filter filtS)).length_eq; omega)) (take1 at0 take0)) rfl ?_
    rintro u _ ⟨row3, hsl3, rfl⟩
    refine app ?_
    refine v0 (S0.assign rfl) rfl <| vE <| WP.ret <| ?_  -- ret
    refine r1 rfl rfl ?_
    exact ⟨row3, by rw [← compact_clean]; exact hsl3, rfl⟩
end Go.Proofs.YtnoicafjkgbokaaDoor
