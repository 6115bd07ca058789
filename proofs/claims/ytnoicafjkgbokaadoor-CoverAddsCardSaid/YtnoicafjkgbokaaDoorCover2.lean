import Derived.Test.YtnoicafjkgbokaaDoorCover
namespace Go.Proofs.YtnoicafjkgbokaaDoor
open Go

theorem sorted_at {c : List Str} (hs : SortedS c) {i k : Nat} {x y : Str} (hx : c[i]? = some x) (hy : c[k]? = some y) : (decide (k = i) = decide (y = x)) ∧ (k ≠ i → lessS y x = decide (k < i)) := by
  obtain ⟨hi, ex⟩ := List.getElem?_eq_some_iff.1 hx
  obtain ⟨hk, ey⟩ := List.getElem?_eq_some_iff.1 hy
  have h1 := List.pairwise_iff_getElem.1 hs
  rcases Nat.lt_trichotomy k i with h | h | h
  · have := h1 k i hk hi h
    rw [ex, ey] at this
    have hne : y ≠ x := fun e => by subst e; rw [lessS_irr] at this; cases this
    exact ⟨by simp [hne]; omega, fun _ => by rw [this]; simp [h]⟩
  · subst h
    rw [hx] at hy; cases hy
    exact ⟨by simp, fun h => absurd rfl h⟩
  · have := h1 i k hi hk h
    rw [ex, ey] at this
    have hne : y ≠ x := fun e => by subst e; rw [lessS_irr] at this; cases this
    exact ⟨by simp [hne]; omega, fun _ => by rw [lessS_asym this]; simp; omega⟩
theorem dom_at {c : List Str} (hs : SortedS c) {i k : Nat} {x y : Str} (hx : c[i]? = some x) (hy : c[k]? = some y) : domS y x = (!decide (k = i) && coversS y x && (!coversS x y || decide (k < i))) := by
  obtain ⟨e1, e2⟩ := sorted_at hs hx hy
  by_cases h : k = i
  · subst h
    rw [hx] at hy; cases hy
    simp [dom_irr]
  · have hne : y ≠ x := fun e => by simp [e] at e1; exact h e1
    rw [domS, e2 h]
    simp [h, hne]
theorem any_upto {α : Type} {c : List α} {p : α → Bool} (h : ∀ j y, j < c.length → c[j]? = some y → p y = false) : c.any p = false := by
  rw [List.any_eq_false]
  intro y hy
  obtain ⟨j, hj, rfl⟩ := List.getElem_of_mem hy
  simp [h j _ hj (List.getElem?_eq_getElem hj)]
theorem least_spec {v : Value} {l : List Str} {c : List Blk} (hr : RdS v l c) (hx : ∀ x ∈ l, x.length ≤ 1000) (hl : l.length ≤ 1000) : FN Tryd.prog 12 [v] [c] (fun u h => ∃ row, IsSl 9 1 u (strs (leastS l)) row ∧ h = [row, c]) := by
  have hcs := clean_sorted l
  have hcl := clean_len l
  have hcx : ∀ x ∈ cleanS l, x.length ≤ 1000 := fun x h => hx x (mem_clean.1 h).1
  rw [leastS]
  refine FN.intro 59 [(0, v)] Tryd.func12 rfl (enters Tryd.func12 (by kernel_rfl) rfl) Tryd.ntmps12 rfl rfl ?_
  refine WP.seq <| WP.region <| v0 (S0.assign rfl) rfl <| vE <| WP.scope <| WP.seq <| WP.region <| v0 (S0.move rfl) rfl <| ?_  -- op t10 := call F29{rivulet/cover.clean}(t9)
  refine vc (S1.callF rfl (clean_spec hr hx hl) (take1 at0 take0)) rfl ?_
  rintro u _ ⟨crow, hsc, rfl⟩
  refine app ?_
  generalize cleanS l = C at hcs hcl hcx hsc
  obtain ⟨a, cap, rfl, -, hrow⟩ := hsc.strsE
  refine v0 (S0.assign rfl) rfl <| vE <| WP.seq <| WP.region <| v0 (S0.assign rfl) rfl <| vE <| WP.seq <| WP.label <| WP.seq <| WP.seq <| WP.region <| v0 (S0.move rfl) rfl <| v0 (S0.lenSl rfl) rfl <| v0 (S0.move rfl) rfl <| vE <| WP.block <| ?_  -- Code.loop
  refine WP.loop (fun st : Nat × Value × List Blk => st.1 ≤ C.length ∧ IsSl 9 1 st.2.1 (strs ((C.take st.1).filter fun f => !C.any fun g => domS g f)) st.2.2) (fun st : Nat × Value × List Blk => [(3, .slice a C.length cap), (4, st.2.1), (12, .int .i64 (C.length : Int)), (13, .int .i64 (st.1 : Int))]) (fun st : Nat × Value × List Blk => [st.2.2, crow, c]) (fun st : Nat × Value × List Blk => C.length - st.1) ((0, .slice none 0 0, [])) (⟨Nat.zero_le _, by simpa using IsSl.nil⟩) ⟨rfl, rfl, rfl, rfl, trivial⟩ ⟨[], by simp⟩ (fun st hinv => ?_) 
  obtain ⟨i, ov, row⟩ := st
  obtain ⟨hi, hsl⟩ := hinv
  dsimp only at hi hsl ⊢
  refine WP.seq <| WP.region <| v0 (S0.cmp rfl rfl rfl) rfl <| vE <| WP.seq <| ?_  -- cond
  first | refine WP.condP rfl (fun h1 => ?_) (fun h1 => ?_) | refine WP.condN rfl (fun h1 => ?_) (fun h1 => ?_) | refine WP.cond rfl (fun h1 => ?_) (fun h1 => ?_)
  · skip
    have hlt : i < C.length := by omega
    rcases hrow with ⟨e, -⟩ | ⟨b1, sp1, rfl, rfl, hsp1⟩
    · rw [e] at hlt; simp at hlt
    have hg : C[i]? = some C[i] := by simp [hlt]
    have hxl := hcx _ (List.getElem_mem hlt)
    generalize C[i] = x at hg hxl
    have htk : C.take (i + 1) = C.take i ++ [x] := by rw [List.take_add_one, hg]; rfl
    have hfl := List.length_filter_le (fun f => !C.any fun g => domS g f) (C.take i)
    have htl : (C.take i).length ≤ C.length := by simp; omega
    refine WP.skip <| WP.seq <| WP.block <| WP.seq <| WP.region <| v0 (S0.move rfl) rfl <| v0 (S0.assign rfl) rfl <| vE <| WP.seq <| WP.seq <| WP.region <| v0 (S0.move rfl) rfl <| v0 (S0.lenSl rfl) rfl <| v0 (S0.move rfl) rfl <| vE <| WP.block <| ?_  -- Code.loop
    refine WP.loop (fun k : Nat => k ≤ C.length ∧ ∀ j y, j < k → C[j]? = some y → domS y x = false) (fun k : Nat => [(3, .slice (some ⟨b1, 0, none⟩) C.length cap), (4, ov), (5, .int .i64 (i : Int)), (12, .int .i64 (C.length : Int)), (13, .int .i64 (i : Int)), (16, .slice (some ⟨b1, 0, none⟩) C.length cap), (17, .int .i64 (C.length : Int)), (18, .int .i64 (k : Int))]) (fun k : Nat => [row, [(b1, .cells ⟨strs C ++ sp1⟩ 9 (0, 0))], c]) (fun k : Nat => C.length - k) (0) (⟨Nat.zero_le _, fun j y hj => by omega⟩) ⟨rfl, rfl, rfl, rfl, rfl, rfl, rfl, rfl, trivial⟩ ⟨_, (take1 at0 (take1 at0 (take1 at0 take0)))⟩ (fun k hinv => ?_) 
    obtain ⟨hk, hno⟩ := hinv
    refine WP.seq <| WP.region <| v0 (S0.cmp rfl rfl rfl) rfl <| vE <| WP.seq <| ?_  -- cond
    first | refine WP.condP rfl (fun h2 => ?_) (fun h2 => ?_) | refine WP.condN rfl (fun h2 => ?_) (fun h2 => ?_) | refine WP.cond rfl (fun h2 => ?_) (fun h2 => ?_)
    · skip
      have hlt2 : k < C.length := by omega
      have hy : C[k]? = some C[k] := by simp [hlt2]
      have hyl := hcx _ (List.getElem_mem hlt2)
      generalize C[k] = y at hy hyl
      have hd := dom_at hcs hg hy
      have hdi : decide ((k : Int) = (i : Int)) = decide (k = i) := decide_eq_decide.2 (by omega)
      have hdl : decide ((k : Int) < (i : Int)) = decide (k < i) := decide_eq_decide.2 (by omega)
      have hgo : domS y x = false → ∀ j z, j < k + 1 → C[j]? = some z → domS z x = false := fun e => below_at (p := fun _ z => domS z x = false) hno hy e
      refine WP.skip <| WP.seq <| WP.block <| WP.seq <| WP.region <| v0 (S0.move rfl) rfl <| ?_  -- op t21 := indexAddr 22 t16 t18
      refine v0 (S0.index1 rfl rfl hlt2) rfl <| ?_
      refine v0 (S0.load rfl (strs_get hy)) rfl <| ?_
      refine v0 (S0.assign rfl) rfl <| v0 (S0.assign rfl) rfl <| vE <| WP.seq <| WP.region <| v0 (S0.move rfl) rfl <| v0 (S0.move rfl) rfl <| ?_  -- op t25 := indexAddr 22 t23 t24
      refine v0 (S0.index1 rfl rfl hlt) rfl <| ?_
      refine v0 (S0.load rfl (strs_get hg)) rfl <| ?_
      refine v0 (S0.move rfl) rfl <| ?_  -- op t28 := call F30{rivulet/topic.Covers}(t26, t27)
      refine vcd (S1.callF rfl (tcovers_spec (show x.length ≤ 100000 by omega) (show y.length ≤ 100000 by omega)) take0) rfl ?_
      refine v0 (S0.assign rfl) rfl <| vE <| WP.seq <| WP.region <| v0 (S0.move rfl) rfl <| v0 (S0.move rfl) rfl <| v0 (S0.cmp rfl rfl rfl) rfl <| v0 (S0.move rfl) rfl <| ?_  -- guard t32 (wants True) at t33 := move t7 [if #3=True]
      first | refine csP (t := 32) rfl (fun h3 => ?_) (fun h3 => ?_) | refine csN (t := 32) rfl (fun h3 => ?_) (fun h3 => ?_) | refine cs (t := 32) rfl (fun h3 => ?_) (fun h3 => ?_)
      · skip
        have hki : ¬ k = i := by omega
        refine gT rfl <| v0 (S0.move rfl) rfl <| gT rfl <| v0 (S0.move rfl) rfl <| gT rfl <| v0 (S0.move rfl) rfl <| ?_  -- op t36 := indexAddr 22 t34 t35 [if #3=True]
        refine gT rfl <| v0 (S0.index1 rfl rfl hlt) rfl <| ?_
        refine gT rfl <| v0 (S0.load rfl (strs_get hg)) rfl <| ?_
        -- (nothing to walk: op t38 := call F30{rivulet/topic.Covers}(t33, t37) [if #3=True])
        refine gT rfl <| vcd (S1.callF rfl (tcovers_spec (show y.length ≤ 100000 by omega) (show x.length ≤ 100000 by omega)) take0) rfl ?_
        refine v0 (S0.pickT rfl rfl) rfl <| v0 (S0.move rfl) rfl <| ?_  -- guard t40 (wants True) at t41 := move t8 [if #11=True]
        first | refine csP (t := 40) rfl (fun h4 => ?_) (fun h4 => ?_) | refine csN (t := 40) rfl (fun h4 => ?_) (fun h4 => ?_) | refine cs (t := 40) rfl (fun h4 => ?_) (fun h4 => ?_)
        · skip
          refine gT rfl <| v0 (S0.move rfl) rfl <| gT rfl <| v0 (S0.not rfl) rfl <| gT rfl <| v0 (S0.move rfl) rfl <| ?_  -- guard t43 (wants False) at t44 := move t6 [if #14=False]
          first | refine csP (t := 43) rfl (fun h5 => ?_) (fun h5 => ?_) | refine csN (t := 43) rfl (fun h5 => ?_) (fun h5 => ?_) | refine cs (t := 43) rfl (fun h5 => ?_) (fun h5 => ?_)
          · skip
            have h5' : coversS x y = false := by simpa using h5
            have hdt : domS y x = true := by rw [hd]; simp [hki, h4, h5']
            have hany : C.any (fun g => domS g x) = true := List.any_eq_true.2 ⟨y, List.mem_of_getElem? hy, hdt⟩
            refine gF rfl rfl <| gF rfl rfl <| gF rfl rfl <| gT rfl <| v0 (S0.pickT rfl rfl) rfl <| v0 (S0.pickT rfl rfl) rfl <| vE <| WP.condT rfl <| WP.exit <| WP.region <| v0 (S0.ari rfl rfl rfl (wrap_i64 (by omega))) rfl <| v0 (S0.move rfl) rfl <| vE <| ?_  -- roundend
            exact ⟨(i + 1, ov, row), (by first | exact ⟨hlt, by rw [htk, List.filter_append]; simpa [hany] using hsl⟩ | (dsimp only; exact ⟨hlt, by rw [htk, List.filter_append]; simpa [hany] using hsl⟩)), (show C.length - (i + 1) < C.length - i by omega), ⟨⟨rfl, rfl, rfl, rfl, trivial⟩, rfl, rfl⟩, ⟨_, (take1 at0 (take1 at0 (take1 at0 take0)))⟩⟩
          · skip
            have h5' : coversS x y = true := by simpa using h5
            refine gT rfl <| v0 (S0.move rfl) rfl <| gT rfl <| v0 (S0.move rfl) rfl <| gT rfl <| v0 (S0.cmp rfl rfl rfl) rfl <| gT rfl <| v0 (S0.pickF rfl rfl) rfl <| v0 (S0.pickT rfl rfl) rfl <| vE <| ?_  -- cond
            first | refine WP.condP rfl (fun h6 => ?_) (fun h6 => ?_) | refine WP.condN rfl (fun h6 => ?_) (fun h6 => ?_) | refine WP.cond rfl (fun h6 => ?_) (fun h6 => ?_)
            · skip
              have hdt : domS y x = true := by rw [hd]; simp [hki, h4, h5']; omega
              have hany : C.any (fun g => domS g x) = true := List.any_eq_true.2 ⟨y, List.mem_of_getElem? hy, hdt⟩
              refine WP.exit <| WP.region <| v0 (S0.ari rfl rfl rfl (wrap_i64 (by omega))) rfl <| v0 (S0.move rfl) rfl <| vE <| ?_  -- roundend
              exact ⟨(i + 1, ov, row), (by first | exact ⟨hlt, by rw [htk, List.filter_append]; simpa [hany] using hsl⟩ | (dsimp only; exact ⟨hlt, by rw [htk, List.filter_append]; simpa [hany] using hsl⟩)), (show C.length - (i + 1) < C.length - i by omega), ⟨⟨rfl, rfl, rfl, rfl, trivial⟩, rfl, rfl⟩, ⟨_, (take1 at0 (take1 at0 (take1 at0 take0)))⟩⟩
            · skip
              refine WP.skip <| WP.region <| v0 (S0.ari rfl rfl rfl (wrap_i64 (by omega))) rfl <| v0 (S0.move rfl) rfl <| vE <| ?_  -- roundend
              exact ⟨k + 1, (by first | exact ⟨hlt2, hgo (by rw [hd]; simp [hki, h4, h5']; omega)⟩ | (dsimp only; exact ⟨hlt2, hgo (by rw [hd]; simp [hki, h4, h5']; omega)⟩)), (by omega), ⟨⟨rfl, rfl, rfl, rfl, rfl, rfl, rfl, rfl, trivial⟩, rfl, rfl⟩, ⟨_, (take1 at0 (take1 at0 (take1 at0 take0)))⟩⟩
        · skip
          refine gF rfl rfl <| gF rfl rfl <| gF rfl rfl <| gF rfl rfl <| gF rfl rfl <| gF rfl rfl <| gF rfl rfl <| v0 (S0.pickF rfl rfl) rfl <| vE <| WP.condF rfl <| WP.skip <| WP.region <| v0 (S0.ari rfl rfl rfl (wrap_i64 (by omega))) rfl <| v0 (S0.move rfl) rfl <| vE <| ?_  -- roundend
          exact ⟨k + 1, (by first | exact ⟨hlt2, hgo (by rw [hd]; simp [h4])⟩ | (dsimp only; exact ⟨hlt2, hgo (by rw [hd]; simp [h4])⟩)), (by omega), ⟨⟨rfl, rfl, rfl, rfl, rfl, rfl, rfl, rfl, trivial⟩, rfl, rfl⟩, ⟨_, (take1 at0 (take1 at0 (take1 at0 take0)))⟩⟩
      · skip
        have hki : k = i := by omega
        refine gF rfl rfl <| gF rfl rfl <| gF rfl rfl <| gF rfl rfl <| gF rfl rfl <| gF rfl rfl <| v0 (S0.pickF rfl rfl) rfl <| v0 (S0.move rfl) rfl <| gF rfl rfl <| gF rfl rfl <| gF rfl rfl <| gF rfl rfl <| gF rfl rfl <| gF rfl rfl <| gF rfl rfl <| v0 (S0.pickF rfl rfl) rfl <| vE <| WP.condF rfl <| WP.skip <| WP.region <| v0 (S0.ari rfl rfl rfl (wrap_i64 (by omega))) rfl <| v0 (S0.move rfl) rfl <| vE <| ?_  -- roundend
        exact ⟨k + 1, (by first | exact ⟨hlt2, hgo (by rw [hd]; simp [hki])⟩ | (dsimp only; exact ⟨hlt2, hgo (by rw [hd]; simp [hki])⟩)), (by omega), ⟨⟨rfl, rfl, rfl, rfl, rfl, rfl, rfl, rfl, trivial⟩, rfl, rfl⟩, ⟨_, (take1 at0 (take1 at0 (take1 at0 take0)))⟩⟩
    · skip
      have hany : C.any (fun g => domS g x) = false := any_upto fun j y hj hy => hno j y (by omega) hy
      refine WP.exit <| WP.region <| v0 (S0.move rfl) rfl <| v0 (S0.move rfl) rfl <| v0 (S0.move rfl) rfl <| ?_  -- op t53 := indexAddr 22 t51 t52
      refine v0 (S0.index1 rfl rfl hlt) rfl <| ?_
      refine v0 (S0.load rfl (strs_get hg)) rfl <| ?_
      refine vnv (S1.buildSlice rfl (qs := [(0, _)]) rfl rfl) rfl fun b55 => ?_  -- op t56 := append(t50, t55) :[22, 22]
      refine ve (S1.appendL rfl hsl rfl rfl (atS at0) rfl rfl (by rw [strs_len]; simp; omega)) rfl ?_
      rintro v2 _ ⟨row2, hsl2, rfl⟩
      refine v0 (S0.assign rfl) rfl <| vE <| WP.region <| v0 (S0.ari rfl rfl rfl (wrap_i64 (by omega))) rfl <| v0 (S0.move rfl) rfl <| vE <| ?_  -- roundend
      exact ⟨(i + 1, v2, row2), (by first | exact ⟨hlt, by rw [htk, List.filter_append]; simpa [hany, strs] using hsl2⟩ | (dsimp only; exact ⟨hlt, by rw [htk, List.filter_append]; simpa [hany, strs] using hsl2⟩)), (show C.length - (i + 1) < C.length - i by omega), ⟨⟨rfl, rfl, rfl, rfl, trivial⟩, rfl, rfl⟩, ⟨_, (take1 at0 (take1 (atS at0) (take1 (atS at0) take0)))⟩⟩
  · skip
    have e : i = C.length := by omega
    subst e
    rw [List.take_length] at hsl
    refine WP.exit <| WP.seq <| WP.region <| v0 (S0.move rfl) rfl <| v0 (S0.assign rfl) rfl <| vE <| WP.ret <| ?_  -- ret
    refine Leaves.drop (take1 at0 (take1 (atS at0) take0)) ?_
    refine r1 rfl rfl ?_
    exact ⟨row, hsl, rfl⟩
end Go.Proofs.YtnoicafjkgbokaaDoor
