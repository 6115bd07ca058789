import Derived.Test.YtnoicafjkgbokaaDoorRefA
namespace Go.Proofs.YtnoicafjkgbokaaDoor
open Go

/-- at rows of one length -/
def okAt (A B : List Str) (n : Nat) : Bool := !(rowL B n).2 || ((rowL A n).2 && rowOk (rowL A n).1 (rowL B n).1)
theorem covX_at {A B : List Str} (ha : filtL A = true) (hb : filtL B = true) (hna : A ≠ []) (hnb : B ≠ []) : CovX 1 8 A B ↔ ∀ n, 1 ≤ n → n ≤ 8 → okAt A B n = true := by
  constructor
  · intro h n h1 h8
    unfold okAt
    cases hq : (rowL B n).2 with
    | false => rfl
    | true =>
      obtain ⟨x, hx, ho⟩ := h n (rowL B n).1 h1 h8 (by rw [rowO_row _ _ hb hnb, hq]; rfl)
      rw [rowO_row _ _ ha hna] at hx
      split at hx
      · rename_i h2; simp at hx; subst hx; simp [h2, ho]
      · cases hx
  · intro h n y h1 h8 hy
    have := h n h1 h8
    unfold okAt at this
    rw [rowO_row _ _ hb hnb] at hy
    split at hy
    · rename_i h2
      simp at hy; subst hy
      simp only [h2, Bool.not_true, Bool.false_or, Bool.and_eq_true] at this
      exact ⟨_, by rw [rowO_row _ _ ha hna, this.1]; rfl, this.2⟩
    · cases hy
theorem rcovers_spec {a b : Str} (ha : a.length ≤ 100000) (hb : b.length ≤ 100000) : FN Tryd.prog 24 [sv a, sv b] [] (is (.bool (coversS a b)) []) := by
  refine FN.intro 67 [(0, sv a), (1, sv b)] Tryd.func24 rfl (enters Tryd.func24 (by kernel_rfl) rfl) Tryd.ntmps24 rfl rfl ?_
  refine WP.seq <| WP.region <| v0 (S0.assign rfl) rfl <| vE <| WP.seq <| WP.seq <| WP.region <| v0 (S0.move rfl) rfl <| ?_  -- op t12 := call F23{rivulet/rivuletref03.Filter}(t11)
  refine vcd (S1.callF rfl (rfilter_spec (show a.length ≤ 900000 by omega)) take0) rfl ?_
  refine v0 (S0.not rfl) rfl <| v0 (S0.move rfl) rfl <| ?_  -- guard t14 (wants False) at t15 := move t1 [if #3=False]
  first | refine csP (t := 14) rfl (fun h1 => ?_) (fun h1 => ?_) | refine csN (t := 14) rfl (fun h1 => ?_) (fun h1 => ?_) | refine cs (t := 14) rfl (fun h1 => ?_) (fun h1 => ?_)
  · skip
    have h1' : filtS a = false := by simpa using h1
    refine gF rfl rfl <| gF rfl rfl <| gF rfl rfl <| v0 (S0.pickT rfl rfl) rfl <| vE <| WP.condT rfl <| WP.seq <| WP.region <| v0 (S0.assign rfl) rfl <| vE <| WP.ret <| ?_  -- ret
    refine r1 rfl rfl ⟨?_, rfl⟩
    simp [coversS, h1']
  · skip
    have hfa : filtS a = true := by simpa using h1
    refine gT rfl <| v0 (S0.move rfl) rfl <| ?_  -- op t16 := call F23{rivulet/rivuletref03.Filter}(t15) [if #3=False]
    refine gT rfl <| vcd (S1.callF rfl (rfilter_spec (show b.length ≤ 900000 by omega)) take0) rfl ?_
    refine gT rfl <| v0 (S0.not rfl) rfl <| v0 (S0.pickF rfl rfl) rfl <| vE <| ?_  -- cond
    first | refine WP.condP rfl (fun h2 => ?_) (fun h2 => ?_) | refine WP.condN rfl (fun h2 => ?_) (fun h2 => ?_) | refine WP.cond rfl (fun h2 => ?_) (fun h2 => ?_)
    · skip
      have h2' : filtS b = false := by simpa using h2
      refine WP.seq <| WP.region <| v0 (S0.assign rfl) rfl <| vE <| WP.ret <| ?_  -- ret
      refine r1 rfl rfl ⟨?_, rfl⟩
      simp [coversS, h2']
    · skip
      have hfb : filtS b = true := by simpa using h2
      have hiff := (coversS_iff hfa hfb).trans (covX_at (filtS_L hfa).2 (filtS_L hfb).2 (levels_ne a) (levels_ne b))
      refine WP.skip <| WP.seq <| WP.seq <| WP.region <| v0 (S0.assign rfl) rfl <| vE <| WP.block <| ?_  -- Code.loop
      refine WP.loop (fun n : Nat => 1 ≤ n ∧ n ≤ 9 ∧ ∀ m, 1 ≤ m → m < n → okAt (levels a) (levels b) m = true) (fun n : Nat => [(0, sv a), (1, sv b), (5, .int .i64 (n : Int))]) (fun n : Nat => []) (fun n : Nat => 9 - n) (1) (⟨by omega, by omega, fun m h h' => by omega⟩) ⟨rfl, rfl, rfl, trivial⟩ ⟨_, take0⟩ (fun n hinv => ?_) 
      obtain ⟨hn1, hn9, hall⟩ := hinv
      refine WP.seq <| WP.seq <| WP.region <| v0 (S0.move rfl) rfl <| v0 (S0.cmp rfl rfl rfl) rfl <| vE <| ?_  -- cond
      first | refine WP.condP rfl (fun h3 => ?_) (fun h3 => ?_) | refine WP.condN rfl (fun h3 => ?_) (fun h3 => ?_) | refine WP.cond rfl (fun h3 => ?_) (fun h3 => ?_)
      · skip
        have hn8 : n ≤ 8 := by omega
        have hbadn : okAt (levels a) (levels b) n = false → false = coversS a b := fun e => by
          cases hc : coversS a b with
          | false => rfl
          | true => have := hiff.1 hc n hn1 hn8; rw [e] at this; cases this
        have hgoodn : okAt (levels a) (levels b) n = true → ∀ m, 1 ≤ m → m < n + 1 → okAt (levels a) (levels b) m = true := fun e m hm1 hm2 => by
          by_cases em : m = n
          · subst em; exact e
          · exact hall m hm1 (by omega)
        have hla := rowL_len (l := levels a) (n := n)
        have hlb := rowL_len (l := levels b) (n := n)
        unfold okAt at hbadn hgoodn
        refine WP.skip <| WP.seq <| WP.block <| WP.seq <| WP.region <| v0 (S0.move rfl) rfl <| v0 (S0.move rfl) rfl <| ?_  -- op t26 := call F44{rivulet/rivuletref03.Row}(t24, t25)
        refine vc (S1.callF rfl (rrow_spec (n := n) (show b.length ≤ 900000 by omega) (by omega)) take0) rfl ?_
        rintro _ _ ⟨yv, yr, hsy, rfl, rfl⟩
        refine app ?_
        refine v0 (S0.move rfl) rfl <| v0 (S0.extract rfl rfl) rfl <| v0 (S0.extract rfl rfl) rfl <| v0 (S0.assign rfl) rfl <| v0 (S0.assign rfl) rfl <| vE <| WP.seq <| WP.region <| v0 (S0.move rfl) rfl <| v0 (S0.move rfl) rfl <| ?_  -- op t32 := call F44{rivulet/rivuletref03.Row}(t30, t31)
        refine vc (S1.callF rfl (rrow_spec (n := n) (show a.length ≤ 900000 by omega) (by omega)) take0) rfl ?_
        rintro _ _ ⟨xv, xr, hsx, rfl, rfl⟩
        refine app ?_
        generalize (rowL (levels b) n).2 = some_ at hlb hbadn hgoodn
        generalize (rowL (levels b) n).1 = Y at hlb hbadn hgoodn hsy
        generalize (rowL (levels a) n).2 = q at hla hbadn hgoodn
        generalize (rowL (levels a) n).1 = X at hla hbadn hgoodn hsx
        obtain ⟨xa, xc, rfl, -, hrx⟩ := hsx.strsE
        obtain ⟨ya, yc, rfl, -, hry⟩ := hsy.strsE
        refine v0 (S0.move rfl) rfl <| v0 (S0.extract rfl rfl) rfl <| v0 (S0.extract rfl rfl) rfl <| v0 (S0.assign rfl) rfl <| v0 (S0.assign rfl) rfl <| vE <| WP.seq <| WP.seq <| WP.region <| v0 (S0.assign rfl) rfl <| vE <| WP.block <| ?_  -- Code.loop
        refine WP.loop (fun st : Nat × Bool => st.1 ≤ n ∧ (st.2 = true → q = true ∧ (some_ = true → ∀ j x y, j < st.1 → X[j]? = some x → Y[j]? = some y → (decide (x = [43]) || decide (x = y)) = true)) ∧ (st.2 = false → some_ = true → (q && rowOk X Y) = false)) (fun st : Nat × Bool => [(0, sv a), (1, sv b), (5, .int .i64 (n : Int)), (6, .slice ya Y.length yc), (7, .bool some_), (8, .slice xa X.length xc), (9, .bool st.2), (10, .int .i64 (st.1 : Int))]) (fun st : Nat × Bool => [xr, yr]) (fun st : Nat × Bool => n - st.1) ((0, q)) (⟨Nat.zero_le _, fun e => ⟨e, fun _ j x y hj => by omega⟩, fun e _ => by simp at e; simp [e]⟩) ⟨rfl, rfl, rfl, rfl, rfl, rfl, rfl, rfl, trivial⟩ ⟨_, (take1 at0 (take1 at0 take0))⟩ (fun st hinv => ?_) 
        obtain ⟨i, is_⟩ := st
        obtain ⟨hi, htr, hfa2⟩ := hinv
        dsimp only at hi htr hfa2 ⊢
        refine WP.seq <| WP.seq <| WP.region <| v0 (S0.move rfl) rfl <| v0 (S0.move rfl) rfl <| v0 (S0.cmp rfl rfl rfl) rfl <| v0 (S0.move rfl) rfl <| ?_  -- guard t38 (wants True) at t39 := move t7 [if #3=True]
        first | refine csP (t := 38) rfl (fun h4 => ?_) (fun h4 => ?_) | refine csN (t := 38) rfl (fun h4 => ?_) (fun h4 => ?_) | refine cs (t := 38) rfl (fun h4 => ?_) (fun h4 => ?_)
        · skip
          have hlt : i < n := by omega
          refine gT rfl <| v0 (S0.move rfl) rfl <| v0 (S0.pickT rfl rfl) rfl <| v0 (S0.move rfl) rfl <| ?_  -- guard t41 (wants True) at t42 := move t9 [if #6=True]
          skip
          cases some_ with
          | true =>
            skip
            refine csTh (t := 41) rfl (rfl) ?_
            refine gT rfl <| v0 (S0.move rfl) rfl <| v0 (S0.pickT rfl rfl) rfl <| vE <| ?_  -- cond
            skip
            cases is_ with
            | true =>
              skip
              obtain ⟨rfl, hok⟩ := htr rfl
              have hXl := hla rfl
              have hYl := hlb rfl
              have hlx : i < X.length := by omega
              have hly : i < Y.length := by omega
              rcases hrx with ⟨e, -⟩ | ⟨b1, sp1, rfl, rfl, hsp1⟩
              · rw [e] at hlx; simp at hlx
              rcases hry with ⟨e, -⟩ | ⟨b2, sp2, rfl, rfl, hsp2⟩
              · rw [e] at hly; simp at hly
              have hx : X[i]? = some X[i] := by simp [hlx]
              have hy : Y[i]? = some Y[i] := by simp [hly]
              generalize X[i] = x at hx
              generalize Y[i] = y at hy
              have hbad : (decide (x = [43]) || decide (x = y)) = false → (true && rowOk X Y) = false := fun e => by rw [rowOk_take X _ i x y hx hy e]; rfl
              have hgood : (decide (x = [43]) || decide (x = y)) = true → ∀ (j : Nat) (x y : Str), j < i + 1 → X[j]? = some x → Y[j]? = some y → (decide (x = [43]) || decide (x = y)) = true := fun e j x' y' hj hx' hy' => by
                by_cases ej : j = i
                · subst ej; rw [hx] at hx'; rw [hy] at hy'; cases hx'; cases hy'; exact e
                · exact hok rfl j x' y' (by omega) hx' hy'
              refine WP.condTh rfl (rfl) ?_
              skip
              refine WP.skip <| WP.seq <| WP.block <| WP.drawP [(0, none), (1, none), (2, none), (3, none), (4, none), (5, none), (6, none), (7, none), (8, none), (9, none), (10, none), (11, none), (12, none), (13, none), (14, none), (15, none), (16, none)] mixed (by kernel_rfl) (by kernel_rfl) (by kernel_rfl) (take1 at0 (take1 at0 take0)) <| w0 rfl rfl rfl (S0.move rfl) rfl <| w0 rfl rfl rfl (S0.move rfl) rfl <| ?_  -- op t48 := indexAddr 22 t46 t47
              refine w0 rfl rfl rfl (S0.index1 rfl rfl hlx) rfl <| ?_
              refine w0 rfl rfl rfl (S0.load rfl (strs_get hx)) rfl <| ?_
              refine w0 rfl rfl rfl (S0.cmpS rfl rfl rfl) rfl <| w0 rfl rfl rfl (S0.move rfl) rfl <| ?_  -- guard t51 (wants False) at t52 := move t8 [if #5=False]
              first | refine wcsP (t := 51) rfl (fun h5 => ?_) (fun h5 => ?_) | refine wcsN (t := 51) rfl (fun h5 => ?_) (fun h5 => ?_) | refine wcs (t := 51) rfl (fun h5 => ?_) (fun h5 => ?_)
              · skip
                refine wF rfl rfl rfl rfl <| wF rfl rfl rfl rfl <| wF rfl rfl rfl rfl <| wF rfl rfl rfl rfl <| wF rfl rfl rfl rfl <| wF rfl rfl rfl rfl <| wF rfl rfl rfl rfl <| wF rfl rfl rfl rfl <| wF rfl rfl rfl rfl <| w0 rfl rfl rfl (S0.pickT rfl rfl) rfl <| w0 rfl rfl rfl (S0.assign rfl) rfl <| wE <| WP.region <| v0 (S0.move rfl) rfl <| v0 (S0.ari rfl rfl rfl (wrap_i64 (by omega))) rfl <| v0 (S0.assign rfl) rfl <| vE <| ?_  -- roundend
                exact ⟨(i + 1, true), (by first | exact ⟨hlt, fun _ => ⟨rfl, fun _ => hgood (by simp [h5])⟩, fun e => by cases e⟩ | (dsimp only; exact ⟨hlt, fun _ => ⟨rfl, fun _ => hgood (by simp [h5])⟩, fun e => by cases e⟩)), (show n - (i + 1) < n - i by omega), ⟨⟨rfl, rfl, rfl, rfl, rfl, rfl, rfl, rfl, trivial⟩, rfl, rfl⟩, ⟨_, (take1 at0 (take1 at0 take0))⟩⟩
              · skip
                refine w0 rfl rfl rfl (S0.move rfl) rfl <| w0 rfl rfl rfl (S0.move rfl) rfl <| ?_  -- op t54 := indexAddr 22 t52 t53 [if #5=False]
                refine w0 rfl rfl rfl (S0.index1 rfl rfl hlx) rfl <| ?_
                refine w0 rfl rfl rfl (S0.load rfl (strs_get hx)) rfl <| ?_
                refine w0 rfl rfl rfl (S0.move rfl) rfl <| w0 rfl rfl rfl (S0.move rfl) rfl <| ?_  -- op t58 := indexAddr 22 t56 t57 [if #5=False]
                refine w0 rfl rfl rfl (S0.index1 rfl rfl hly) rfl <| ?_
                refine w0 rfl rfl rfl (S0.load rfl (strs_get hy)) rfl <| ?_
                refine w0 rfl rfl rfl (S0.cmpS rfl rfl rfl) rfl <| w0 rfl rfl rfl (S0.pickF rfl rfl) rfl <| w0 rfl rfl rfl (S0.assign rfl) rfl <| wE <| WP.region <| v0 (S0.move rfl) rfl <| v0 (S0.ari rfl rfl rfl (wrap_i64 (by omega))) rfl <| v0 (S0.assign rfl) rfl <| vE <| ?_  -- roundend
                exact ⟨(i + 1, decide (x = y)), (by first | exact ⟨hlt, fun e => ⟨rfl, fun _ => hgood (by simp at e; simp [e])⟩, fun e _ => hbad (by simp at e; simp [e, h5])⟩ | (dsimp only; exact ⟨hlt, fun e => ⟨rfl, fun _ => hgood (by simp at e; simp [e])⟩, fun e _ => hbad (by simp at e; simp [e, h5])⟩)), (show n - (i + 1) < n - i by omega), ⟨⟨rfl, rfl, rfl, rfl, rfl, rfl, rfl, rfl, trivial⟩, rfl, rfl⟩, ⟨_, (take1 at0 (take1 at0 take0))⟩⟩
            | false =>
              skip
              refine WP.condFh rfl (rfl) ?_
              refine WP.exit <| WP.seq <| WP.region <| v0 (S0.move rfl) rfl <| v0 (S0.move rfl) rfl <| ?_  -- guard t63 (wants True) at t64 := move t9 [if #1=True]
              refine csTh (t := 63) rfl (rfl) ?_
              refine gT rfl <| v0 (S0.move rfl) rfl <| gT rfl <| v0 (S0.not rfl) rfl <| v0 (S0.pickT rfl rfl) rfl <| vE <| ?_  -- cond
              refine WP.condTh rfl (rfl) ?_
              refine WP.seq <| WP.region <| v0 (S0.assign rfl) rfl <| vE <| WP.ret <| ?_  -- ret
              refine Leaves.drop take0 ?_
              refine r1 rfl rfl ⟨?_, rfl⟩
              exact congrArg Value.bool (hbadn (by rw [hfa2 rfl rfl]; rfl))
          | false =>
            skip
            refine csFh (t := 41) rfl (rfl) ?_
            refine gF rfl rfl <| v0 (S0.pickF rfl rfl) rfl <| vE <| WP.condF rfl <| WP.exit <| WP.seq <| WP.region <| v0 (S0.move rfl) rfl <| v0 (S0.move rfl) rfl <| ?_  -- guard t63 (wants True) at t64 := move t9 [if #1=True]
            refine csFh (t := 63) rfl (rfl) ?_
            refine gF rfl rfl <| gF rfl rfl <| v0 (S0.pickF rfl rfl) rfl <| vE <| WP.condF rfl <| WP.skip <| WP.region <| v0 (S0.move rfl) rfl <| v0 (S0.ari rfl rfl rfl (wrap_i64 (by omega))) rfl <| v0 (S0.assign rfl) rfl <| vE <| ?_  -- roundend
            exact ⟨n + 1, (by first | exact ⟨by omega, by omega, hgoodn rfl⟩ | (dsimp only; exact ⟨by omega, by omega, hgoodn rfl⟩)), (by omega), ⟨⟨rfl, rfl, rfl, trivial⟩, rfl, rfl⟩, ⟨_, take0⟩⟩
        · skip
          have ein : i = n := by omega
          refine gF rfl rfl <| v0 (S0.pickF rfl rfl) rfl <| v0 (S0.move rfl) rfl <| gF rfl rfl <| v0 (S0.pickF rfl rfl) rfl <| vE <| WP.condF rfl <| WP.exit <| WP.seq <| WP.region <| v0 (S0.move rfl) rfl <| v0 (S0.move rfl) rfl <| ?_  -- guard t63 (wants True) at t64 := move t9 [if #1=True]
          skip
          cases some_ with
          | true =>
            skip
            refine csTh (t := 63) rfl (rfl) ?_
            refine gT rfl <| v0 (S0.move rfl) rfl <| gT rfl <| v0 (S0.not rfl) rfl <| v0 (S0.pickT rfl rfl) rfl <| vE <| ?_  -- cond
            skip
            cases is_ with
            | true =>
              skip
              obtain ⟨rfl, hok⟩ := htr rfl
              refine WP.condFh rfl (rfl) ?_
              refine WP.skip <| WP.region <| v0 (S0.move rfl) rfl <| v0 (S0.ari rfl rfl rfl (wrap_i64 (by omega))) rfl <| v0 (S0.assign rfl) rfl <| vE <| ?_  -- roundend
              exact ⟨n + 1, (by first | exact ⟨by omega, by omega, hgoodn (by rw [rowOk_all X Y fun j x y hx hy => hok rfl j x y (by have := hlb rfl; have := (List.getElem?_eq_some_iff.1 hy).1; omega) hx hy]; rfl)⟩ | (dsimp only; exact ⟨by omega, by omega, hgoodn (by rw [rowOk_all X Y fun j x y hx hy => hok rfl j x y (by have := hlb rfl; have := (List.getElem?_eq_some_iff.1 hy).1; omega) hx hy]; rfl)⟩)), (by omega), ⟨⟨rfl, rfl, rfl, trivial⟩, rfl, rfl⟩, ⟨_, take0⟩⟩
            | false =>
              skip
              refine WP.condTh rfl (rfl) ?_
              refine WP.seq <| WP.region <| v0 (S0.assign rfl) rfl <| vE <| WP.ret <| ?_  -- ret
              refine Leaves.drop take0 ?_
              refine r1 rfl rfl ⟨?_, rfl⟩
              exact congrArg Value.bool (hbadn (by rw [hfa2 rfl rfl]; rfl))
          | false =>
            skip
            refine csFh (t := 63) rfl (rfl) ?_
            refine gF rfl rfl <| gF rfl rfl <| v0 (S0.pickF rfl rfl) rfl <| vE <| WP.condF rfl <| WP.skip <| WP.region <| v0 (S0.move rfl) rfl <| v0 (S0.ari rfl rfl rfl (wrap_i64 (by omega))) rfl <| v0 (S0.assign rfl) rfl <| vE <| ?_  -- roundend
            exact ⟨n + 1, (by first | exact ⟨by omega, by omega, hgoodn rfl⟩ | (dsimp only; exact ⟨by omega, by omega, hgoodn rfl⟩)), (by omega), ⟨⟨rfl, rfl, rfl, trivial⟩, rfl, rfl⟩, ⟨_, take0⟩⟩
      · skip
        have e : n = 9 := by omega
        refine WP.exit <| WP.seq <| WP.region <| v0 (S0.assign rfl) rfl <| vE <| WP.ret <| ?_  -- ret
        refine r1 rfl rfl ⟨?_, rfl⟩
        exact congrArg Value.bool (hiff.2 fun m h1 h2 => hall m h1 (by omega)).symm
end Go.Proofs.YtnoicafjkgbokaaDoor
