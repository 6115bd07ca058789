import Derived.Test.YtgcclpfpnfmjcaaDoorM13
namespace Go.Proofs.YtgcclpfpnfmjcaaDoor
open Go

theorem flat_all {α : Type} {en : α → List Value} {k : Nat} (hk : ∀ x, (en x).length = k) (sp : List Value) (R : List α) : ((R.flatMap en ++ sp).drop 0).take (R.length * k) = R.flatMap en := by
  rw [List.drop_zero, ← flat_len hk R, List.take_left]
theorem flat_all_le {α : Type} {en : α → List Value} {k : Nat} (hk : ∀ x, (en x).length = k) (sp : List Value) (R : List α) : 0 + R.length * k ≤ (R.flatMap en ++ sp).length := by
  rw [List.length_append, flat_len hk]; omega
theorem sorted_true {v : Value} {R : BM} {c : List Blk} (hr : Rd 2 mkB v R c) (h1 : ∀ x ∈ R, inB x.1 0 1099511627776 = true ∧ inB x.2 1 1099511627776 = true) (h2 : R.Pairwise fun a b => a.1 < b.1) (h3 : R.length ≤ 32) : FN Tryd.prog 24 [v] [c] (is (.bool true) [c]) := by
  obtain ⟨a, cap, rfl, hcap, hr⟩ := hr
  refine FN.intro 47 [(0, .slice a R.length cap)] Tryd.func24 rfl (enters Tryd.func24 (by kernel_rfl) rfl) Tryd.ntmps24 rfl rfl ?_
  refine WP.seq <| WP.region <| v0 (S0.assign rfl) rfl <| vE <| WP.seq <| WP.seq <| WP.region <| v0 (S0.assign rfl) rfl <| vE <| WP.block <| ?_  -- Code.loop
  refine WP.loop (fun i : Nat => i ≤ R.length) (fun i : Nat => [(0, .slice a R.length cap), (3, .int .i64 (i : Int))]) (fun i : Nat => [c]) (fun i : Nat => R.length - i) (0) ((Nat.zero_le _)) ⟨rfl, rfl, trivial⟩ ⟨_, (take1 at0 take0)⟩ (fun i hinv => ?_) 
  refine WP.seq <| WP.seq <| WP.region <| v0 (S0.move rfl) rfl <| v0 (S0.move rfl) rfl <| v0 (S0.lenSl rfl) rfl <| v0 (S0.cmp rfl rfl rfl) rfl <| vE <| ?_  -- cond
  first | refine WP.condP rfl (fun h4 => ?_) (fun h4 => ?_) | refine WP.condN rfl (fun h4 => ?_) (fun h4 => ?_) | refine WP.cond rfl (fun h4 => ?_) (fun h4 => ?_)
  · skip
    have hlt : i < R.length := by omega
    rcases hr with e | ⟨b, o, GL, U, fz, rfl, hmem, hel⟩
    · rw [e] at hlt; simp at hlt
    have : HasC c b (.cells ⟨GL⟩ U fz) := ⟨hmem⟩
    have hx : R[i]? = some R[i] := by simp [hlt]
    have hxm := h1 _ (List.getElem_mem hlt)
    generalize R[i] = x at hx hxm
    have hele := hel i x hx
    skip
    refine WP.skip <| WP.seq <| WP.block <| WP.seq <| WP.drawP [(0, none), (1, none), (2, none), (3, none), (4, none), (5, none), (6, none), (7, none), (8, none), (9, none), (10, none), (11, none), (12, none), (13, none), (14, none), (15, none), (16, none), (17, none), (18, none), (19, none), (20, none), (21, none), (22, none), (23, none), (24, none), (25, none), (26, none), (27, none), (28, none), (29, none), (30, none), (31, none), (32, none), (33, none)] mixed (by kernel_rfl) (by kernel_rfl) (by kernel_rfl) (take1 at0 take0) <| w0 rfl rfl rfl (S0.move rfl) rfl <| w0 rfl rfl rfl (S0.move rfl) rfl <| ?_  -- op t12 := indexAddr 30 t10 t11
    refine w0 rfl rfl rfl (S0.indexO rfl rfl hlt) rfl <| ?_
    refine w0 rfl rfl rfl (S0.fieldAddr rfl) rfl <| ?_  -- limit
    refine w0 rfl rfl rfl (S0.load rfl (rd_get (k := 2) hele (j := 0) (by omega))) rfl <| ?_
    -- (nothing to walk: op t15 := call F44{rivulet/rivuletref06.in}(t14, 0:i64, 1099511627776:i64))
    refine wcd rfl rfl rfl rfl (S1.callF rfl (rin_spec x.1 0 1099511627776) take0) rfl ?_
    refine w0 rfl rfl rfl (S0.not rfl) rfl <| w0 rfl rfl rfl (S0.move rfl) rfl <| ?_  -- guard t17 (wants False) at t18 := move t0 [if #7=False]
    refine wcsFh (t := 17) rfl ((by rw [hxm.1]; rfl)) ?_
    refine w0 rfl rfl rfl (S0.move rfl) rfl <| w0 rfl rfl rfl (S0.move rfl) rfl <| ?_  -- op t20 := indexAddr 30 t18 t19 [if #7=False]
    refine w0 rfl rfl rfl (S0.indexO rfl rfl hlt) rfl <| ?_
    refine w0 rfl rfl rfl (S0.fieldAddr rfl) rfl <| ?_  -- limit
    refine w0 rfl rfl rfl (S0.load rfl (rd_get (k := 2) hele (j := 1) (by omega))) rfl <| ?_
    -- (nothing to walk: op t23 := call F44{rivulet/rivuletref06.in}(t22, 1:i64, 1099511627776:i64) [if #7=False])
    refine wcd rfl rfl rfl rfl (S1.callF rfl (rin_spec x.2 1 1099511627776) take0) rfl ?_
    refine w0 rfl rfl rfl (S0.not rfl) rfl <| w0 rfl rfl rfl (S0.pickF rfl rfl) rfl <| w0 rfl rfl rfl (S0.move rfl) rfl <| ?_  -- guard t26 (wants False) at t27 := move t3 [if #16=False]
    refine wcsFh (t := 26) rfl ((by rw [hxm.2]; rfl)) ?_
    refine w0 rfl rfl rfl (S0.move rfl) rfl <| w0 rfl rfl rfl (S0.cmp rfl rfl rfl) rfl <| w0 rfl rfl rfl (S0.move rfl) rfl <| ?_  -- guard t29 (wants True) at t30 := move t0 [if #19=True]
    first | refine wcsP (t := 29) rfl (fun h5 => ?_) (fun h5 => ?_) | refine wcsN (t := 29) rfl (fun h5 => ?_) (fun h5 => ?_) | refine wcs (t := 29) rfl (fun h5 => ?_) (fun h5 => ?_)
    · skip
      obtain ⟨j, rfl⟩ : ∃ j, i = j + 1 := ⟨i - 1, by omega⟩
      have hlt2 : j < R.length := by omega
      have hy : R[j]? = some R[j] := by simp [hlt2]
      have hyx : R[j].1 < x.1 := by
        have := List.pairwise_iff_getElem.1 h2 j (j + 1) hlt2 hlt (by omega)
        obtain ⟨_, e⟩ := List.getElem?_eq_some_iff.1 hx
        rw [e] at this; exact this
      generalize R[j] = y at hy hyx
      have hely := hel j y hy
      have hj : ((j + 1 : Nat) : Int) - 1 = (j : Int) := by omega
      refine w0 rfl rfl rfl (S0.move rfl) rfl <| w0 rfl rfl rfl (S0.move rfl) rfl <| w0 rfl rfl rfl (S0.ari rfl rfl rfl (wrap_i64 (by omega))) rfl <| ?_  -- op t33 := indexAddr 30 t30 t32 [if #19=True]
      rw [hj]
      refine w0 rfl rfl rfl (S0.indexO rfl rfl hlt2) rfl <| ?_
      refine w0 rfl rfl rfl (S0.fieldAddr rfl) rfl <| ?_  -- limit
      refine w0 rfl rfl rfl (S0.load rfl (rd_get (k := 2) hely (j := 0) (by omega))) rfl <| ?_
      refine w0 rfl rfl rfl (S0.move rfl) rfl <| w0 rfl rfl rfl (S0.move rfl) rfl <| ?_  -- op t38 := indexAddr 30 t36 t37 [if #19=True]
      refine w0 rfl rfl rfl (S0.indexO rfl rfl hlt) rfl <| ?_
      refine w0 rfl rfl rfl (S0.fieldAddr rfl) rfl <| ?_  -- limit
      refine w0 rfl rfl rfl (S0.load rfl (rd_get (k := 2) hele (j := 0) (by omega))) rfl <| ?_
      refine w0 rfl rfl rfl (S0.cmp rfl rfl rfl) rfl <| w0 rfl rfl rfl (S0.pickT rfl rfl) rfl <| w0 rfl rfl rfl (S0.pickF rfl rfl) rfl <| wE <| ?_  -- cond
      refine WP.condFh rfl ((decide_eq_false (by omega))) ?_
      refine WP.skip <| WP.region <| v0 (S0.move rfl) rfl <| v0 (S0.ari rfl rfl rfl (wrap_i64 (by omega))) rfl <| v0 (S0.assign rfl) rfl <| vE <| ?_  -- roundend
      exact ⟨j + 1 + 1, (by first | exact hlt | (dsimp only; exact hlt)), (by omega), ⟨⟨rfl, rfl, trivial⟩, rfl, rfl⟩, ⟨_, (take1 at0 take0)⟩⟩
    · skip
      refine wF rfl rfl rfl rfl <| wF rfl rfl rfl rfl <| wF rfl rfl rfl rfl <| wF rfl rfl rfl rfl <| wF rfl rfl rfl rfl <| wF rfl rfl rfl rfl <| wF rfl rfl rfl rfl <| wF rfl rfl rfl rfl <| wF rfl rfl rfl rfl <| wF rfl rfl rfl rfl <| wF rfl rfl rfl rfl <| wF rfl rfl rfl rfl <| w0 rfl rfl rfl (S0.pickF rfl rfl) rfl <| w0 rfl rfl rfl (S0.pickF rfl rfl) rfl <| wE <| WP.condF rfl <| WP.skip <| WP.region <| v0 (S0.move rfl) rfl <| v0 (S0.ari rfl rfl rfl (wrap_i64 (by omega))) rfl <| v0 (S0.assign rfl) rfl <| vE <| ?_  -- roundend
      exact ⟨i + 1, (by first | exact hlt | (dsimp only; exact hlt)), (by omega), ⟨⟨rfl, rfl, trivial⟩, rfl, rfl⟩, ⟨_, (take1 at0 take0)⟩⟩
  · skip
    refine WP.exit <| WP.seq <| WP.region <| v0 (S0.move rfl) rfl <| v0 (S0.lenSl rfl) rfl <| v0 (S0.cmp rfl rfl rfl) rfl <| v0 (S0.assign rfl) rfl <| vE <| WP.ret <| ?_  -- ret
    refine r1 rfl rfl ⟨?_, rfl⟩
    have : decide ((R.length : Int) ≤ 32) = true := decide_eq_true (by omega)
    rw [this]
theorem modelMarks_walk (W : World) (tv : Value) (ht : ArgF W evK tv) : FN Tryd.prog 7 [tv] [whole W] (fun v h => v = .bool true ∧ h = [whole W]) := by
  obtain ⟨t0, hrt, htw⟩ := argEv ht
  have hok := cutEs_ok htw
  have htl := cutEs_len t0
  refine FN.intro 75 [(0, tv)] Tryd.func7 rfl (enters Tryd.func7 (by kernel_rfl) rfl) Tryd.ntmps7 rfl rfl ?_
  refine WP.seq <| WP.region <| v0 (S0.assign rfl) rfl <| vE <| WP.seq <| WP.region <| v0 (S0.move rfl) rfl <| ?_  -- op t11 := call F9{rivulet/rivuletlaw22.Events}(t10)
  refine vc (S1.callF rfl (events_spec hrt) (take1 at0 take0)) rfl ?_
  rintro t _ ⟨trow, ht, rfl⟩
  refine app ?_
  generalize cutEs t0 = T at hok htl ht
  have hT := IsSl.rd evB_len ht
  have hT' := hT
  obtain ⟨ta, tc, rfl, htc, htr⟩ := hT'
  refine v0 (S0.assign rfl) rfl <| vE <| WP.seq <| WP.seq <| WP.region <| v0 (S0.move rfl) rfl <| ?_  -- op t13 := call F11{rivulet/model.Order}(t12)
  refine vcd (S1.callF rfl (order_spec hT hok (by omega)) (take1 at0 take0)) rfl ?_
  refine v0 (S0.not rfl) rfl <| vE <| ?_  -- cond
  first | refine WP.condP rfl (fun h1 => ?_) (fun h1 => ?_) | refine WP.condN rfl (fun h1 => ?_) (fun h1 => ?_) | refine WP.cond rfl (fun h1 => ?_) (fun h1 => ?_)
  · skip
    refine WP.seq <| WP.region <| ?_  -- op t15 := call F18{rivulet/rivuletlaw22.fixed}()
    refine vcd (S1.callF rfl (fixed_spec) take0) rfl ?_
    refine v0 (S0.assign rfl) rfl <| vE <| WP.ret <| ?_  -- ret
    refine Leaves.drop (take1 (atS at0) take0) ?_
    refine r1 rfl rfl ?_
    exact ⟨rfl, rfl⟩
  · skip
    have hO : Ord T := ord_of (by simpa using h1)
    refine WP.skip <| WP.seq <| WP.region <| v0 (S0.move rfl) rfl <| ?_  -- op t17 := call F14{rivulet/model.Marks}(t16)
    refine vc (S1.callF rfl (marks_spec hT (by omega)) (take1 at0 take0)) rfl ?_
    rintro m _ ⟨R, mrow, hm, hmr, rfl⟩
    refine app ?_
    have hRl := lastO_len hm
    have hM := IsSl.rd mkB_len hmr
    have hM' := hM
    obtain ⟨ma, mc, rfl, hmc, hmrr⟩ := hM'
    have hbd : ∀ x ∈ R, (0 ≤ x.1 ∧ x.1 ≤ 1099511627776) ∧ 1 ≤ x.2 ∧ x.2 ≤ 20 ∧ lastO T x.1 = some x.2 := fun x hx => by
      have h2 := (gB_iff hm.srt (k := x.1) (t := x.2)).2 hx
      rw [hm.get] at h2
      obtain ⟨e, he, e1, e2⟩ := lastO_mem h2
      have h3 := rightE_bd (hO.right e he)
      have h4 := lastO_le hO x.1
      rw [h2] at h4
      simp at h4
      refine ⟨?_, ?_, ?_, h2⟩ <;> omega
    obtain ⟨R', hm2, hsum⟩ := sum_ord hO
    obtain rfl := hm.uniq hm2
    refine v0 (S0.assign rfl) rfl <| v0 (S0.assign rfl) rfl <| vE <| WP.seq <| WP.seq <| WP.region <| v0 (S0.assign rfl) rfl <| vE <| WP.block <| ?_  -- Code.loop
    refine WP.loop (fun st : Nat × Int => st.1 ≤ R.length ∧ st.2 = sumS (R.take st.1) ∧ 0 ≤ st.2 ∧ st.2 ≤ 20 * st.1) (fun st : Nat × Int => [(3, .slice ta T.length tc), (4, .slice ma R.length mc), (5, .int .i64 st.2), (6, .int .i64 (st.1 : Int))]) (fun st : Nat × Int => [mrow, trow, whole W]) (fun st : Nat × Int => R.length - st.1) ((0, 0)) (⟨Nat.zero_le _, rfl, Int.le_refl _, Int.le_refl _⟩) ⟨rfl, rfl, rfl, rfl, trivial⟩ ⟨_, (take1 at0 (take1 at0 (take1 at0 take0)))⟩ (fun st hinv => ?_) 
    obtain ⟨i, n⟩ := st
    obtain ⟨hi, hn, hn0, hn1⟩ := hinv
    dsimp only at hi hn hn0 hn1 ⊢
    refine WP.seq <| WP.seq <| WP.region <| v0 (S0.move rfl) rfl <| v0 (S0.move rfl) rfl <| v0 (S0.lenSl rfl) rfl <| v0 (S0.cmp rfl rfl rfl) rfl <| vE <| ?_  -- cond
    first | refine WP.condP rfl (fun h2 => ?_) (fun h2 => ?_) | refine WP.condN rfl (fun h2 => ?_) (fun h2 => ?_) | refine WP.cond rfl (fun h2 => ?_) (fun h2 => ?_)
    · skip
      have hlt : i < R.length := by omega
      rcases hmrr with e | ⟨b, o, GL, U, fz, rfl, hmem, hel⟩
      · rw [e] at hlt; simp at hlt
      have : HasC mrow b (.cells ⟨GL⟩ U fz) := ⟨hmem⟩
      have hx : R[i]? = some R[i] := by simp [hlt]
      have hxm := hbd _ (List.getElem_mem hlt)
      generalize R[i] = x at hx hxm
      have hele := hel i x hx
      obtain ⟨hnx1, hnx2⟩ := next_ok hO hxm.2.2.2 (by omega)
      have hnok : EvOk (next1 x) := ⟨by simp [next1]; omega, by simp [next1]; omega, by simp [next1], by simp [next1], by simp [next1]⟩
      have hok1 : ∀ e ∈ T ++ [next1 x], EvOk e := fun e he => by
        rcases List.mem_append.1 he with he | he
        · exact hok e he
        · simp at he; rw [he]; exact hnok
      have hok2 : ∀ e ∈ T ++ [next1 x] ++ [next1 x], EvOk e := fun e he => by
        rcases List.mem_append.1 he with he | he
        · exact hok1 e he
        · simp at he; rw [he]; exact hnok
      have ho1 : ordB (T ++ [next1 x]) = true := ord_iff.2 hnx1
      have ho2 : ordB (T ++ [next1 x] ++ [next1 x]) = false := by
        cases h : ordB (T ++ [next1 x] ++ [next1 x]) with
        | false => rfl
        | true => exact absurd (ord_iff.1 h) hnx2
      obtain ⟨ta', tc', etv, -, htrow⟩ := IsSl.elems (k := 4) evB_len ht
      cases etv
      rcases htrow with ⟨e, -⟩ | ⟨tb, tsp, rfl, rfl, -⟩
      · rw [e] at hRl; simp at hRl; rw [hRl] at hlt; simp at hlt
      refine WP.skip <| WP.seq <| WP.block <| WP.seq <| WP.region <| v0 (S0.move rfl) rfl <| v0 (S0.move rfl) rfl <| v0 (S0.move rfl) rfl <| ?_  -- op t27 := indexAddr 30 t25 t26
      refine v0 (S0.indexO rfl rfl hlt) rfl <| ?_
      refine v0 (S0.fieldAddr rfl) rfl <| ?_  -- limit
      refine v0 (S0.load rfl (rd_get (k := 2) hele (j := 1) (by omega))) rfl <| ?_
      skip
      refine v0 (S0.ari rfl rfl rfl (wrap_i64 (by omega))) rfl <| v0 (S0.assign rfl) rfl <| vE <| WP.seq <| WP.drawP [(0, none), (1, none), (2, none), (3, none), (4, none), (5, none), (6, none), (7, none), (8, none), (9, none), (10, none), (11, none), (12, none), (13, none)] mixed (by kernel_rfl) (by kernel_rfl) (by kernel_rfl) (take1 at0 take0) <| w0 rfl rfl rfl (S0.move rfl) rfl <| w0 rfl rfl rfl (S0.move rfl) rfl <| ?_  -- op t33 := indexAddr 30 t31 t32
      refine w0 rfl rfl rfl (S0.indexO rfl rfl hlt) rfl <| ?_
      refine w0 rfl rfl rfl (S0.fieldAddr rfl) rfl <| ?_  -- limit
      refine w0 rfl rfl rfl (S0.load rfl (rd_get (k := 2) hele (j := 0) (by omega))) rfl <| ?_
      refine w0 rfl rfl rfl (S0.move rfl) rfl <| w0 rfl rfl rfl (S0.move rfl) rfl <| ?_  -- op t38 := indexAddr 30 t36 t37
      refine w0 rfl rfl rfl (S0.indexO rfl rfl hlt) rfl <| ?_
      refine w0 rfl rfl rfl (S0.fieldAddr rfl) rfl <| ?_  -- limit
      refine w0 rfl rfl rfl (S0.load rfl (rd_get (k := 2) hele (j := 1) (by omega))) rfl <| ?_
      refine w0 rfl rfl rfl (S0.ari rfl rfl rfl (wrap_i64 (by omega))) rfl <| w0 rfl rfl rfl (S0.build rfl (qs := [(0, _), (1, _), (2, _), (4, _)]) rfl) rfl <| wn rfl rfl rfl rfl (S1.alloc) rfl fun b7 => ws rfl rfl rfl rfl (S1.storeA rfl rfl rfl) <| wE <| WP.seq <| WP.region <| vnv (S1.buildSlice rfl (qs := []) rfl rfl) rfl fun b43 => v0 (S0.move rfl) rfl <| ?_  -- op t45 := append(t43, t44) :[22, 22]
      refine ve (S1.appendS rfl (IsSl.row (n := 0) (c := 0) (l := []) (sp := []) rfl rfl (Nat.le_refl _)) rfl (o' := 0) (flat_all_le evB_len tsp T) (flat_all evB_len tsp T) at0 (flat_cv (fun _ => rfl) _) rfl (by rw [flat_len evB_len]; simp; omega)) rfl ?_
      rintro v1 _ ⟨row1, hs1, rfl⟩
      rw [List.nil_append] at hs1
      refine v0 (S0.assign rfl) rfl <| vE <| WP.seq <| WP.region <| v0 (S0.move rfl) rfl <| v0 (S0.loadAL rfl) rfl <| vnv (S1.buildSlice rfl (qs := [(0, _)]) rfl rfl) rfl fun b48 => ?_  -- op t49 := append(t46, t48) :[22, 22]
      refine ve (S1.appendL rfl hs1 rfl rfl (atS at0) rfl rfl (by rw [flat_len evB_len]; simp; omega)) rfl ?_
      rintro v2 _ ⟨row2, hs2, rfl⟩
      have hs2' : IsSl 37 5 v2 ((T ++ [next1 x]).flatMap evB) row2 := by rw [List.flatMap_append]; exact hs2
      have hO2 := IsSl.rd evB_len hs2'
      obtain ⟨a2, c2, rfl, -, h2row⟩ := IsSl.elems (k := 4) evB_len hs2'
      rcases h2row with ⟨e, -⟩ | ⟨b2, sp2, rfl, rfl, -⟩
      · simp at e
      refine v0 (S0.assign rfl) rfl <| vE <| WP.seq <| WP.region <| vnv (S1.buildSlice rfl (qs := []) rfl rfl) rfl fun b50 => v0 (S0.move rfl) rfl <| ?_  -- op t52 := append(t50, t51) :[22, 22]
      refine ve (S1.appendS rfl (IsSl.row (n := 0) (c := 0) (l := []) (sp := []) rfl rfl (Nat.le_refl _)) rfl (o' := 0) (flat_all_le evB_len sp2 (T ++ [next1 x])) (flat_all evB_len sp2 (T ++ [next1 x])) at0 (flat_cv (fun _ => rfl) _) rfl (by rw [flat_len evB_len]; simp; omega)) rfl ?_
      rintro v3 _ ⟨row3, hs3, rfl⟩
      rw [List.nil_append] at hs3
      refine v0 (S0.assign rfl) rfl <| vE <| WP.seq <| WP.region <| v0 (S0.move rfl) rfl <| v0 (S0.loadAL rfl) rfl <| vnv (S1.buildSlice rfl (qs := [(0, _)]) rfl rfl) rfl fun b55 => ?_  -- op t56 := append(t53, t55) :[22, 22]
      refine ve (S1.appendL rfl hs3 rfl rfl (atS at0) rfl rfl (by rw [flat_len evB_len]; simp; omega)) rfl ?_
      rintro v4 _ ⟨row4, hs4, rfl⟩
      have hs4' : IsSl 37 5 v4 ((T ++ [next1 x] ++ [next1 x]).flatMap evB) row4 := by rw [List.flatMap_append]; exact hs4
      have hO4 := IsSl.rd evB_len hs4'
      refine v0 (S0.assign rfl) rfl <| vE <| WP.seq <| WP.region <| v0 (S0.move rfl) rfl <| ?_  -- op t58 := call F11{rivulet/model.Order}(t57)
      refine vcd (S1.callF rfl (order_spec hO2 hok1 (by simp; omega)) (take1 (atS (atS at0)) take0)) rfl ?_
      rw [ho1]
      refine v0 (S0.not rfl) rfl <| v0 (S0.move rfl) rfl <| ?_  -- guard t60 (wants False) at t61 := move t9 [if #3=False]
      refine csFh (t := 60) rfl (rfl) ?_
      refine gT rfl <| v0 (S0.move rfl) rfl <| ?_  -- op t62 := call F11{rivulet/model.Order}(t61) [if #3=False]
      refine gT rfl <| vcd (S1.callF rfl (order_spec hO4 hok2 (by simp; omega)) (take1 (atS at0) take0)) rfl ?_
      rw [ho2]
      refine v0 (S0.pickF rfl rfl) rfl <| vE <| ?_  -- cond
      refine WP.condFh rfl (rfl) ?_
      refine WP.skip <| WP.region <| v0 (S0.move rfl) rfl <| v0 (S0.ari rfl rfl rfl (wrap_i64 (by omega))) rfl <| v0 (S0.assign rfl) rfl <| vE <| ?_  -- roundend
      exact ⟨(i + 1, n + x.2), (by first | exact ⟨hlt, by rw [take_snoc hx, sumS_app, hn]; simp [sumS], by omega, by omega⟩ | (dsimp only; exact ⟨hlt, by rw [take_snoc hx, sumS_app, hn]; simp [sumS], by omega, by omega⟩)), (show R.length - (i + 1) < R.length - i by omega), ⟨⟨rfl, rfl, rfl, rfl, trivial⟩, rfl, rfl⟩, ⟨_, (take1 (atS (atS (atS (atS at0)))) (take1 (atS (atS (atS (atS (atS at0))))) (take1 (atS (atS (atS (atS (atS at0))))) take0)))⟩⟩
    · skip
      have e : i = R.length := by omega
      rw [List.take_of_length_le (by omega), hsum] at hn
      subst hn
      refine WP.exit <| WP.seq <| WP.region <| v0 (S0.move rfl) rfl <| v0 (S0.move rfl) rfl <| v0 (S0.lenSl rfl) rfl <| v0 (S0.cmp rfl rfl rfl) rfl <| v0 (S0.move rfl) rfl <| ?_  -- guard t68 (wants True) at t69 := move t4 [if #4=True]
      refine csTh (t := 68) rfl ((by simp)) ?_
      refine gT rfl <| v0 (S0.move rfl) rfl <| ?_  -- op t70 := call F24{rivulet/rivuletref06.Sorted}(t69) [if #4=True]
      refine gT rfl <| vcd (S1.callF rfl (sorted_true hM (fun y hy => by have := hbd y hy; exact ⟨inB_iff.2 this.1, inB_iff.2 (by omega)⟩) hm.srt (by omega)) (take1 at0 take0)) rfl ?_
      refine v0 (S0.pickT rfl rfl) rfl <| v0 (S0.move rfl) rfl <| ?_  -- guard t72 (wants True) at t73 := call F18{rivulet/rivuletlaw22.fixed}() [if #8=True]
      refine csTh (t := 72) rfl (rfl) ?_
      -- (nothing to walk: op t73 := call F18{rivulet/rivuletlaw22.fixed}() [if #8=True])
      refine gT rfl <| vcd (S1.callF rfl (fixed_spec) take0) rfl ?_
      refine v0 (S0.pickT rfl rfl) rfl <| v0 (S0.assign rfl) rfl <| vE <| WP.ret <| ?_  -- ret
      refine Leaves.drop (take1 (atS (atS at0)) take0) ?_
      refine r1 rfl rfl ?_
      exact ⟨rfl, rfl⟩
end Go.Proofs.YtgcclpfpnfmjcaaDoor
