import Derived.Test.YtgcclpfpnfmjcaaDoorM9
namespace Go.Proofs.YtgcclpfpnfmjcaaDoor
open Go

theorem FN.two0 {P : Program} {g : Nat} {args : List Value} {a : List Blk} {Q : Value → List Blk → Prop} (H : FN P g args [a, []] (fun v h => ∃ row, Q v row ∧ h = [row, a, []])) : FN P g args [a] (fun v h => ∃ row, Q v row ∧ h = [row, a]) :=
  ⟨H.enters, fun E R w st => (H.run E R w (by simpa using st)).mono fun _ _ ⟨v, h', e, ⟨row, q, e2⟩, s⟩ => ⟨v, [row, a], e, ⟨row, q, rfl⟩, by subst e2; simpa using s⟩⟩
theorem fab_ok : ∀ e ∈ [fa, fb], EvOk e := by
  intro e he
  simp only [List.mem_cons, List.mem_nil_iff, or_false] at he
  rcases he with rfl | rfl <;> exact ⟨by decide, by decide, by decide, by decide, by decide⟩
theorem fb_ok : ∀ e ∈ [fb], EvOk e := fun e he => fab_ok e (by simp at he; simp [he])
theorem had_one (o s : Int) : hadB [s1] 1 2 o s = (decide (0 = o) && decide (2 = s)) := by simp [hadB, s1, fb]
theorem had_two (o s : Int) : hadB [s1, s2, s3] 1 2 o s = ((decide (0 = o) && decide (2 = s)) || (decide (0 = o) && decide (1 = s))) := by simp [hadB, s1, s2, s3, fa, fb]
theorem holes_one {R : BM} (h : MarksOf (holeF [s1] [s1] 1 2) R) : R = [(0, 1)] := by
  refine h.uniq ⟨by simp, fun k => ?_⟩
  unfold holeF
  by_cases hk : k = 0
  · subst hk
    have : firstN [s1] 1 2 0 = 1 := firstN_eq ⟨Nat.le_refl _, by rw [had_one]; rfl, fun j h1 h2 => by omega⟩
    rw [this]
    simp [gB, s1, fb, isBy]
  · have h0 : ¬ (0 : Int) = k := fun e => hk e.symm
    simp [gB, s1, fb, hk, h0]
theorem holes_two {R : BM} (h : MarksOf (holeF [s1, s2, s3] [s1, s2, s3] 1 2) R) : R = [] := by
  refine h.uniq ⟨by simp, fun k => ?_⟩
  unfold holeF
  by_cases hk : k = 0
  · subst hk
    have : firstN [s1, s2, s3] 1 2 0 = 3 := firstN_eq ⟨by omega, by rw [had_two]; rfl, fun j h1 h2 => by
      rw [had_two]
      have : j = 1 ∨ j = 2 := by omega
      rcases this with rfl | rfl <;> rfl⟩
    rw [this]
    simp [gB, s1, s2, s3, fa, fb]
  · have h0 : ¬ (0 : Int) = k := fun e => hk e.symm
    simp [gB, s1, s2, s3, fa, fb, h0]
theorem marks_ab {R : BM} (h : MarksOf (lastO [fa, fb]) R) : R = [(0, 2)] := by
  refine h.uniq ⟨by simp, fun k => ?_⟩
  by_cases hk : k = 0
  · subst hk; rfl
  · have h0 : ¬ (0 : Int) = k := fun e => hk e.symm
    simp [gB, lastO, fa, fb, hk, h0]

theorem fixed_spec : FN Tryd.prog 18 [] [] (is (.bool true) []) := by
  have e1 : ordB [fa, fb] = true := by decide +kernel
  have e2 : ordB [fb] = false := by decide +kernel
  have e3 : wrongI [fa, fb] [s1] = -1 := by decide +kernel
  have e4 : wrongI [fa, fb] [s1, s2, s3] = 2 := by decide +kernel
  have e5 : wrongI [fb] [s1, s2, s3] = 1 := by decide +kernel
  have e6 : wrongI [fa, fb] [⟨0, 0, fy⟩] = 0 := by decide +kernel
  have e7 : missB [fa, fb] [s1] 1 2 [35] = [fa] := by decide +kernel
  have e8 : missB [fa, fb] [] 1 2 [98] = [fb] := by decide +kernel
  refine FN.intro 94 [] Tryd.func18 rfl (enters Tryd.func18 (by kernel_rfl) rfl) Tryd.ntmps18 rfl rfl ?_
  skip
  refine WP.seq <| WP.region <| v0 (S0.assign rfl) rfl <| vE <| WP.seq <| WP.region <| v0 (S0.build rfl (qs := [(1, _), (2, _), (4, _)]) rfl) rfl <| vn (S1.alloc) rfl fun b1 => vs (S1.storeA rfl rfl rfl) <| vE <| WP.seq <| WP.region <| v0 (S0.build rfl (qs := [(1, _), (2, _), (4, _)]) rfl) rfl <| vn (S1.alloc) rfl fun b2 => vs (S1.storeA rfl rfl rfl) <| vE <| WP.seq <| WP.region <| v0 (S0.loadAL rfl) rfl <| vn (S1.alloc) rfl fun b3 => vs (S1.storeA rfl rfl rfl) <| vE <| WP.seq <| WP.region <| v0 (S0.fieldAddr rfl) rfl <| vs (S1.store rfl rfl (by first | rfl | exact IsSl.cv (by assumption))) <| vE <| WP.seq <| WP.region <| v0 (S0.loadAL rfl) rfl <| v0 (S0.loadAL rfl) rfl <| vnv (S1.buildSlice rfl (qs := [(0, _), (1, _)]) rfl rfl) rfl fun b13 => v0 (S0.assign rfl) rfl <| vE <| WP.seq <| WP.region <| v0 (S0.loadAL rfl) rfl <| v0 (S0.build rfl (qs := [(0, _), (1, _), (2, _)]) rfl) rfl <| vnv (S1.buildSlice rfl (qs := [(0, _)]) rfl rfl) rfl fun b16 => v0 (S0.assign rfl) rfl <| vE <| WP.seq <| WP.region <| v0 (S0.loadAL rfl) rfl <| v0 (S0.build rfl (qs := [(0, _), (1, _), (2, _)]) rfl) rfl <| v0 (S0.loadAL rfl) rfl <| v0 (S0.build rfl (qs := [(0, _), (1, _), (2, _)]) rfl) rfl <| v0 (S0.loadAL rfl) rfl <| v0 (S0.build rfl (qs := [(0, _), (1, _), (2, _)]) rfl) rfl <| vnv (S1.buildSlice rfl (qs := [(0, _), (1, _), (2, _)]) rfl rfl) rfl fun b23 => v0 (S0.assign rfl) rfl <| vE <| WP.seq <| WP.drawP [(0, none), (1, none), (2, none), (3, none), (4, none), (5, none), (6, none), (7, none), (8, none), (9, none), (10, none), (11, none), (12, none), (13, none), (14, none), (15, none), (16, none), (17, none), (18, none), (19, none), (20, none), (21, none), (22, none), (23, none), (24, none), (25, none), (26, none), (27, none), (28, none), (29, none), (30, none), (31, none), (32, none), (33, none), (34, none), (35, none), (36, none), (37, none), (39, none), (38, some 40), (40, none), (41, none), (42, none), (43, none), (44, none), (46, none), (45, some 47), (47, none), (48, none), (49, none), (50, none), (51, none), (53, none), (52, some 54), (54, none), (55, none), (56, none), (57, none), (58, none), (59, none), (60, none), (61, none), (62, none), (63, none), (64, none), (66, none), (65, some 67), (67, none), (68, none), (69, none), (70, none)] mixed (by kernel_rfl) (by kernel_rfl) (by kernel_rfl) (take1 (atS (atS (atS at0))) (take1 (atS (atS (atS at0))) (take1 (atS (atS (atS at0))) take0))) <| w0 rfl rfl rfl (S0.move rfl) rfl <| ?_  -- op t25 := call F11{rivulet/model.Order}(t24)
  have h13 : Rd 5 evB (.slice (some ⟨b13, 0, none⟩) 2 2) [fa, fb] [(b13, .cells ⟨[fa, fb].flatMap evB ++ []⟩ 37 (0, 0))] := IsSl.rd evB_len (IsSl.row (n := 2) (c := 2) rfl rfl (Nat.le_refl _))
  have h16 : Rd 7 seB (.slice (some ⟨b16, 0, none⟩) 1 1) [s1] [(b16, .cells ⟨[s1].flatMap seB ++ []⟩ 39 (0, 0))] := IsSl.rd seB_len (IsSl.row (n := 1) (c := 1) rfl rfl (Nat.le_refl _))
  have h23 : Rd 7 seB (.slice (some ⟨b23, 0, none⟩) 3 3) [s1, s2, s3] [(b23, .cells ⟨[s1, s2, s3].flatMap seB ++ []⟩ 39 (0, 0))] := IsSl.rd seB_len (IsSl.row (n := 3) (c := 3) rfl rfl (Nat.le_refl _))
  have h13c := h13.cut 1 2 (by omega) (Nat.le_refl _)
  refine wcd rfl rfl rfl rfl (S1.callF rfl (order_spec h13 fab_ok (by decide)) (take1 (atS (atS at0)) take0)) rfl ?_
  rw [e1]
  refine w0 rfl rfl rfl (S0.move rfl) rfl <| ?_  -- guard t26 (wants True) at t27 := load 37 t2 [if #2=True]
  refine wcsTh (t := 26) rfl (rfl) ?_
  refine w0 rfl rfl rfl (S0.loadAL rfl) rfl <| wnv rfl rfl rfl rfl (S1.buildSlice rfl (qs := [(0, _)]) rfl rfl) rfl fun b28 => ?_  -- op t29 := call F11{rivulet/model.Order}(t28) [if #2=True]
  have h28 : Rd 5 evB (.slice (some ⟨b28, 0, none⟩) 1 1) [fb] [(b28, .cells ⟨[fb].flatMap evB ++ []⟩ 37 (0, 0))] := IsSl.rd evB_len (IsSl.row (n := 1) (c := 1) rfl rfl (Nat.le_refl _))
  refine wcd rfl rfl rfl rfl (S1.callF rfl (order_spec h28 fb_ok (by decide)) (take1 at0 take0)) rfl ?_
  rw [e2]
  refine w0 rfl rfl rfl (S0.not rfl) rfl <| w0 rfl rfl rfl (S0.pickT rfl rfl) rfl <| w0 rfl rfl rfl (S0.move rfl) rfl <| ?_  -- guard t32 (wants True) at t33 := move t4 [if #8=True]
  refine wcsTh (t := 32) rfl (rfl) ?_
  refine w0 rfl rfl rfl (S0.move rfl) rfl <| w0 rfl rfl rfl (S0.move rfl) rfl <| ?_  -- op t35 := call F16{rivulet/model.Wrong}(t33, t34) [if #8=True]
  refine wcd rfl rfl rfl rfl (S1.callF rfl (wrong_spec h13 h16 (by decide) (by decide)) (take1 (atS at0) (take1 (atS (atS at0)) take0))) rfl ?_
  rw [e3]
  refine w0 rfl rfl rfl (S0.cmp rfl rfl rfl) rfl <| w0 rfl rfl rfl (S0.pickT rfl rfl) rfl <| w0 rfl rfl rfl (S0.move rfl) rfl <| ?_  -- guard t38 (wants True) at t39 := move t4 [if #14=True]
  refine wcsTh (t := 38) rfl (rfl) ?_
  refine w0 rfl rfl rfl (S0.move rfl) rfl <| w0 rfl rfl rfl (S0.move rfl) rfl <| ?_  -- op t41 := call F16{rivulet/model.Wrong}(t39, t40) [if #14=True]
  refine wcd rfl rfl rfl rfl (S1.callF rfl (wrong_spec h13 h23 (by decide) (by decide)) (take1 at0 (take1 (atS (atS at0)) take0))) rfl ?_
  rw [e4]
  refine w0 rfl rfl rfl (S0.cmp rfl rfl rfl) rfl <| w0 rfl rfl rfl (S0.pickT rfl rfl) rfl <| w0 rfl rfl rfl (S0.move rfl) rfl <| ?_  -- guard t44 (wants True) at t45 := move t4 [if #20=True]
  refine wcsTh (t := 44) rfl (rfl) ?_
  refine w0 rfl rfl rfl (S0.move rfl) rfl <| ?_  -- op t46 := slice 22 t45 1:i64 none none [if #20=True]
  refine w0 rfl rfl rfl (S0.slice (i := 1) (j := 2) rfl rfl rfl (by omega)) rfl <| ?_
  refine w0 rfl rfl rfl (S0.move rfl) rfl <| ?_  -- op t48 := call F16{rivulet/model.Wrong}(t46, t47) [if #20=True]
  refine wcd rfl rfl rfl rfl (S1.callF rfl (wrong_spec h13c h23 (by decide) (by decide)) (take1 at0 (take1 at0 take0))) rfl ?_
  rw [show (([fa, fb].drop 1).take (2 - 1)) = [fb] from rfl, e5]
  refine w0 rfl rfl rfl (S0.cmp rfl rfl rfl) rfl <| w0 rfl rfl rfl (S0.pickT rfl rfl) rfl <| w0 rfl rfl rfl (S0.move rfl) rfl <| ?_  -- guard t51 (wants True) at t52 := move t4 [if #27=True]
  refine wcsTh (t := 51) rfl (rfl) ?_
  refine w0 rfl rfl rfl (S0.move rfl) rfl <| w0 rfl rfl rfl (S0.loadAL rfl) rfl <| w0 rfl rfl rfl (S0.build rfl (qs := [(2, _)]) rfl) rfl <| wnv rfl rfl rfl rfl (S1.buildSlice rfl (qs := [(0, _)]) rfl rfl) rfl fun b55 => ?_  -- op t56 := call F16{rivulet/model.Wrong}(t52, t55) [if #27=True]
  have h55 : Rd 7 seB (.slice (some ⟨b55, 0, none⟩) 1 1) [⟨0, 0, fy⟩] [(b55, .cells ⟨[(⟨0, 0, fy⟩ : Se)].flatMap seB ++ []⟩ 39 (0, 0))] := IsSl.rd seB_len (IsSl.row (n := 1) (c := 1) rfl rfl (Nat.le_refl _))
  refine wcd rfl rfl rfl rfl (S1.callF rfl (wrong_spec h13 h55 (by decide) (by decide)) (take1 (atS at0) (take1 at0 take0))) rfl ?_
  rw [e6]
  refine w0 rfl rfl rfl (S0.cmp rfl rfl rfl) rfl <| w0 rfl rfl rfl (S0.pickT rfl rfl) rfl <| w0 rfl rfl rfl (S0.move rfl) rfl <| ?_  -- guard t59 (wants True) at t60 := move t4 [if #35=True]
  refine wcsTh (t := 59) rfl (rfl) ?_
  refine w0 rfl rfl rfl (S0.move rfl) rfl <| w0 rfl rfl rfl (S0.move rfl) rfl <| w0 rfl rfl rfl (S0.loadAL rfl) rfl <| wwait rfl rfl rfl rfl (.inl rfl) (S1.buildSlice rfl (qs := [(0, _)]) rfl rfl) <| ?_  -- op t62 := call F20{rivulet/model.Missing}(t60, t61, 1:i64, 2:i64, Value.string {'data': [35]}) [if #35=True]
  refine wc rfl rfl rfl rfl (S1.callF rfl (missing_spec h13 h16 fab_ok (by decide) (by decide) 1 2 (f := [35]) (by decide)) (take1 at0 (take1 (atS (atS at0)) take0))) rfl ?_
  rintro _ _ ⟨row7, h7, rfl⟩
  refine wapp ?_
  rw [e7] at h7
  refine wcome rfl rfl rfl rfl (S1.buildSlice rfl (qs := [(0, _)]) rfl rfl) fun b64 => ?_  -- op t65 := call F19{rivulet/rivuletref11.Equal}(t62, t64) [if #35=True]
  have h64 : Rd 5 evB (.slice (some ⟨b64, 0, none⟩) 1 1) [fa] [(b64, .cells ⟨[fa].flatMap evB ++ []⟩ 37 (0, 0))] := IsSl.rd evB_len (IsSl.row (n := 1) (c := 1) rfl rfl (Nat.le_refl _))
  refine wcd rfl rfl rfl rfl (S1.callF rfl (eqEv_spec (IsSl.rd evB_len h7) h64 (by decide)) (take1 (atS at0) (take1 at0 take0))) rfl ?_
  rw [show decide ([fa] = [fa]) = true by decide]
  refine w0 rfl rfl rfl (S0.pickT rfl rfl) rfl <| w0 rfl rfl rfl (S0.move rfl) rfl <| ?_  -- guard t67 (wants True) at t68 := move t4 [if #43=True]
  refine wcsTh (t := 67) rfl (rfl) ?_
  refine w0 rfl rfl rfl (S0.move rfl) rfl <| w0 rfl rfl rfl (S0.loadAL rfl) rfl <| wwait rfl rfl rfl rfl (.inl rfl) (S1.buildSlice rfl (qs := [(0, _)]) rfl rfl) <| ?_  -- op t69 := call F20{rivulet/model.Missing}(t68, Value.slice none 0 0, 1:i64, 2:i64, Value.string {'data': [98]}) [if #43=True]
  refine wc rfl rfl rfl rfl (S1.callF rfl (FN.two0 (missing_spec (l := []) h13 Rd.nil fab_ok (by decide) (by decide) 1 2 (f := [98]) (by decide))) (take1 (atS (atS at0)) take0)) rfl ?_
  rintro _ _ ⟨row8, h8, rfl⟩
  refine wapp ?_
  rw [e8] at h8
  refine wcome rfl rfl rfl rfl (S1.buildSlice rfl (qs := [(0, _)]) rfl rfl) fun b71 => ?_  -- op t72 := call F19{rivulet/rivuletref11.Equal}(t69, t71) [if #43=True]
  have h71 : Rd 5 evB (.slice (some ⟨b71, 0, none⟩) 1 1) [fb] [(b71, .cells ⟨[fb].flatMap evB ++ []⟩ 37 (0, 0))] := IsSl.rd evB_len (IsSl.row (n := 1) (c := 1) rfl rfl (Nat.le_refl _))
  refine wcd rfl rfl rfl rfl (S1.callF rfl (eqEv_spec (IsSl.rd evB_len h8) h71 (by decide)) (take1 (atS at0) (take1 at0 take0))) rfl ?_
  rw [show decide ([fb] = [fb]) = true by decide]
  refine w0 rfl rfl rfl (S0.pickT rfl rfl) rfl <| w0 rfl rfl rfl (S0.move rfl) rfl <| ?_  -- guard t74 (wants True) at t75 := move t5 [if #50=True]
  refine wcsTh (t := 74) rfl (rfl) ?_
  refine w0 rfl rfl rfl (S0.move rfl) rfl <| w0 rfl rfl rfl (S0.build rfl (qs := [(0, _), (1, _)]) rfl) rfl <| wwait rfl rfl rfl rfl (.inl rfl) (S1.buildSlice rfl (qs := [(0, _)]) rfl rfl) <| ?_  -- op t76 := call F22{rivulet/model.Holes}(t75, 1:i64, 2:i64) [if #50=True]
  refine wc rfl rfl rfl rfl (S1.callF rfl (holes_spec h16 (by decide) 1 2) (take1 (atS (atS (atS (atS (atS at0))))) take0)) rfl ?_
  rintro _ _ ⟨R9, row9, hm9, h9, rfl⟩
  refine wapp ?_
  obtain rfl := holes_one hm9
  refine wcome rfl rfl rfl rfl (S1.buildSlice rfl (qs := [(0, _)]) rfl rfl) fun b78 => ?_  -- op t79 := call F13{rivulet/rivuletref06.Equal}(t76, t78) [if #50=True]
  have h78 : Rd 2 mkB (.slice (some ⟨b78, 0, none⟩) 1 1) [((0 : Int), (1 : Int))] [(b78, .cells ⟨[((0 : Int), (1 : Int))].flatMap mkB ++ []⟩ 49 (0, 0))] := IsSl.rd mkB_len (IsSl.row (n := 1) (c := 1) rfl rfl (Nat.le_refl _))
  refine wcd rfl rfl rfl rfl (S1.callF rfl (eqMk_spec (IsSl.rd mkB_len h9) h78 (by decide)) (take1 (atS at0) (take1 at0 take0))) rfl ?_
  rw [show decide ([((0 : Int), (1 : Int))] = [(0, 1)]) = true by decide]
  refine w0 rfl rfl rfl (S0.pickT rfl rfl) rfl <| w0 rfl rfl rfl (S0.move rfl) rfl <| ?_  -- guard t81 (wants True) at t82 := move t6 [if #57=True]
  refine wcsTh (t := 81) rfl (rfl) ?_
  refine w0 rfl rfl rfl (S0.move rfl) rfl <| ?_  -- op t83 := call F22{rivulet/model.Holes}(t82, 1:i64, 2:i64) [if #57=True]
  refine wc rfl rfl rfl rfl (S1.callF rfl (holes_spec h23 (by decide) 1 2) (take1 (atS (atS (atS (atS (atS (atS (atS (atS (atS at0))))))))) take0)) rfl ?_
  rintro _ _ ⟨R10, row10, hm10, h10, rfl⟩
  refine wapp ?_
  obtain rfl := holes_two hm10
  obtain ⟨a10, c10, rfl, -, -⟩ := IsSl.elems (k := 1) mkB_len h10
  refine w0 rfl rfl rfl (S0.lenSl rfl) rfl <| w0 rfl rfl rfl (S0.cmp rfl rfl rfl) rfl <| w0 rfl rfl rfl (S0.pickT rfl rfl) rfl <| w0 rfl rfl rfl (S0.move rfl) rfl <| ?_  -- guard t87 (wants True) at t88 := move t4 [if #63=True]
  refine wcsTh (t := 87) rfl ((by decide)) ?_
  refine w0 rfl rfl rfl (S0.move rfl) rfl <| w0 rfl rfl rfl (S0.build rfl (qs := [(0, _), (1, _)]) rfl) rfl <| wwait rfl rfl rfl rfl (.inl rfl) (S1.buildSlice rfl (qs := [(0, _)]) rfl rfl) <| ?_  -- op t89 := call F14{rivulet/model.Marks}(t88) [if #63=True]
  refine wc rfl rfl rfl rfl (S1.callF rfl (marks_spec h13 (by decide)) (take1 (atS (atS (atS (atS (atS (atS (atS at0))))))) take0)) rfl ?_
  rintro _ _ ⟨R11, row11, hm11, h11, rfl⟩
  refine wapp ?_
  obtain rfl := marks_ab hm11
  refine wcome rfl rfl rfl rfl (S1.buildSlice rfl (qs := [(0, _)]) rfl rfl) fun b91 => ?_  -- op t92 := call F13{rivulet/rivuletref06.Equal}(t89, t91) [if #63=True]
  have h91 : Rd 2 mkB (.slice (some ⟨b91, 0, none⟩) 1 1) [((0 : Int), (2 : Int))] [(b91, .cells ⟨[((0 : Int), (2 : Int))].flatMap mkB ++ []⟩ 49 (0, 0))] := IsSl.rd mkB_len (IsSl.row (n := 1) (c := 1) rfl rfl (Nat.le_refl _))
  refine wcd rfl rfl rfl rfl (S1.callF rfl (eqMk_spec (IsSl.rd mkB_len h11) h91 (by decide)) (take1 (atS at0) (take1 at0 take0))) rfl ?_
  rw [show decide ([((0 : Int), (2 : Int))] = [(0, 2)]) = true by decide]
  refine w0 rfl rfl rfl (S0.pickT rfl rfl) rfl <| w0 rfl rfl rfl (S0.assign rfl) rfl <| wE <| WP.ret <| ?_  -- ret
  refine Leaves.drop take0 ?_
  refine r1 rfl rfl ?_
  exact ⟨rfl, rfl⟩
end Go.Proofs.YtgcclpfpnfmjcaaDoor
