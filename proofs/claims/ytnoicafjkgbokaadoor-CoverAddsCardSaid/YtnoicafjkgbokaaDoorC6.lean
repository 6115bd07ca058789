import Derived.Test.YtnoicafjkgbokaaDoorC5
namespace Go.Proofs.YtnoicafjkgbokaaDoor
open Go

theorem least_comm (a b : List Str) : leastS (a ++ b) = leastS (b ++ a) := least_ext fun y _ => by simp [or_comm]
theorem least_assoc (a b c : List Str) : leastS (leastS (a ++ b) ++ c) = leastS (a ++ leastS (b ++ c)) := by
  rw [least_app, least_comm a, least_app]
  exact least_ext fun y _ => by simp only [List.mem_append]; exact ⟨fun h => h.elim (fun h => h.elim .inr fun h => .inl (.inl h)) fun h => .inl (.inr h), fun h => h.elim (fun h => h.elim (fun h => .inl (.inr h)) .inr) fun h => .inl (.inl h)⟩
theorem coverTurns_walk (W : World) (av : Value) (ha : ArgF W stK av) (bv : Value) (hb : ArgF W stK bv) (cv : Value) (hc : ArgF W stK cv) : FN Tryd.prog 6 [av, bv, cv] [whole W] (fun v h => v = .bool true ∧ h = [whole W]) := by
  obtain ⟨a0, hra⟩ := argSts ha
  obtain ⟨b0, hrb⟩ := argSts hb
  obtain ⟨c0, hrc⟩ := argSts hc
  have hal := cutS_len a0
  have hbl := cutS_len b0
  have hcl := cutS_len c0
  have hax := cutS_mem (l := a0)
  have hbx := cutS_mem (l := b0)
  have hcx := cutS_mem (l := c0)
  refine FN.intro 72 [(0, av), (1, bv), (2, cv)] Tryd.func6 rfl (enters Tryd.func6 (by kernel_rfl) rfl) Tryd.ntmps6 rfl rfl ?_
  refine WP.seq <| WP.region <| v0 (S0.assign rfl) rfl <| vE <| WP.seq <| WP.region <| v0 (S0.move rfl) rfl <| ?_  -- op t10 := call F10{rivulet/rivuletlaw05.Cut}(t9)
  refine vc (S1.callF rfl (cut_spec hra) (take1 at0 take0)) rfl ?_
  rintro av' _ ⟨arow, ha, rfl⟩
  refine app ?_
  refine v0 (S0.assign rfl) rfl <| vE <| WP.seq <| WP.region <| v0 (S0.move rfl) rfl <| ?_  -- op t12 := call F10{rivulet/rivuletlaw05.Cut}(t11)
  refine vc (S1.callF rfl (cut_spec hrb) (take1 (atS at0) take0)) rfl ?_
  rintro bv' _ ⟨brow, hb, rfl⟩
  refine app ?_
  refine v0 (S0.assign rfl) rfl <| vE <| WP.seq <| WP.region <| v0 (S0.move rfl) rfl <| ?_  -- op t14 := call F10{rivulet/rivuletlaw05.Cut}(t13)
  refine vc (S1.callF rfl (cut_spec hrc) (take1 (atS at0) take0)) rfl ?_
  rintro cv' _ ⟨crow, hc, rfl⟩
  refine app ?_
  generalize cutS a0 = A at hal hax ha
  generalize cutS b0 = B at hbl hbx hb
  generalize cutS c0 = C at hcl hcx hc
  have ha' := ha
  obtain ⟨aa, ac, rfl, -, harow⟩ := ha'.strsE
  refine v0 (S0.assign rfl) rfl <| vE <| WP.seq <| WP.region <| vnv (S1.buildSlice rfl (qs := []) rfl rfl) rfl fun b15 => v0 (S0.assign rfl) rfl <| vE <| WP.seq <| WP.seq <| WP.region <| v0 (S0.move rfl) rfl <| v0 (S0.lenSl rfl) rfl <| v0 (S0.ari rfl rfl rfl (wrap_i64 (by omega))) rfl <| v0 (S0.assign rfl) rfl <| vE <| WP.block <| ?_  -- Code.loop
  refine WP.loop (fun st : Nat × List Str × Value × List Blk => st.1 ≤ A.length ∧ st.2.1.length = 2 * (A.length - st.1) ∧ (∀ y, y ∈ st.2.1 ↔ y ∈ A.drop st.1) ∧ IsSl 9 1 st.2.2.1 (strs st.2.1) st.2.2.2) (fun st : Nat × List Str × Value × List Blk => [(0, .slice aa A.length ac), (1, bv'), (2, cv'), (7, st.2.2.1), (8, .int .i64 ((st.1 : Int) - 1))]) (fun st : Nat × List Str × Value × List Blk => [st.2.2.2, arow, brow, crow, whole W]) (fun st : Nat × List Str × Value × List Blk => st.1) ((A.length, [], _, [(b15, .cells ⟨[]⟩ 9 (0, 0))])) (⟨Nat.le_refl _, by simp, fun y => by simp, IsSl.row (n := 0) (c := 0) (l := []) (sp := []) rfl rfl (Nat.le_refl _)⟩) ⟨rfl, rfl, rfl, rfl, rfl, trivial⟩ ⟨_, (take1 at0 (take1 (atS (atS (atS at0))) (take1 (atS (atS at0)) (take1 at0 (take1 at0 take0)))))⟩ (fun st hinv => ?_) 
  obtain ⟨k, T, tv, row⟩ := st
  obtain ⟨hk, hTl, hTm, hT⟩ := hinv
  dsimp only at hk hTl hTm hT ⊢
  refine WP.seq <| WP.seq <| WP.region <| v0 (S0.move rfl) rfl <| v0 (S0.cmp rfl rfl rfl) rfl <| vE <| ?_  -- cond
  first | refine WP.condP rfl (fun h1 => ?_) (fun h1 => ?_) | refine WP.condN rfl (fun h1 => ?_) (fun h1 => ?_) | refine WP.cond rfl (fun h1 => ?_) (fun h1 => ?_)
  · skip
    obtain ⟨j, rfl⟩ : ∃ j, k = j + 1 := ⟨k - 1, by omega⟩
    have hlt : j < A.length := by omega
    have ej : (((j + 1 : Nat) : Int) - 1) = (j : Int) := by omega
    rw [ej]
    rcases harow with ⟨e, -⟩ | ⟨b1, sp1, rfl, rfl, hsp1⟩
    · rw [e] at hlt; simp at hlt
    have hx : A[j]? = some A[j] := by simp [hlt]
    generalize A[j] = x at hx
    have hdj := drop_cons hx
    skip
    refine WP.skip <| WP.seq <| WP.block <| WP.drawP [(0, none), (1, none), (2, none), (3, none), (4, none), (5, none), (6, none), (7, none), (8, none), (9, none), (10, none), (11, none)] mixed (by kernel_rfl) (by kernel_rfl) (by kernel_rfl) (take1 (atS at0) take0) <| w0 rfl rfl rfl (S0.move rfl) rfl <| w0 rfl rfl rfl (S0.move rfl) rfl <| w0 rfl rfl rfl (S0.move rfl) rfl <| ?_  -- op t26 := indexAddr 22 t24 t25
    refine w0 rfl rfl rfl (S0.index1 rfl rfl hlt) rfl <| ?_
    refine w0 rfl rfl rfl (S0.load rfl (strs_get hx)) rfl <| ?_
    refine w0 rfl rfl rfl (S0.move rfl) rfl <| w0 rfl rfl rfl (S0.move rfl) rfl <| ?_  -- op t30 := indexAddr 22 t28 t29
    refine w0 rfl rfl rfl (S0.index1 rfl rfl hlt) rfl <| ?_
    refine w0 rfl rfl rfl (S0.load rfl (strs_get hx)) rfl <| ?_
    refine wnv rfl rfl rfl rfl (S1.buildSlice rfl (qs := [(0, _), (1, _)]) rfl rfl) rfl fun b32 => ?_  -- op t33 := append(t23, t32) :[22, 22]
    refine we rfl rfl rfl rfl (S1.appendL rfl hT rfl rfl (atS at0) rfl rfl (by rw [strs_len]; simp; omega)) rfl ?_
    rintro v2 _ ⟨row2, hs2, rfl⟩
    have hs3 : IsSl 9 1 v2 (strs (T ++ [x, x])) row2 := by simpa [strs] using hs2
    refine w0 rfl rfl rfl (S0.assign rfl) rfl <| wE <| WP.region <| v0 (S0.move rfl) rfl <| v0 (S0.ari rfl rfl rfl (wrap_i64 (by omega))) rfl <| v0 (S0.assign rfl) rfl <| vE <| ?_  -- roundend
    exact ⟨(j, T ++ [x, x], v2, row2), (by first | exact ⟨by omega, by simp; omega, fun y => by simp [hdj, hTm y, or_comm], hs3⟩ | (dsimp only; exact ⟨by omega, by simp; omega, fun y => by simp [hdj, hTm y, or_comm], hs3⟩)), (show j < j + 1 by omega), ⟨⟨rfl, rfl, rfl, rfl, rfl, trivial⟩, rfl, rfl⟩, ⟨_, (take1 (atS at0) (take1 at0 (take1 (atS at0) (take1 (atS at0) (take1 (atS at0) take0)))))⟩⟩
  · skip
    have e : k = 0 := by omega
    subst e
    have hTA : leastS T = leastS A := least_ext fun y _ => by rw [hTm y, List.drop_zero]
    have hTx : ∀ x ∈ T, x.length ≤ 1000 := fun x h => hax x (by simpa using (hTm x).1 h)
    have hlA := least_len A
    have hlAB := least_len (A ++ B)
    have hlBC := least_len (B ++ C)
    rw [List.length_append] at hlAB hlBC
    have hABx : ∀ x ∈ leastS (A ++ B), x.length ≤ 1000 := fun x h => (List.mem_append.1 (top_sub h).1).elim (hax x) (hbx x)
    have hBCx : ∀ x ∈ leastS (B ++ C), x.length ≤ 1000 := fun x h => (List.mem_append.1 (top_sub h).1).elim (hbx x) (hcx x)
    have hl4 := least_len (leastS (A ++ B) ++ C)
    rw [List.length_append] at hl4
    have hl7 := least_len (A ++ A)
    rw [List.length_append] at hl7
    have ec := least_comm B A
    have ea := least_assoc A B C
    have eaa : leastS (A ++ A) = leastS A := least_ext fun y _ => by simp
    refine WP.exit <| WP.seq <| WP.region <| v0 (S0.move rfl) rfl <| ?_  -- op t35 := call F12{rivulet/cover.Least}(t34)
    refine vc (S1.callF rfl (least_spec hT.rdS hTx (by omega)) (take1 at0 take0)) rfl ?_
    rintro v1 _ ⟨r1', h1, rfl⟩
    refine app ?_
    rw [hTA] at h1
    refine v0 (S0.move rfl) rfl <| ?_  -- op t37 := call F12{rivulet/cover.Least}(t36)
    refine vc (S1.callF rfl (least_spec ha.rdS hax (by omega)) (take1 (atS (atS at0)) take0)) rfl ?_
    rintro v2 _ ⟨r2', h2, rfl⟩
    refine app ?_
    -- (nothing to walk: op t38 := call F11{rivulet/rivuletref02.Same}(t35, t37))
    refine vcd (S1.callF rfl (same_spec h1.rdS h2.rdS (by omega)) (take1 (atS (atS at0)) (take1 at0 take0))) rfl ?_
    refine v0 (S0.move rfl) rfl <| ?_  -- guard t39 (wants True) at t40 := move t0 [if #5=True]
    refine csTh (t := 39) rfl ((by simp)) ?_
    refine gT rfl <| v0 (S0.move rfl) rfl <| gT rfl <| v0 (S0.move rfl) rfl <| ?_  -- op t42 := call F14{rivulet/cover.Join}(t40, t41) [if #5=True]
    refine gT rfl <| vc (S1.callF rfl (join2_spec ha.rdS hb.rdS (by omega) (by omega) hax hbx) (take1 (atS (atS at0)) (take1 (atS (atS (atS at0))) take0))) rfl ?_
    rintro v3 _ ⟨j1, hj1, rfl⟩
    refine app ?_
    refine gT rfl <| v0 (S0.move rfl) rfl <| gT rfl <| v0 (S0.move rfl) rfl <| ?_  -- op t45 := call F14{rivulet/cover.Join}(t43, t44) [if #5=True]
    refine gT rfl <| vc (S1.callF rfl (join2_spec hb.rdS ha.rdS (by omega) (by omega) hbx hax) (take1 (atS (atS at0)) (take1 (atS at0) take0))) rfl ?_
    rintro v4 _ ⟨j2, hj2, rfl⟩
    refine app ?_
    rw [ec] at hj2
    -- (nothing to walk: op t46 := call F11{rivulet/rivuletref02.Same}(t42, t45) [if #5=True])
    refine gT rfl <| vcd (S1.callF rfl (same_spec hj1.rdS hj2.rdS (by omega)) (take1 (atS (atS (atS at0))) (take1 at0 take0))) rfl ?_
    refine v0 (S0.pickT rfl rfl) rfl <| v0 (S0.move rfl) rfl <| ?_  -- guard t48 (wants True) at t49 := move t0 [if #14=True]
    refine csTh (t := 48) rfl ((by simp)) ?_
    refine gT rfl <| v0 (S0.move rfl) rfl <| gT rfl <| v0 (S0.move rfl) rfl <| ?_  -- op t51 := call F14{rivulet/cover.Join}(t49, t50) [if #14=True]
    refine gT rfl <| vc (S1.callF rfl (join2_spec ha.rdS hb.rdS (by omega) (by omega) hax hbx) (take1 (atS (atS (atS at0))) (take1 (atS (atS at0)) take0))) rfl ?_
    rintro v5 _ ⟨j3, hj3, rfl⟩
    refine app ?_
    refine gT rfl <| v0 (S0.move rfl) rfl <| ?_  -- op t53 := call F14{rivulet/cover.Join}(t51, t52) [if #14=True]
    refine gT rfl <| vc (S1.callF rfl (join2_spec hj3.rdS hc.rdS (by omega) (by omega) hABx hcx) (take1 at0 (take1 (atS (atS (atS (atS (atS (atS (atS at0))))))) take0))) rfl ?_
    rintro v6 _ ⟨j4, hj4, rfl⟩
    refine app ?_
    refine gT rfl <| v0 (S0.move rfl) rfl <| gT rfl <| v0 (S0.move rfl) rfl <| gT rfl <| v0 (S0.move rfl) rfl <| ?_  -- op t57 := call F14{rivulet/cover.Join}(t55, t56) [if #14=True]
    refine gT rfl <| vc (S1.callF rfl (join2_spec hb.rdS hc.rdS (by omega) (by omega) hbx hcx) (take1 (atS (atS (atS (atS at0)))) (take1 (atS (atS at0)) take0))) rfl ?_
    rintro v7 _ ⟨j5, hj5, rfl⟩
    refine app ?_
    -- (nothing to walk: op t58 := call F14{rivulet/cover.Join}(t54, t57) [if #14=True])
    refine gT rfl <| vc (S1.callF rfl (join2_spec ha.rdS hj5.rdS (by omega) (by omega) hax hBCx) (take1 (atS (atS (atS (atS (atS at0))))) (take1 at0 take0))) rfl ?_
    rintro v8 _ ⟨j6, hj6, rfl⟩
    refine app ?_
    rw [← ea] at hj6
    -- (nothing to walk: op t59 := call F11{rivulet/rivuletref02.Same}(t53, t58) [if #14=True])
    refine gT rfl <| vcd (S1.callF rfl (same_spec hj4.rdS hj6.rdS (by omega)) (take1 (atS (atS (atS (atS (atS at0))))) (take1 at0 take0))) rfl ?_
    refine v0 (S0.pickT rfl rfl) rfl <| v0 (S0.move rfl) rfl <| ?_  -- guard t61 (wants True) at t62 := move t0 [if #27=True]
    refine csTh (t := 61) rfl ((by simp)) ?_
    refine gT rfl <| v0 (S0.move rfl) rfl <| gT rfl <| v0 (S0.move rfl) rfl <| ?_  -- op t64 := call F14{rivulet/cover.Join}(t62, t63) [if #27=True]
    refine gT rfl <| vc (S1.callF rfl (join_spec ha.rdS ha.rdS (by omega) (by omega) hax hax) (take1 (atS (atS at0)) take0)) rfl ?_
    rintro v9 _ ⟨j7, hj7, rfl⟩
    refine app ?_
    rw [eaa] at hj7
    refine gT rfl <| v0 (S0.move rfl) rfl <| ?_  -- op t66 := call F12{rivulet/cover.Least}(t65) [if #27=True]
    refine gT rfl <| vc (S1.callF rfl (least_spec ha.rdS hax (by omega)) (take1 (atS at0) take0)) rfl ?_
    rintro v10 _ ⟨r8, h8, rfl⟩
    refine app ?_
    -- (nothing to walk: op t67 := call F11{rivulet/rivuletref02.Same}(t64, t66) [if #27=True])
    refine gT rfl <| vcd (S1.callF rfl (same_spec hj7.rdS h8.rdS (by omega)) (take1 (atS (atS at0)) (take1 at0 take0))) rfl ?_
    refine v0 (S0.pickT rfl rfl) rfl <| v0 (S0.move rfl) rfl <| ?_  -- guard t69 (wants True) at t70 := call F16{rivulet/rivuletlaw05.fixed}() [if #35=True]
    refine csTh (t := 69) rfl ((by simp)) ?_
    -- (nothing to walk: op t70 := call F16{rivulet/rivuletlaw05.fixed}() [if #35=True])
    refine gT rfl <| vcd (S1.callF rfl (fixed_spec) take0) rfl ?_
    refine v0 (S0.pickT rfl rfl) rfl <| v0 (S0.assign rfl) rfl <| vE <| WP.ret <| ?_  -- ret
    refine Leaves.drop (take1 (atS (atS (atS (atS (atS (atS (atS (atS (atS (atS (atS (atS (atS (atS at0)))))))))))))) take0) ?_
    refine r1 rfl rfl ?_
    exact ⟨rfl, rfl⟩
theorem coverAdds_walk (W : World) (lv : Value) (hl : ArgF W stK lv) (f : Str) (hf : f.length ≤ maxLen) : FN Tryd.prog 8 [lv, sv f] [whole W] (fun v h => v = .bool true ∧ h = [whole W]) := by
  obtain ⟨l0, hrl⟩ := argSts hl
  have hll := cutS_len l0
  have hlx := cutS_mem (l := l0)
  refine FN.intro 78 [(0, lv), (1, sv f)] Tryd.func8 rfl (enters Tryd.func8 (by kernel_rfl) rfl) Tryd.ntmps8 rfl rfl ?_
  refine WP.seq <| WP.region <| v0 (S0.assign rfl) rfl <| vE <| WP.seq <| WP.region <| v0 (S0.move rfl) rfl <| ?_  -- op t10 := call F10{rivulet/rivuletlaw05.Cut}(t9)
  refine vc (S1.callF rfl (cut_spec hrl) (take1 at0 take0)) rfl ?_
  rintro lv' _ ⟨lrow, hl, rfl⟩
  refine app ?_
  generalize cutS l0 = L at hll hlx hl
  refine v0 (S0.assign rfl) rfl <| vE <| WP.seq <| WP.region <| v0 (S0.move rfl) rfl <| v0 (S0.move rfl) rfl <| v0 (S0.lenSt rfl) rfl <| v0 (S0.min2 rfl rfl rfl) rfl <| ?_  -- op t15 := slice 9 t11 none t14 none
  rw [min120]
  refine v0 (S0.sliceSt (i := 0) (j := min f.length 120) rfl rfl rfl ⟨Nat.zero_le _, by omega⟩) rfl <| ?_
  have hf120 : ((f.drop 0).take (min f.length 120 - 0)).length ≤ 1000 := by simp; omega
  generalize (f.drop 0).take (min f.length 120 - 0) = F at hf120
  have hF1 : filtS F = false → leastS (L ++ [F]) = leastS L := fun h => least_ext fun y hy => by
    simp only [List.mem_append, List.mem_singleton]
    exact ⟨fun h2 => h2.elim id fun e => (by subst e; rw [h] at hy; cases hy), .inl⟩
  have hF2 : filtS F = false → holdsS L F = false := fun h => by
    unfold holdsS
    rw [List.any_eq_false]
    intro g _
    cases hc : coversS g F with
    | false => simp
    | true => have := (coversS_filt hc).2; rw [h] at this; cases this
  have hF3 : filtS F = true → holdsS (leastS (L ++ [F])) F = true := fun h => holds_least (by simp) h
  have hF4 : filtS F = true → holdsS L F = false → F ∈ leastS (L ++ [F]) := fun h h2 => mem_least.2 ⟨⟨by simp, h⟩, fun g hg _ => by
    rcases List.mem_append.1 hg with hg | hg
    · cases hd : domS g F with
      | false => rfl
      | true =>
        have : holdsS L F = true := List.any_eq_true.2 ⟨g, hg, (dom_iff.1 hd).2.1⟩
        rw [h2] at this; cases this
    · simp at hg; subst hg; exact dom_irr _⟩
  have hF5 : filtS F = true → holdsS L F = true → (leastS (L ++ [F])).length = (leastS L).length := fun h h2 => least_add h h2
  have hlL := least_len L
  have hlN := least_len (L ++ [F])
  rw [List.length_append, List.length_singleton] at hlN
  have hNx : ∀ x ∈ leastS (L ++ [F]), x.length ≤ 1000 := fun x h => (List.mem_append.1 (top_sub h).1).elim (hlx x) (fun e => by simp at e; subst e; exact hf120)
  refine v0 (S0.assign rfl) rfl <| vE <| WP.seq <| WP.region <| v0 (S0.move rfl) rfl <| ?_  -- op t17 := call F12{rivulet/cover.Least}(t16)
  refine vc (S1.callF rfl (least_spec hl.rdS hlx (by omega)) (take1 at0 take0)) rfl ?_
  rintro wv _ ⟨wrow, hw, rfl⟩
  refine app ?_
  refine v0 (S0.assign rfl) rfl <| vE <| WP.seq <| WP.region <| v0 (S0.move rfl) rfl <| v0 (S0.move rfl) rfl <| vnv (S1.buildSlice rfl (qs := [(0, _)]) rfl rfl) rfl fun b20 => ?_  -- op t21 := call F14{rivulet/cover.Join}(t18, t20)
  refine vc (S1.callF rfl (join2_spec hl.rdS (row_rdS (l := [F]) rfl) (by omega) (by simp) hlx (fun x h => by simp at h; subst h; exact hf120)) (take1 (atS (atS at0)) (take1 at0 take0))) rfl ?_
  rintro nv _ ⟨nrow, hn, rfl⟩
  refine app ?_
  generalize leastS (L ++ [F]) = N at hF1 hF3 hF4 hF5 hlN hNx hn
  have hn' := hn
  have hw' := hw
  obtain ⟨na, nc, rfl, -, hnrow⟩ := hn'.strsE
  obtain ⟨wa, wc, rfl, -, -⟩ := hw'.strsE
  refine v0 (S0.assign rfl) rfl <| vE <| WP.seq <| WP.seq <| WP.region <| v0 (S0.move rfl) rfl <| ?_  -- op t23 := call F23{rivulet/rivuletref03.Filter}(t22)
  refine vcd (S1.callF rfl (rfilter_spec (show F.length ≤ 900000 by omega)) take0) rfl ?_
  refine v0 (S0.not rfl) rfl <| vE <| ?_  -- cond
  first | refine WP.condP rfl (fun h1 => ?_) (fun h1 => ?_) | refine WP.condN rfl (fun h1 => ?_) (fun h1 => ?_) | refine WP.cond rfl (fun h1 => ?_) (fun h1 => ?_)
  · skip
    have h1' : filtS F = false := by simpa using h1
    have e1 := hF1 h1'
    have e2 := hF2 h1'
    subst e1
    refine WP.seq <| WP.region <| v0 (S0.move rfl) rfl <| v0 (S0.move rfl) rfl <| ?_  -- op t27 := call F11{rivulet/rivuletref02.Same}(t25, t26)
    refine vcd (S1.callF rfl (same_spec hn.rdS hw.rdS (by omega)) (take1 at0 (take1 (atS (atS at0)) take0))) rfl ?_
    refine v0 (S0.move rfl) rfl <| ?_  -- guard t28 (wants True) at t29 := move t0 [if #3=True]
    refine csTh (t := 28) rfl ((by simp)) ?_
    refine gT rfl <| v0 (S0.move rfl) rfl <| gT rfl <| v0 (S0.move rfl) rfl <| ?_  -- op t31 := call F21{rivulet/cover.Holds}(t29, t30) [if #3=True]
    refine gT rfl <| vcd (S1.callF rfl (holds_spec hl (by omega) hlx hf120) (take1 (atS (atS at0)) take0)) rfl ?_
    rw [e2]
    refine gT rfl <| v0 (S0.not rfl) rfl <| v0 (S0.pickT rfl rfl) rfl <| v0 (S0.move rfl) rfl <| ?_  -- guard t34 (wants True) at t35 := call F16{rivulet/rivuletlaw05.fixed}() [if #9=True]
    refine csTh (t := 34) rfl (rfl) ?_
    -- (nothing to walk: op t35 := call F16{rivulet/rivuletlaw05.fixed}() [if #9=True])
    refine gT rfl <| vcd (S1.callF rfl (fixed_spec) take0) rfl ?_
    refine v0 (S0.pickT rfl rfl) rfl <| v0 (S0.assign rfl) rfl <| vE <| WP.ret <| ?_  -- ret
    refine Leaves.drop (take1 (atS (atS (atS (atS at0)))) take0) ?_
    refine r1 rfl rfl ?_
    exact ⟨rfl, rfl⟩
  · skip
    have h1' : filtS F = true := by simpa using h1
    refine WP.skip <| WP.seq <| WP.seq <| WP.region <| v0 (S0.move rfl) rfl <| v0 (S0.move rfl) rfl <| ?_  -- op t39 := call F21{rivulet/cover.Holds}(t37, t38)
    refine vcd (S1.callF rfl (holds_spec hl (by omega) hlx hf120) (take1 (atS at0) take0)) rfl ?_
    refine v0 (S0.not rfl) rfl <| vE <| ?_  -- cond
    first | refine WP.condP rfl (fun h2 => ?_) (fun h2 => ?_) | refine WP.condN rfl (fun h2 => ?_) (fun h2 => ?_) | refine WP.cond rfl (fun h2 => ?_) (fun h2 => ?_)
    · skip
      have h2' : holdsS L F = false := by simpa using h2
      have hin := hF4 h1' h2'
      have hho := hF3 h1'
      refine WP.seq <| WP.region <| v0 (S0.assign rfl) rfl <| vE <| WP.seq <| WP.seq <| WP.region <| v0 (S0.assign rfl) rfl <| vE <| WP.block <| ?_  -- Code.loop
      refine WP.loop (fun st : Nat × Bool => st.1 ≤ N.length ∧ st.2 = decide (F ∈ N.take st.1)) (fun st : Nat × Bool => [(1, sv F), (6, .slice na N.length nc), (7, .bool st.2), (8, .int .i64 (st.1 : Int))]) (fun st : Nat × Bool => [lrow, nrow, whole W]) (fun st : Nat × Bool => N.length - st.1) ((0, false)) (⟨Nat.zero_le _, by simp⟩) ⟨rfl, rfl, rfl, rfl, trivial⟩ ⟨_, (take1 at0 (take1 at0 (take1 (atS (atS at0)) take0)))⟩ (fun st hinv => ?_) 
      obtain ⟨i, inn⟩ := st
      obtain ⟨hi, hinn⟩ := hinv
      dsimp only at hi hinn ⊢
      refine WP.seq <| WP.seq <| WP.region <| v0 (S0.move rfl) rfl <| v0 (S0.move rfl) rfl <| v0 (S0.lenSl rfl) rfl <| v0 (S0.cmp rfl rfl rfl) rfl <| vE <| ?_  -- cond
      first | refine WP.condP rfl (fun h3 => ?_) (fun h3 => ?_) | refine WP.condN rfl (fun h3 => ?_) (fun h3 => ?_) | refine WP.cond rfl (fun h3 => ?_) (fun h3 => ?_)
      · skip
        have hlt : i < N.length := by omega
        rcases hnrow with ⟨e, -⟩ | ⟨b1, sp1, rfl, rfl, hsp1⟩
        · rw [e] at hlt; simp at hlt
        have hx : N[i]? = some N[i] := by simp [hlt]
        generalize N[i] = x at hx
        have htk : N.take (i + 1) = N.take i ++ [x] := by rw [List.take_add_one, hx]; rfl
        refine WP.skip <| WP.seq <| WP.block <| WP.region <| v0 (S0.move rfl) rfl <| v0 (S0.move rfl) rfl <| ?_  -- guard t48 (wants False) at t49 := move t6 [if #1=False]
        skip
        cases inn with
        | true =>
          skip
          have hmem : F ∈ N.take i := of_decide_eq_true hinn.symm
          refine csTh (t := 48) rfl (rfl) ?_
          refine gF rfl rfl <| gF rfl rfl <| gF rfl rfl <| gF rfl rfl <| gF rfl rfl <| gF rfl rfl <| v0 (S0.pickT rfl rfl) rfl <| v0 (S0.assign rfl) rfl <| vE <| WP.region <| v0 (S0.move rfl) rfl <| v0 (S0.ari rfl rfl rfl (wrap_i64 (by omega))) rfl <| v0 (S0.assign rfl) rfl <| vE <| ?_  -- roundend
          exact ⟨(i + 1, true), (by first | exact ⟨hlt, by simp [htk, hmem]⟩ | (dsimp only; exact ⟨hlt, by simp [htk, hmem]⟩)), (show N.length - (i + 1) < N.length - i by omega), ⟨⟨rfl, rfl, rfl, rfl, trivial⟩, rfl, rfl⟩, ⟨_, (take1 at0 (take1 at0 (take1 at0 take0)))⟩⟩
        | false =>
          skip
          have hmem : F ∉ N.take i := of_decide_eq_false hinn.symm
          refine csFh (t := 48) rfl (rfl) ?_
          refine gT rfl <| v0 (S0.move rfl) rfl <| gT rfl <| v0 (S0.move rfl) rfl <| ?_  -- op t51 := indexAddr 22 t49 t50 [if #1=False]
          refine gT rfl <| v0 (S0.index1 rfl rfl hlt) rfl <| ?_
          refine gT rfl <| v0 (S0.load rfl (strs_get hx)) rfl <| ?_
          refine gT rfl <| v0 (S0.move rfl) rfl <| gT rfl <| v0 (S0.cmpS rfl rfl rfl) rfl <| v0 (S0.pickF rfl rfl) rfl <| v0 (S0.assign rfl) rfl <| vE <| WP.region <| v0 (S0.move rfl) rfl <| v0 (S0.ari rfl rfl rfl (wrap_i64 (by omega))) rfl <| v0 (S0.assign rfl) rfl <| vE <| ?_  -- roundend
          exact ⟨(i + 1, decide (x = F)), (by first | exact ⟨hlt, by simp [htk, hmem, eq_comm]⟩ | (dsimp only; exact ⟨hlt, by simp [htk, hmem, eq_comm]⟩)), (show N.length - (i + 1) < N.length - i by omega), ⟨⟨rfl, rfl, rfl, rfl, trivial⟩, rfl, rfl⟩, ⟨_, (take1 at0 (take1 at0 (take1 at0 take0)))⟩⟩
      · skip
        rw [List.take_of_length_le (show N.length ≤ i by omega), decide_eq_true hin] at hinn
        subst hinn
        refine WP.exit <| WP.seq <| WP.region <| v0 (S0.move rfl) rfl <| v0 (S0.move rfl) rfl <| ?_  -- guard t57 (wants True) at t58 := move t6 [if #1=True]
        refine csTh (t := 57) rfl (rfl) ?_
        refine gT rfl <| v0 (S0.move rfl) rfl <| gT rfl <| v0 (S0.move rfl) rfl <| ?_  -- op t60 := call F21{rivulet/cover.Holds}(t58, t59) [if #1=True]
        refine gT rfl <| vcd (S1.callF rfl (holds_spec hn (by omega) hNx hf120) (take1 (atS at0) take0)) rfl ?_
        rw [hho]
        refine v0 (S0.pickT rfl rfl) rfl <| v0 (S0.move rfl) rfl <| ?_  -- guard t62 (wants True) at t63 := call F16{rivulet/rivuletlaw05.fixed}() [if #6=True]
        refine csTh (t := 62) rfl (rfl) ?_
        -- (nothing to walk: op t63 := call F16{rivulet/rivuletlaw05.fixed}() [if #6=True])
        refine gT rfl <| vcd (S1.callF rfl (fixed_spec) take0) rfl ?_
        refine v0 (S0.pickT rfl rfl) rfl <| v0 (S0.assign rfl) rfl <| vE <| WP.ret <| ?_  -- ret
        refine Leaves.drop (take1 (atS (atS at0)) take0) ?_
        refine r1 rfl rfl ?_
        exact ⟨rfl, rfl⟩
    · skip
      have h2' : holdsS L F = true := by simpa using h2
      have hho := hF3 h1'
      have hlen := hF5 h1' h2'
      refine WP.skip <| WP.seq <| WP.region <| v0 (S0.move rfl) rfl <| v0 (S0.lenSl rfl) rfl <| v0 (S0.move rfl) rfl <| v0 (S0.lenSl rfl) rfl <| v0 (S0.cmp rfl rfl rfl) rfl <| v0 (S0.move rfl) rfl <| ?_  -- guard t70 (wants True) at t71 := move t6 [if #5=True]
      refine csTh (t := 70) rfl ((by rw [hlen]; simp)) ?_
      refine gT rfl <| v0 (S0.move rfl) rfl <| gT rfl <| v0 (S0.move rfl) rfl <| ?_  -- op t73 := call F21{rivulet/cover.Holds}(t71, t72) [if #5=True]
      refine gT rfl <| vcd (S1.callF rfl (holds_spec hn (by omega) hNx hf120) (take1 (atS at0) take0)) rfl ?_
      rw [hho]
      refine v0 (S0.pickT rfl rfl) rfl <| v0 (S0.move rfl) rfl <| ?_  -- guard t75 (wants True) at t76 := call F16{rivulet/rivuletlaw05.fixed}() [if #10=True]
      refine csTh (t := 75) rfl (rfl) ?_
      -- (nothing to walk: op t76 := call F16{rivulet/rivuletlaw05.fixed}() [if #10=True])
      refine gT rfl <| vcd (S1.callF rfl (fixed_spec) take0) rfl ?_
      refine v0 (S0.pickT rfl rfl) rfl <| v0 (S0.assign rfl) rfl <| vE <| WP.ret <| ?_  -- ret
      refine Leaves.drop (take1 (atS (atS (atS (atS at0)))) take0) ?_
      refine r1 rfl rfl ?_
      exact ⟨rfl, rfl⟩
end Go.Proofs.YtnoicafjkgbokaaDoor
