import Derived.Test.YtgcclpfpnfmjcaaDoorM12
import Derived.Test.YtgcclpfpnfmjcaaDoorMo2
namespace Go.Proofs.YtgcclpfpnfmjcaaDoor
open Go

theorem allS_len (n d : Int) (l : List Ev) : (allS n d l).length = l.length := by simp [allS]
theorem modelAll_walk (W : World) (tv : Value) (ht : ArgF W evK tv) (n d : Int) : FN Tryd.prog 6 [tv, .int .i64 n, .int .i64 d] [whole W] (fun v h => v = .bool true ∧ h = [whole W]) := by
  obtain ⟨t0, hrt, htw⟩ := argEv ht
  have hok := cutEs_ok htw
  have htl := cutEs_len t0
  refine FN.intro 90 [(0, tv), (1, .int .i64 n), (2, .int .i64 d)] Tryd.func6 rfl (enters Tryd.func6 (by kernel_rfl) rfl) Tryd.ntmps6 rfl rfl ?_
  refine WP.seq <| WP.region <| v0 (S0.assign rfl) rfl <| vE <| WP.seq <| WP.region <| v0 (S0.move rfl) rfl <| ?_  -- op t12 := call F9{rivulet/rivuletlaw22.Events}(t11)
  refine vc (S1.callF rfl (events_spec hrt) (take1 at0 take0)) rfl ?_
  rintro t _ ⟨trow, ht, rfl⟩
  refine app ?_
  generalize cutEs t0 = T at hok htl ht
  have hT := IsSl.rd evB_len ht
  have hT' := hT
  obtain ⟨ta, tc, rfl, htc, htr⟩ := hT'
  refine v0 (S0.assign rfl) rfl <| vE <| WP.seq <| WP.seq <| WP.region <| v0 (S0.move rfl) rfl <| ?_  -- op t14 := call F11{rivulet/model.Order}(t13)
  refine vcd (S1.callF rfl (order_spec hT hok (by omega)) (take1 at0 take0)) rfl ?_
  refine v0 (S0.not rfl) rfl <| vE <| ?_  -- cond
  first | refine WP.condP rfl (fun h1 => ?_) (fun h1 => ?_) | refine WP.condN rfl (fun h1 => ?_) (fun h1 => ?_) | refine WP.cond rfl (fun h1 => ?_) (fun h1 => ?_)
  · skip
    refine WP.seq <| WP.region <| ?_  -- op t16 := call F18{rivulet/rivuletlaw22.fixed}()
    refine vcd (S1.callF rfl (fixed_spec) take0) rfl ?_
    refine v0 (S0.assign rfl) rfl <| vE <| WP.ret <| ?_  -- ret
    refine Leaves.drop (take1 (atS at0) take0) ?_
    refine r1 rfl rfl ?_
    exact ⟨rfl, rfl⟩
  · skip
    have hO : Ord T := ord_of (by simpa using h1)
    refine WP.skip <| WP.seq <| WP.region <| vnv (S1.buildSlice rfl (qs := []) rfl rfl) rfl fun b17 => v0 (S0.assign rfl) rfl <| vE <| WP.seq <| WP.seq <| WP.region <| v0 (S0.assign rfl) rfl <| vE <| WP.block <| ?_  -- Code.loop
    refine WP.loop (fun st : Nat × Value × List Blk => st.1 ≤ T.length ∧ IsSl 39 7 st.2.1 ((allS n d (T.take st.1)).flatMap seB) st.2.2) (fun st : Nat × Value × List Blk => [(1, .int .i64 n), (2, .int .i64 d), (7, .slice ta T.length tc), (8, st.2.1), (9, .int .i64 (st.1 : Int))]) (fun st : Nat × Value × List Blk => [st.2.2, trow, whole W]) (fun st : Nat × Value × List Blk => T.length - st.1) ((0, _, [(b17, .cells ⟨[]⟩ 39 (0, 0))])) (⟨Nat.zero_le _, IsSl.row (n := 0) (c := 0) (l := []) (sp := []) rfl rfl (Nat.le_refl _)⟩) ⟨rfl, rfl, rfl, rfl, rfl, trivial⟩ ⟨_, (take1 at0 (take1 at0 (take1 at0 take0)))⟩ (fun st hinv => ?_) 
    obtain ⟨i, sv', srow⟩ := st
    obtain ⟨hi, hssl⟩ := hinv
    dsimp only at hi hssl ⊢
    refine WP.seq <| WP.seq <| WP.region <| v0 (S0.move rfl) rfl <| v0 (S0.move rfl) rfl <| v0 (S0.lenSl rfl) rfl <| v0 (S0.cmp rfl rfl rfl) rfl <| vE <| ?_  -- cond
    first | refine WP.condP rfl (fun h2 => ?_) (fun h2 => ?_) | refine WP.condN rfl (fun h2 => ?_) (fun h2 => ?_) | refine WP.cond rfl (fun h2 => ?_) (fun h2 => ?_)
    · skip
      have hlt : i < T.length := by omega
      rcases htr with e | ⟨b, o, GL, U, fz, rfl, hmem, hel⟩
      · rw [e] at hlt; simp at hlt
      have : HasC trow b (.cells ⟨GL⟩ U fz) := ⟨hmem⟩
      have hx : T[i]? = some T[i] := by simp [hlt]
      generalize T[i] = x at hx
      have hele := hel i x hx
      refine WP.skip <| WP.seq <| WP.block <| WP.region <| v0 (S0.move rfl) rfl <| v0 (S0.move rfl) rfl <| v0 (S0.move rfl) rfl <| v0 (S0.move rfl) rfl <| v0 (S0.move rfl) rfl <| ?_  -- op t29 := indexAddr 22 t27 t28
      refine v0 (S0.indexO rfl rfl hlt) rfl <| ?_
      refine v0 (S0.loadA (vs := evB x) rfl hele rfl) rfl <| ?_
      refine v0 (S0.build rfl (qs := [(0, _), (1, _), (2, _)]) rfl) rfl <| vnv (S1.buildSlice rfl (qs := [(0, _)]) rfl rfl) rfl fun b32 => ?_  -- op t33 := append(t24, t32) :[23, 23]
      refine ve (S1.appendL rfl hssl rfl rfl (atS at0) rfl rfl (by rw [flat_len seB_len, allS_len]; simp; omega)) rfl ?_
      rintro v2 _ ⟨row2, hsl2, rfl⟩
      refine v0 (S0.assign rfl) rfl <| vE <| WP.region <| v0 (S0.move rfl) rfl <| v0 (S0.ari rfl rfl rfl (wrap_i64 (by omega))) rfl <| v0 (S0.assign rfl) rfl <| vE <| ?_  -- roundend
      exact ⟨(i + 1, v2, row2), (by first | exact ⟨hlt, by rw [take_snoc hx]; simpa [allS, seB] using hsl2⟩ | (dsimp only; exact ⟨hlt, by rw [take_snoc hx]; simpa [allS, seB] using hsl2⟩)), (show T.length - (i + 1) < T.length - i by omega), ⟨⟨rfl, rfl, rfl, rfl, rfl, trivial⟩, rfl, rfl⟩, ⟨_, (take1 at0 (take1 (atS at0) (take1 (atS at0) take0)))⟩⟩
    · skip
      rw [List.take_of_length_le (by omega)] at hssl
      have hS := IsSl.rd seB_len hssl
      have hS' := hS
      obtain ⟨sa, sc, rfl, hsc, -⟩ := hS'
      have hsl := allS_len n d T
      refine WP.exit <| WP.seq <| WP.seq <| WP.region <| v0 (S0.move rfl) rfl <| v0 (S0.move rfl) rfl <| ?_  -- op t36 := call F16{rivulet/model.Wrong}(t34, t35)
      refine vcd (S1.callF rfl (wrong_spec hT hS (by omega) (by omega)) (take1 (atS at0) (take1 at0 take0))) rfl ?_
      rw [wrongI_all n d hO]
      refine v0 (S0.cmp rfl rfl rfl) rfl <| v0 (S0.move rfl) rfl <| ?_  -- guard t38 (wants False) at t39 := move t7 [if #4=False]
      refine csFh (t := 38) rfl ((by decide)) ?_
      refine gT rfl <| v0 (S0.move rfl) rfl <| gT rfl <| v0 (S0.move rfl) rfl <| gT rfl <| v0 (S0.move rfl) rfl <| gT rfl <| v0 (S0.move rfl) rfl <| ?_  -- op t43 := call F20{rivulet/model.Missing}(t39, t40, t41, t42, Value.string {'data': [35]}) [if #4=False]
      refine gT rfl <| vc (S1.callF rfl (missing_spec hT hS hok (by omega) (by omega) n d (f := [35]) (by decide)) (take1 at0 (take1 at0 take0))) rfl ?_
      rintro m1 _ ⟨row1, hr1, rfl⟩
      refine app ?_
      rw [missB_all] at hr1
      obtain ⟨ma, mc, rfl, -, -⟩ := IsSl.elems (k := 4) evB_len hr1
      refine gT rfl <| v0 (S0.lenSl rfl) rfl <| gT rfl <| v0 (S0.cmp rfl rfl rfl) rfl <| v0 (S0.pickF rfl rfl) rfl <| v0 (S0.move rfl) rfl <| ?_  -- guard t47 (wants False) at t48 := move t8 [if #13=False]
      refine csFh (t := 47) rfl ((by decide)) ?_
      refine gT rfl <| v0 (S0.move rfl) rfl <| gT rfl <| v0 (S0.move rfl) rfl <| gT rfl <| v0 (S0.move rfl) rfl <| ?_  -- op t51 := call F22{rivulet/model.Holes}(t48, t49, t50) [if #13=False]
      refine gT rfl <| vc (S1.callF rfl (holes_spec hS (by omega) n d) (take1 (atS (atS at0)) take0)) rfl ?_
      rintro h1 _ ⟨R1, rw1, hm1, hh1, rfl⟩
      refine app ?_
      obtain rfl := holes_all n d hO hm1
      obtain ⟨ha, hc, rfl, -, -⟩ := IsSl.elems (k := 1) mkB_len hh1
      refine gT rfl <| v0 (S0.lenSl rfl) rfl <| gT rfl <| v0 (S0.cmp rfl rfl rfl) rfl <| v0 (S0.pickF rfl rfl) rfl <| vE <| ?_  -- cond
      refine WP.condFh rfl ((by decide)) ?_
      refine WP.skip <| WP.seq <| WP.region <| v0 (S0.move rfl) rfl <| v0 (S0.lenSl rfl) rfl <| v0 (S0.ari rfl rfl rfl (wrap_i64 (by omega))) rfl <| v0 (S0.assign rfl) rfl <| vE <| WP.seq <| WP.seq <| WP.region <| v0 (S0.move rfl) rfl <| v0 (S0.cmp rfl rfl rfl) rfl <| vE <| ?_  -- cond
      first | refine WP.condP rfl (fun h5 => ?_) (fun h5 => ?_) | refine WP.condN rfl (fun h5 => ?_) (fun h5 => ?_) | refine WP.cond rfl (fun h5 => ?_) (fun h5 => ?_)
      · skip
        have hT0 : T = [] := List.length_eq_zero_iff.1 (by omega)
        subst hT0
        refine WP.seq <| WP.region <| v0 (S0.move rfl) rfl <| ?_  -- op t61 := call F14{rivulet/model.Marks}(t60)
        refine vc (S1.callF rfl (marks_spec hT (by omega)) (take1 (atS (atS (atS at0))) take0)) rfl ?_
        rintro m3 _ ⟨R3, row3, hm3, hr3, rfl⟩
        refine app ?_
        obtain rfl := hm3.uniq MarksOf.nil
        obtain ⟨na, nc, rfl, -, -⟩ := IsSl.elems (k := 1) mkB_len hr3
        refine v0 (S0.lenSl rfl) rfl <| v0 (S0.cmp rfl rfl rfl) rfl <| v0 (S0.move rfl) rfl <| ?_  -- guard t64 (wants True) at t65 := call F18{rivulet/rivuletlaw22.fixed}() [if #4=True]
        refine csTh (t := 64) rfl ((by decide)) ?_
        -- (nothing to walk: op t65 := call F18{rivulet/rivuletlaw22.fixed}() [if #4=True])
        refine gT rfl <| vcd (S1.callF rfl (fixed_spec) take0) rfl ?_
        refine v0 (S0.pickT rfl rfl) rfl <| v0 (S0.assign rfl) rfl <| vE <| WP.ret <| ?_  -- ret
        refine Leaves.drop (take1 (atS (atS (atS (atS (atS at0))))) take0) ?_
        refine r1 rfl rfl ?_
        exact ⟨rfl, rfl⟩
      · skip
        obtain ⟨m, hm⟩ : ∃ m : Nat, T.length = m + 1 := ⟨T.length - 1, by omega⟩
        have hk : (T.length : Int) - 1 = (m : Int) := by omega
        rw [hk]
        have hx : T[m]? = some T[m] := by simp [hm]
        have hc1 := (hS.cutG 0 m (Nat.zero_le _) (by omega)).2.2
        have hc2 := (hT.cutG m T.length (by omega) (Nat.le_refl _)).2.2
        have hc3 := (hT.cutG 0 m (Nat.zero_le _) (by omega)).2.2
        rw [List.drop_zero, Nat.sub_zero] at hc1 hc3
        rw [List.take_of_length_le (by simp)] at hc2
        have hml := miss_len T ((allS n d T).take m) n d [35]
        have hmiss := missB_last n d hO hx hm
        have hwr := wrongI_last n d hO hx
        refine WP.skip <| WP.seq <| WP.drawP [(0, none), (1, none), (2, none), (3, none), (4, none), (5, none), (7, none), (8, none), (9, none), (6, none), (10, none), (11, none), (12, none), (13, none), (14, none), (15, none), (17, none), (16, none), (18, none), (19, none), (20, none), (21, none), (22, none), (23, none)] mixed (by kernel_rfl) (by kernel_rfl) (by kernel_rfl) take0 <| w0 rfl rfl rfl (S0.move rfl) rfl <| w0 rfl rfl rfl (S0.move rfl) rfl <| w0 rfl rfl rfl (S0.move rfl) rfl <| ?_  -- op t70 := slice 23 t68 none t69 none
        refine w0 rfl rfl rfl (S0.sliceG (i := 0) (j := m) rfl rfl rfl ⟨Nat.zero_le _, by omega⟩) rfl <| ?_
        refine w0 rfl rfl rfl (S0.move rfl) rfl <| w0 rfl rfl rfl (S0.move rfl) rfl <| w0 rfl rfl rfl (S0.move rfl) rfl <| w0 rfl rfl rfl (S0.move rfl) rfl <| ?_  -- op t76 := slice 22 t74 t75 none none
        refine w0 rfl rfl rfl (S0.sliceG (i := m) (j := T.length) rfl rfl rfl ⟨by omega, htc⟩) rfl <| ?_
        -- (nothing to walk: op t73 := call F20{rivulet/model.Missing}(t67, t70, t71, t72, Value.string {'data': [35]}))
        refine wc rfl rfl rfl rfl (S1.callF rfl (missing_spec hT hc1 hok (by omega) (by simp; omega) n d (f := [35]) (by decide)) (take1 (atS (atS (atS at0))) (take1 (atS at0) take0))) rfl ?_
        rintro m4 _ ⟨row4, hr4, rfl⟩
        refine wapp ?_
        rw [hmiss] at hr4
        -- (nothing to walk: op t77 := call F19{rivulet/rivuletref11.Equal}(t73, t76))
        refine wcd rfl rfl rfl rfl (S1.callF rfl (eqEv_spec (IsSl.rd evB_len hr4) hc2 (by simp; omega)) (take1 at0 (take1 at0 take0))) rfl ?_
        refine w0 rfl rfl rfl (S0.move rfl) rfl <| ?_  -- guard t78 (wants True) at t79 := move t7 [if #11=True]
        refine wcsTh (t := 78) rfl ((by simp)) ?_
        refine w0 rfl rfl rfl (S0.move rfl) rfl <| w0 rfl rfl rfl (S0.move rfl) rfl <| ?_  -- op t81 := slice 22 t79 none t80 none [if #11=True]
        refine w0 rfl rfl rfl (S0.sliceG (i := 0) (j := m) rfl rfl rfl ⟨Nat.zero_le _, by omega⟩) rfl <| ?_
        refine w0 rfl rfl rfl (S0.move rfl) rfl <| w0 rfl rfl rfl (S0.move rfl) rfl <| ?_  -- op t83 := call F16{rivulet/model.Wrong}(t81, t82) [if #11=True]
        refine wcd rfl rfl rfl rfl (S1.callF rfl (wrong_spec hc3 hS (by simp; omega) (by omega)) (take1 (atS at0) (take1 (atS at0) take0))) rfl ?_
        rw [hwr]
        refine w0 rfl rfl rfl (S0.cmp rfl rfl rfl) rfl <| w0 rfl rfl rfl (S0.pickT rfl rfl) rfl <| w0 rfl rfl rfl (S0.move rfl) rfl <| ?_  -- guard t87 (wants True) at t88 := call F18{rivulet/rivuletlaw22.fixed}() [if #20=True]
        refine wcsTh (t := 87) rfl ((by simp)) ?_
        -- (nothing to walk: op t88 := call F18{rivulet/rivuletlaw22.fixed}() [if #20=True])
        refine wcd rfl rfl rfl rfl (S1.callF rfl (fixed_spec) take0) rfl ?_
        refine w0 rfl rfl rfl (S0.pickT rfl rfl) rfl <| w0 rfl rfl rfl (S0.assign rfl) rfl <| wE <| WP.ret <| ?_  -- ret
        refine Leaves.drop (take1 (atS (atS (atS (atS (atS at0))))) take0) ?_
        refine r1 rfl rfl ?_
        exact ⟨rfl, rfl⟩

/-! ModelApart -/
def ownB (d : Int) (x : Se) : Bool := decide (x.n = 0) && decide (x.d = d)
theorem had_own (l : List Se) (d o s : Int) : hadB (l.filter (ownB d)) 0 d o s = hadB l 0 d o s := by
  induction l with
  | nil => rfl
  | cons x l ih =>
    unfold hadB at ih ⊢
    rw [List.filter_cons, List.any_cons]
    by_cases h : ownB d x = true
    · rw [if_pos h, List.any_cons, ih]
    · rw [if_neg h, ih]
      have h2 : ownB d x = false := by simpa using h
      have : (decide (x.n = 0) && (decide (x.d = d) && (decide (x.v.o = o) && decide (x.v.s = s)))) = false := by
        rw [← Bool.and_assoc]; unfold ownB at h2; rw [h2]; rfl
      rw [this, Bool.false_or]
theorem miss_own (t : List Ev) (l : List Se) (d : Int) (f : Str) : missB t (l.filter (ownB d)) 0 d f = missB t l 0 d f := by
  unfold missB; congr 1; funext e; rw [had_own]
theorem hole_own (l : List Se) (d o : Int) : holeF (l.filter (ownB d)) (l.filter (ownB d)) 0 d o = holeF l l 0 d o := by
  have hf : firstN (l.filter (ownB d)) 0 d o = firstN l 0 d o := by
    have h1 := firstN_is l 0 d o
    exact firstN_eq ⟨h1.pos, by rw [had_own]; exact h1.no, fun j h2 h3 => by rw [had_own]; exact h1.below j h2 h3⟩
  unfold holeF
  rw [hf, List.any_filter]
  congr 2
  rw [Bool.eq_iff_iff]
  simp only [List.any_eq_true, Bool.and_eq_true]
  constructor
  · rintro ⟨x, hx, h1, h2⟩; exact ⟨x, hx, h2⟩
  · rintro ⟨x, hx, h2⟩; exact ⟨x, hx, h2.1, h2⟩
theorem wrong_less {t : List Ev} {pre : List Se} {x : Se} (q : Se → Bool) (h : wrongAt t pre x = false) : wrongAt t (pre.filter q) x = false := by
  simp only [wrongAt, Bool.or_eq_false_iff] at h ⊢
  refine ⟨h.1, ?_, h.2.2⟩
  rw [List.any_eq_false] at h ⊢
  exact fun y hy => h.2.1 y (List.mem_filter.1 hy).1
theorem idxF_own {t : List Ev} (q : Se → Bool) : ∀ (l pre : List Se), idxF (wrongAt t) pre l = -1 → idxF (wrongAt t) (pre.filter q) (l.filter q) = -1
  | [], pre, _ => rfl
  | x :: l, pre, h => by
    simp only [idxF] at h
    split at h
    · rename_i hw
      exfalso; omega
    · rename_i hw
      have hw' : wrongAt t pre x = false := by simpa using hw
      have ih := idxF_own q l (pre ++ [x]) h
      rw [List.filter_append] at ih
      rw [List.filter_cons]
      by_cases hq : q x = true
      · rw [if_pos hq]
        simp only [idxF, wrong_less q hw', Bool.false_eq_true, if_false]
        simpa [hq] using ih
      · rw [if_neg hq]
        simpa [hq] using ih
theorem modelApart_walk (W : World) (tv : Value) (ht : ArgF W evK tv) (sv' : Value) (hs : ArgF W seK sv') (d : Int) : FN Tryd.prog 8 [tv, sv', .int .i64 d] [whole W] (fun v h => v = .bool true ∧ h = [whole W]) := by
  obtain ⟨t0, hrt, htw⟩ := argEv ht
  obtain ⟨s0, hrs, hsw⟩ := argSe hs
  have hok := cutEs_ok htw
  have htl := cutEs_len t0
  have hsl := cutSs_len s0
  refine FN.intro 81 [(0, tv), (1, sv'), (2, .int .i64 d)] Tryd.func8 rfl (enters Tryd.func8 (by kernel_rfl) rfl) Tryd.ntmps8 rfl rfl ?_
  refine WP.seq <| WP.region <| v0 (S0.assign rfl) rfl <| vE <| WP.seq <| WP.region <| v0 (S0.move rfl) rfl <| ?_  -- op t13 := call F9{rivulet/rivuletlaw22.Events}(t12)
  refine vc (S1.callF rfl (events_spec hrt) (take1 at0 take0)) rfl ?_
  rintro t _ ⟨trow, ht, rfl⟩
  refine app ?_
  refine v0 (S0.assign rfl) rfl <| vE <| WP.seq <| WP.region <| v0 (S0.move rfl) rfl <| ?_  -- op t16 := call F10{rivulet/rivuletlaw22.both}(t15)
  refine vc (S1.callF rfl (both_spec hrs) (take1 (atS at0) take0)) rfl ?_
  rintro _ _ ⟨va, vb, ra, rb, rfl, ha, hb, rfl⟩
  refine app ?_
  generalize cutEs t0 = T at hok htl ht
  generalize cutSs s0 = S at hsl ha hb
  have hT := IsSl.rd evB_len ht
  have hA := IsSl.rd seB_len ha
  have hA' := hA
  obtain ⟨aa, ac, rfl, hac, har⟩ := hA'
  refine v0 (S0.move rfl) rfl <| v0 (S0.extract rfl rfl) rfl <| v0 (S0.extract rfl rfl) rfl <| v0 (S0.assign rfl) rfl <| v0 (S0.assign rfl) rfl <| vE <| WP.seq <| WP.region <| vnv (S1.buildSlice rfl (qs := []) rfl rfl) rfl fun b19 => v0 (S0.assign rfl) rfl <| vE <| WP.seq <| WP.seq <| WP.region <| v0 (S0.assign rfl) rfl <| vE <| WP.block <| ?_  -- Code.loop
  refine WP.loop (fun st : Nat × Value × List Blk => st.1 ≤ S.length ∧ IsSl 39 7 st.2.1 (((S.take st.1).filter (ownB d)).flatMap seB) st.2.2) (fun st : Nat × Value × List Blk => [(2, .int .i64 d), (7, t), (8, .slice aa S.length ac), (10, st.2.1), (11, .int .i64 (st.1 : Int))]) (fun st : Nat × Value × List Blk => [st.2.2, ra, rb, whole W, trow]) (fun st : Nat × Value × List Blk => S.length - st.1) ((0, _, [(b19, .cells ⟨[]⟩ 39 (0, 0))])) (⟨Nat.zero_le _, IsSl.row (n := 0) (c := 0) (l := []) (sp := []) rfl rfl (Nat.le_refl _)⟩) ⟨rfl, rfl, rfl, rfl, rfl, trivial⟩ ⟨_, (take1 at0 (take1 at0 (take1 at0 (take1 at0 (take1 at0 take0)))))⟩ (fun st hinv => ?_) 
  obtain ⟨i, ov, orow⟩ := st
  obtain ⟨hi, hosl⟩ := hinv
  dsimp only at hi hosl ⊢
  have hol : ((S.take i).filter (ownB d)).length ≤ 20 := by
    have := List.length_filter_le (ownB d) (S.take i)
    rw [List.length_take] at this; omega
  refine WP.seq <| WP.seq <| WP.region <| v0 (S0.move rfl) rfl <| v0 (S0.move rfl) rfl <| v0 (S0.lenSl rfl) rfl <| v0 (S0.cmp rfl rfl rfl) rfl <| vE <| ?_  -- cond
  first | refine WP.condP rfl (fun h1 => ?_) (fun h1 => ?_) | refine WP.condN rfl (fun h1 => ?_) (fun h1 => ?_) | refine WP.cond rfl (fun h1 => ?_) (fun h1 => ?_)
  · skip
    have hlt : i < S.length := by omega
    rcases har with e | ⟨b, o, GL, U, fz, rfl, hmem, hel⟩
    · rw [e] at hlt; simp at hlt
    have : HasC ra b (.cells ⟨GL⟩ U fz) := ⟨hmem⟩
    have hx : S[i]? = some S[i] := by simp [hlt]
    generalize S[i] = x at hx
    have hele := hel i x hx
    have hstep : (S.take (i + 1)).filter (ownB d) = (S.take i).filter (ownB d) ++ if ownB d x then [x] else [] := by rw [take_snoc hx, List.filter_append, List.filter_cons, List.filter_nil]
    refine WP.skip <| WP.seq <| WP.block <| WP.seq <| WP.region <| v0 (S0.move rfl) rfl <| v0 (S0.move rfl) rfl <| ?_  -- op t28 := indexAddr 23 t26 t27
    refine v0 (S0.indexO rfl rfl hlt) rfl <| ?_
    refine v0 (S0.fieldAddr rfl) rfl <| ?_  -- limit
    refine v0 (S0.load rfl (rd_get (k := 7) hele (j := 0) (by omega))) rfl <| ?_
    refine v0 (S0.cmp rfl rfl rfl) rfl <| v0 (S0.move rfl) rfl <| ?_  -- guard t32 (wants True) at t33 := move t8 [if #6=True]
    first | refine csP (t := 32) rfl (fun h2 => ?_) (fun h2 => ?_) | refine csN (t := 32) rfl (fun h2 => ?_) (fun h2 => ?_) | refine cs (t := 32) rfl (fun h2 => ?_) (fun h2 => ?_)
    · skip
      refine gT rfl <| v0 (S0.move rfl) rfl <| gT rfl <| v0 (S0.move rfl) rfl <| ?_  -- op t35 := indexAddr 23 t33 t34 [if #6=True]
      refine gT rfl <| v0 (S0.indexO rfl rfl hlt) rfl <| ?_
      refine gT rfl <| v0 (S0.fieldAddr rfl) rfl <| ?_  -- limit
      refine gT rfl <| v0 (S0.load rfl (rd_get (k := 7) hele (j := 1) (by omega))) rfl <| ?_
      refine gT rfl <| v0 (S0.move rfl) rfl <| gT rfl <| v0 (S0.cmp rfl rfl rfl) rfl <| v0 (S0.pickT rfl rfl) rfl <| vE <| ?_  -- cond
      first | refine WP.condP rfl (fun h3 => ?_) (fun h3 => ?_) | refine WP.condN rfl (fun h3 => ?_) (fun h3 => ?_) | refine WP.cond rfl (fun h3 => ?_) (fun h3 => ?_)
      · skip
        refine WP.region <| v0 (S0.move rfl) rfl <| v0 (S0.move rfl) rfl <| v0 (S0.move rfl) rfl <| ?_  -- op t44 := indexAddr 23 t42 t43
        refine v0 (S0.indexO rfl rfl hlt) rfl <| ?_
        refine v0 (S0.loadA (vs := seB x) rfl hele rfl) rfl <| ?_
        refine vnv (S1.buildSlice rfl (qs := [(0, _)]) rfl rfl) rfl fun b46 => ?_  -- op t47 := append(t41, t46) :[23, 23]
        refine ve (S1.appendL rfl hosl rfl rfl (atS at0) rfl rfl (by rw [flat_len seB_len]; simp; omega)) rfl ?_
        rintro v2 _ ⟨row2, hsl2, rfl⟩
        refine v0 (S0.assign rfl) rfl <| vE <| WP.region <| v0 (S0.move rfl) rfl <| v0 (S0.ari rfl rfl rfl (wrap_i64 (by omega))) rfl <| v0 (S0.assign rfl) rfl <| vE <| ?_  -- roundend
        exact ⟨(i + 1, v2, row2), (by first | exact ⟨hlt, by rw [hstep, show ownB d x = true by simp [ownB, h2, h3]]; simpa using hsl2⟩ | (dsimp only; exact ⟨hlt, by rw [hstep, show ownB d x = true by simp [ownB, h2, h3]]; simpa using hsl2⟩)), (show S.length - (i + 1) < S.length - i by omega), ⟨⟨rfl, rfl, rfl, rfl, rfl, trivial⟩, rfl, rfl⟩, ⟨_, (take1 at0 (take1 (atS at0) (take1 (atS at0) (take1 (atS at0) (take1 (atS at0) take0)))))⟩⟩
      · skip
        refine WP.skip <| WP.region <| v0 (S0.move rfl) rfl <| v0 (S0.ari rfl rfl rfl (wrap_i64 (by omega))) rfl <| v0 (S0.assign rfl) rfl <| vE <| ?_  -- roundend
        exact ⟨(i + 1, ov, orow), (by first | exact ⟨hlt, by rw [hstep, show ownB d x = false by simp [ownB, h3]]; simpa using hosl⟩ | (dsimp only; exact ⟨hlt, by rw [hstep, show ownB d x = false by simp [ownB, h3]]; simpa using hosl⟩)), (show S.length - (i + 1) < S.length - i by omega), ⟨⟨rfl, rfl, rfl, rfl, rfl, trivial⟩, rfl, rfl⟩, ⟨_, (take1 at0 (take1 at0 (take1 at0 (take1 at0 (take1 at0 take0)))))⟩⟩
    · skip
      refine gF rfl rfl <| gF rfl rfl <| gF rfl rfl <| gF rfl rfl <| gF rfl rfl <| gF rfl rfl <| gF rfl rfl <| v0 (S0.pickF rfl rfl) rfl <| vE <| WP.condF rfl <| WP.skip <| WP.region <| v0 (S0.move rfl) rfl <| v0 (S0.ari rfl rfl rfl (wrap_i64 (by omega))) rfl <| v0 (S0.assign rfl) rfl <| vE <| ?_  -- roundend
      exact ⟨(i + 1, ov, orow), (by first | exact ⟨hlt, by rw [hstep, show ownB d x = false by simp [ownB, h2]]; simpa using hosl⟩ | (dsimp only; exact ⟨hlt, by rw [hstep, show ownB d x = false by simp [ownB, h2]]; simpa using hosl⟩)), (show S.length - (i + 1) < S.length - i by omega), ⟨⟨rfl, rfl, rfl, rfl, rfl, trivial⟩, rfl, rfl⟩, ⟨_, (take1 at0 (take1 at0 (take1 at0 (take1 at0 (take1 at0 take0)))))⟩⟩
  · skip
    rw [List.take_of_length_le (by omega)] at hosl hol
    have hO := IsSl.rd seB_len hosl
    have hml := miss_len T S 0 d [35]
    refine WP.exit <| WP.seq <| WP.region <| v0 (S0.move rfl) rfl <| v0 (S0.move rfl) rfl <| v0 (S0.move rfl) rfl <| ?_  -- op t51 := call F20{rivulet/model.Missing}(t48, t49, 0:i64, t50, Value.string {'data': [35]})
    refine vc (S1.callF rfl (missing_spec hT hA hok (by omega) (by omega) 0 d (f := [35]) (by decide)) (take1 (atS (atS (atS (atS at0)))) (take1 (atS at0) take0))) rfl ?_
    rintro m1 _ ⟨row1, hr1, rfl⟩
    refine app ?_
    refine v0 (S0.move rfl) rfl <| v0 (S0.move rfl) rfl <| v0 (S0.move rfl) rfl <| ?_  -- op t55 := call F20{rivulet/model.Missing}(t52, t53, 0:i64, t54, Value.string {'data': [35]})
    refine vc (S1.callF rfl (missing_spec hT hO hok (by omega) (by omega) 0 d (f := [35]) (by decide)) (take1 (atS at0) (take1 (atS (atS at0)) take0))) rfl ?_
    rintro m2 _ ⟨row2, hr2, rfl⟩
    refine app ?_
    rw [miss_own] at hr2
    -- (nothing to walk: op t56 := call F19{rivulet/rivuletref11.Equal}(t51, t55))
    refine vcd (S1.callF rfl (eqEv_spec (IsSl.rd evB_len hr1) (IsSl.rd evB_len hr2) (by omega)) (take1 (atS (atS (atS at0))) (take1 at0 take0))) rfl ?_
    refine v0 (S0.move rfl) rfl <| ?_  -- guard t57 (wants True) at t58 := move t8 [if #9=True]
    refine csTh (t := 57) rfl ((by simp)) ?_
    refine gT rfl <| v0 (S0.move rfl) rfl <| gT rfl <| v0 (S0.move rfl) rfl <| ?_  -- op t60 := call F22{rivulet/model.Holes}(t58, 0:i64, t59) [if #9=True]
    refine gT rfl <| vc (S1.callF rfl (holes_spec hA (by omega) 0 d) (take1 (atS (atS (atS (atS at0)))) take0)) rfl ?_
    rintro h1 _ ⟨R1, rw1, hm1, hh1, rfl⟩
    refine app ?_
    refine gT rfl <| v0 (S0.move rfl) rfl <| gT rfl <| v0 (S0.move rfl) rfl <| ?_  -- op t63 := call F22{rivulet/model.Holes}(t61, 0:i64, t62) [if #9=True]
    refine gT rfl <| vc (S1.callF rfl (holes_spec hO (by omega) 0 d) (take1 (atS (atS (atS (atS (atS at0))))) take0)) rfl ?_
    rintro h2 _ ⟨R2, rw2, hm2, hh2, rfl⟩
    refine app ?_
    have hR1 := marks_len hm1
    obtain rfl := hm1.uniq (hm2.congr fun k => hole_own S d k)
    -- (nothing to walk: op t64 := call F13{rivulet/rivuletref06.Equal}(t60, t63) [if #9=True])
    refine gT rfl <| vcd (S1.callF rfl (eqMk_spec (IsSl.rd mkB_len hh1) (IsSl.rd mkB_len hh2) (by omega)) (take1 (atS (atS at0)) (take1 at0 take0))) rfl ?_
    refine v0 (S0.pickT rfl rfl) rfl <| v0 (S0.move rfl) rfl <| ?_  -- guard t66 (wants True) at t67 := move t7 [if #18=True]
    refine csTh (t := 66) rfl ((by simp)) ?_
    refine gT rfl <| v0 (S0.move rfl) rfl <| gT rfl <| v0 (S0.move rfl) rfl <| ?_  -- op t69 := call F16{rivulet/model.Wrong}(t67, t68) [if #18=True]
    refine gT rfl <| vcd (S1.callF rfl (wrong_spec hT hA (by omega) (by omega)) (take1 (atS (atS (atS (atS (atS (atS at0)))))) (take1 (atS (atS (atS at0))) take0))) rfl ?_
    refine gT rfl <| v0 (S0.cmp rfl rfl rfl) rfl <| gT rfl <| v0 (S0.move rfl) rfl <| ?_  -- guard t71 (wants False) at t72 := move t7 [if #23=False]
    first | refine csP (t := 71) rfl (fun h6 => ?_) (fun h6 => ?_) | refine csN (t := 71) rfl (fun h6 => ?_) (fun h6 => ?_) | refine cs (t := 71) rfl (fun h6 => ?_) (fun h6 => ?_)
    · skip
      refine gF rfl rfl <| gF rfl rfl <| gF rfl rfl <| gF rfl rfl <| gT rfl <| v0 (S0.pickT rfl rfl) rfl <| v0 (S0.pickT rfl rfl) rfl <| v0 (S0.move rfl) rfl <| ?_  -- op t79 := call F18{rivulet/rivuletlaw22.fixed}() [if #30=True]
      refine gT rfl <| vcd (S1.callF rfl (fixed_spec) take0) rfl ?_
      refine v0 (S0.pickT rfl rfl) rfl <| v0 (S0.assign rfl) rfl <| vE <| WP.ret <| ?_  -- ret
      refine Leaves.drop (take1 (atS (atS (atS (atS (atS (atS (atS (atS at0)))))))) take0) ?_
      refine r1 rfl rfl ?_
      exact ⟨rfl, rfl⟩
    · skip
      have h6' : wrongI T (S.filter (ownB d)) = -1 := by
        unfold wrongI at h6 ⊢
        exact idxF_own (ownB d) S [] h6
      refine gT rfl <| v0 (S0.move rfl) rfl <| gT rfl <| v0 (S0.move rfl) rfl <| ?_  -- op t74 := call F16{rivulet/model.Wrong}(t72, t73) [if #23=False]
      refine gT rfl <| vcd (S1.callF rfl (wrong_spec hT hO (by omega) (by omega)) (take1 at0 (take1 (atS (atS (atS at0))) take0))) rfl ?_
      rw [h6']
      refine gT rfl <| v0 (S0.cmp rfl rfl rfl) rfl <| gT rfl <| v0 (S0.pickF rfl rfl) rfl <| v0 (S0.pickT rfl rfl) rfl <| v0 (S0.move rfl) rfl <| ?_  -- guard t78 (wants True) at t79 := call F18{rivulet/rivuletlaw22.fixed}() [if #30=True]
      refine csTh (t := 78) rfl ((by decide)) ?_
      -- (nothing to walk: op t79 := call F18{rivulet/rivuletlaw22.fixed}() [if #30=True])
      refine gT rfl <| vcd (S1.callF rfl (fixed_spec) take0) rfl ?_
      refine v0 (S0.pickT rfl rfl) rfl <| v0 (S0.assign rfl) rfl <| vE <| WP.ret <| ?_  -- ret
      refine Leaves.drop (take1 (atS (atS (atS (atS (atS (atS (atS (atS at0)))))))) take0) ?_
      refine r1 rfl rfl ?_
      exact ⟨rfl, rfl⟩
end Go.Proofs.YtgcclpfpnfmjcaaDoor
