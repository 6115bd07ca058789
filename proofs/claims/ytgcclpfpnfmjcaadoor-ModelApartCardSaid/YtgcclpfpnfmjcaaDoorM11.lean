import Derived.Test.YtgcclpfpnfmjcaaDoorM10
import Derived.Test.YtgcclpfpnfmjcaaDoorArg
namespace Go.Proofs.YtgcclpfpnfmjcaaDoor
open Go

abbrev evK : List CK := [.i .i64, .i .i64, .s, .s, .i .i64]
abbrev seK : List CK := [.i .i64, .i .i64, .i .i64, .i .i64, .s, .s, .i .i64]
theorem argEv {W : World} {v : Value} (h : ArgF W evK v) : ∃ l : List Ev, Rd 5 evB v l (whole W) ∧ ∀ e ∈ l, EvW e := by
  obtain ⟨a, len, cap, rfl, hc, h⟩ := h
  rcases h with rfl | ⟨b, o, L, U, fz, rfl, hm, hf⟩
  · exact ⟨[], ⟨a, cap, rfl, hc, .inl rfl⟩, by simp⟩
  · obtain ⟨l, h1, h2, h3⟩ := choose_elems (k := 5) (en := evB) (Q := EvW) (L := L) (o := o) (len := len) fun i hi => by
      have hf := hf i hi
      obtain ⟨_, e0, n0, rfl, w0⟩ := hf 0 _ rfl
      obtain ⟨_, e1, n1, rfl, w1⟩ := hf 1 _ rfl
      obtain ⟨_, e2, n2, rfl, -⟩ := hf 2 _ rfl
      obtain ⟨_, e3, n3, rfl, -⟩ := hf 3 _ rfl
      obtain ⟨_, e4, n4, rfl, w4⟩ := hf 4 _ rfl
      refine ⟨⟨n0, n1, n2, n3, n4⟩, ⟨wf_i64 w0, wf_i64 w1, wf_i64 w4⟩, take_cells (evB ⟨n0, n1, n2, n3, n4⟩) _ fun j x hj => ?_⟩
      match j, hj with
      | 0, hj => cases hj; exact e0
      | 1, hj => cases hj; exact e1
      | 2, hj => cases hj; exact e2
      | 3, hj => cases hj; exact e3
      | 4, hj => cases hj; exact e4
    subst h1
    exact ⟨l, ⟨_, cap, rfl, hc, .inr ⟨b, o, L, U, fz, rfl, whole_mem.2 hm, h3⟩⟩, h2⟩
theorem argSe {W : World} {v : Value} (h : ArgF W seK v) : ∃ l : List Se, Rd 7 seB v l (whole W) ∧ ∀ x ∈ l, EvW x.v := by
  obtain ⟨a, len, cap, rfl, hc, h⟩ := h
  rcases h with rfl | ⟨b, o, L, U, fz, rfl, hm, hf⟩
  · exact ⟨[], ⟨a, cap, rfl, hc, .inl rfl⟩, by simp⟩
  · obtain ⟨l, h1, h2, h3⟩ := choose_elems (k := 7) (en := seB) (Q := fun x => EvW x.v) (L := L) (o := o) (len := len) fun i hi => by
      have hf := hf i hi
      obtain ⟨_, e0, n0, rfl, w0⟩ := hf 0 _ rfl
      obtain ⟨_, e1, n1, rfl, w1⟩ := hf 1 _ rfl
      obtain ⟨_, e2, n2, rfl, w2⟩ := hf 2 _ rfl
      obtain ⟨_, e3, n3, rfl, w3⟩ := hf 3 _ rfl
      obtain ⟨_, e4, n4, rfl, -⟩ := hf 4 _ rfl
      obtain ⟨_, e5, n5, rfl, -⟩ := hf 5 _ rfl
      obtain ⟨_, e6, n6, rfl, w6⟩ := hf 6 _ rfl
      refine ⟨⟨n0, n1, ⟨n2, n3, n4, n5, n6⟩⟩, ⟨wf_i64 w2, wf_i64 w3, wf_i64 w6⟩, take_cells (seB ⟨n0, n1, ⟨n2, n3, n4, n5, n6⟩⟩) _ fun j x hj => ?_⟩
      match j, hj with
      | 0, hj => cases hj; exact e0
      | 1, hj => cases hj; exact e1
      | 2, hj => cases hj; exact e2
      | 3, hj => cases hj; exact e3
      | 4, hj => cases hj; exact e4
      | 5, hj => cases hj; exact e5
      | 6, hj => cases hj; exact e6
    subst h1
    exact ⟨l, ⟨_, cap, rfl, hc, .inr ⟨b, o, L, U, fz, rfl, whole_mem.2 hm, h3⟩⟩, h2⟩
theorem cutEs_len (l : List Ev) : (cutEs l).length ≤ 20 := by simp [cutEs]; omega
theorem cutSs_len (l : List Se) : (cutSs l).length ≤ 20 := by simp [cutSs]; omega
theorem cutEs_ok {l : List Ev} (h : ∀ e ∈ l, EvW e) : ∀ e ∈ cutEs l, EvOk e := fun e he => by
  obtain ⟨x, hx, rfl⟩ := List.mem_map.1 he
  exact (h x (List.mem_of_mem_take hx)).cut

theorem modelTells_walk (W : World) (tv : Value) (ht : ArgF W evK tv) (sv' : Value) (hs : ArgF W seK sv') : FN Tryd.prog 3 [tv, sv'] [whole W] (fun v h => v = .bool true ∧ h = [whole W]) := by
  obtain ⟨t0, hrt, htw⟩ := argEv ht
  obtain ⟨s0, hrs, hsw⟩ := argSe hs
  have hok := cutEs_ok htw
  have htl := cutEs_len t0
  have hsl := cutSs_len s0
  refine FN.intro 39 [(0, tv), (1, sv')] Tryd.func3 rfl (enters Tryd.func3 (by kernel_rfl) rfl) Tryd.ntmps3 rfl rfl ?_
  refine WP.seq <| WP.region <| v0 (S0.assign rfl) rfl <| vE <| WP.seq <| WP.region <| v0 (S0.move rfl) rfl <| ?_  -- op t9 := call F9{rivulet/rivuletlaw22.Events}(t8)
  refine vc (S1.callF rfl (events_spec hrt) (take1 at0 take0)) rfl ?_
  rintro t _ ⟨trow, ht, rfl⟩
  refine app ?_
  refine v0 (S0.assign rfl) rfl <| vE <| WP.seq <| WP.region <| v0 (S0.move rfl) rfl <| ?_  -- op t12 := call F10{rivulet/rivuletlaw22.both}(t11)
  refine vc (S1.callF rfl (both_spec hrs) (take1 (atS at0) take0)) rfl ?_
  rintro _ _ ⟨va, vb, ra, rb, rfl, ha, hb, rfl⟩
  refine app ?_
  generalize cutEs t0 = T at hok htl ht
  generalize cutSs s0 = S at hsl ha hb
  have hT := IsSl.rd evB_len ht
  have hA := IsSl.rd seB_len ha
  have hB := IsSl.rd seB_len hb
  refine v0 (S0.move rfl) rfl <| v0 (S0.extract rfl rfl) rfl <| v0 (S0.extract rfl rfl) rfl <| v0 (S0.assign rfl) rfl <| v0 (S0.assign rfl) rfl <| vE <| WP.seq <| WP.region <| v0 (S0.move rfl) rfl <| ?_  -- op t16 := call F11{rivulet/model.Order}(t15)
  refine vcd (S1.callF rfl (order_spec hT hok (by omega)) (take1 (atS (atS (atS at0))) take0)) rfl ?_
  refine v0 (S0.move rfl) rfl <| ?_  -- op t18 := call F12{rivulet/rivuletref22.Order}(t17)
  refine vcd (S1.callF rfl (rorder_spec hT hok (by omega)) (take1 at0 take0)) rfl ?_
  refine v0 (S0.cmpB rfl rfl rfl) rfl <| v0 (S0.move rfl) rfl <| ?_  -- guard t20 (wants True) at t21 := move t5 [if #5=True]
  refine csTh (t := 20) rfl ((by simp)) ?_
  refine gT rfl <| v0 (S0.move rfl) rfl <| ?_  -- op t22 := call F14{rivulet/model.Marks}(t21) [if #5=True]
  refine gT rfl <| vc (S1.callF rfl (marks_spec hT (by omega)) (take1 at0 take0)) rfl ?_
  rintro m1 _ ⟨R1, row1, hm1, h1, rfl⟩
  refine app ?_
  refine gT rfl <| v0 (S0.move rfl) rfl <| ?_  -- op t24 := call F15{rivulet/rivuletref22.Marks}(t23) [if #5=True]
  refine gT rfl <| vc (S1.callF rfl (rmarks_spec hT (by omega)) (take1 (atS at0) take0)) rfl ?_
  rintro m2 _ ⟨R2, row2, hm2, h2, rfl⟩
  refine app ?_
  have hR1 := lastO_len hm1
  obtain rfl := hm1.uniq hm2
  -- (nothing to walk: op t25 := call F13{rivulet/rivuletref06.Equal}(t22, t24) [if #5=True])
  refine gT rfl <| vcd (S1.callF rfl (eqMk_spec (IsSl.rd mkB_len h1) (IsSl.rd mkB_len h2) (by omega)) (take1 (atS (atS at0)) (take1 at0 take0))) rfl ?_
  refine v0 (S0.pickT rfl rfl) rfl <| v0 (S0.move rfl) rfl <| ?_  -- guard t27 (wants True) at t28 := move t5 [if #12=True]
  refine csTh (t := 27) rfl ((by simp)) ?_
  refine gT rfl <| v0 (S0.move rfl) rfl <| gT rfl <| v0 (S0.move rfl) rfl <| ?_  -- op t30 := call F16{rivulet/model.Wrong}(t28, t29) [if #12=True]
  refine gT rfl <| vcd (S1.callF rfl (wrong_spec hT hA (by omega) (by omega)) (take1 (atS (atS at0)) (take1 (atS (atS at0)) take0))) rfl ?_
  refine gT rfl <| v0 (S0.move rfl) rfl <| gT rfl <| v0 (S0.move rfl) rfl <| ?_  -- op t33 := call F17{rivulet/rivuletref22.Wrong}(t31, t32) [if #12=True]
  refine gT rfl <| vcd (S1.callF rfl (rwrong_spec hT hB (by omega) (by omega)) (take1 at0 (take1 (atS (atS (atS at0))) take0))) rfl ?_
  refine gT rfl <| v0 (S0.cmp rfl rfl rfl) rfl <| v0 (S0.pickT rfl rfl) rfl <| v0 (S0.move rfl) rfl <| ?_  -- guard t36 (wants True) at t37 := call F18{rivulet/rivuletlaw22.fixed}() [if #21=True]
  refine csTh (t := 36) rfl ((by simp)) ?_
  -- (nothing to walk: op t37 := call F18{rivulet/rivuletlaw22.fixed}() [if #21=True])
  refine gT rfl <| vcd (S1.callF rfl (fixed_spec) take0) rfl ?_
  refine v0 (S0.pickT rfl rfl) rfl <| v0 (S0.assign rfl) rfl <| vE <| WP.ret <| ?_  -- ret
  refine Leaves.drop (take1 (atS (atS (atS (atS (atS at0))))) take0) ?_
  refine r1 rfl rfl ?_
  exact ⟨rfl, rfl⟩
end Go.Proofs.YtgcclpfpnfmjcaaDoor
