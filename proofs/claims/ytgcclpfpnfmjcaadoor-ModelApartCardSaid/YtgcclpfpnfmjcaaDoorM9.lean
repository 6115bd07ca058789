import Derived.Test.YtgcclpfpnfmjcaaDoorM8
namespace Go.Proofs.YtgcclpfpnfmjcaaDoor
open Go

theorem min120 (n : Nat) : (if (120 : Int) < (n : Int) then 120 else (n : Int)) = ((min n 120 : Nat) : Int) := by split <;> omega
theorem take_min120 (l : Str) : l.take (min l.length 120) = l.take 120 := by
  rcases Nat.le_total l.length 120 with h | h
  · rw [Nat.min_eq_left h, List.take_length, List.take_of_length_le h]
  · rw [Nat.min_eq_right h]
def cutE (x : Ev) : Ev := { x with t := x.t.take 120, l := x.l.take 120 }
def cutS (x : Se) : Se := { x with v := cutE x.v }
structure EvW (x : Ev) : Prop where
  o : -9223372036854775808 ≤ x.o ∧ x.o ≤ 9223372036854775807
  s : -9223372036854775808 ≤ x.s ∧ x.s ≤ 9223372036854775807
  e : -9223372036854775808 ≤ x.e ∧ x.e ≤ 9223372036854775807
theorem EvW.cut {x : Ev} (h : EvW x) : EvOk (cutE x) := ⟨h.o, h.s, h.e, by simp [cutE]; omega, by simp [cutE]; omega⟩
def cutEs (l : List Ev) : List Ev := (l.take 20).map cutE
def cutSs (l : List Se) : List Se := (l.take 20).map cutS
theorem events_spec {v : Value} {l : List Ev} {c : List Blk} (hr : Rd 5 evB v l c) : FN Tryd.prog 9 [v] [c] (fun v' h => ∃ row, IsSl 37 5 v' ((cutEs l).flatMap evB) row ∧ h = [row, c]) := by
  obtain ⟨a, cap, rfl, -, hr⟩ := hr
  refine FN.intro 42 [(0, .slice a l.length cap)] Tryd.func9 rfl (enters Tryd.func9 (by kernel_rfl) rfl) Tryd.ntmps9 rfl rfl ?_
  refine WP.seq <| WP.region <| v0 (S0.assign rfl) rfl <| vE <| WP.seq <| WP.region <| vnv (S1.buildSlice rfl (qs := []) rfl rfl) rfl fun b6 => v0 (S0.assign rfl) rfl <| vE <| WP.seq <| WP.seq <| WP.region <| v0 (S0.assign rfl) rfl <| vE <| WP.block <| ?_  -- Code.loop
  refine WP.loop (fun st : Nat × Value × List Blk => st.1 ≤ l.length ∧ st.1 ≤ 20 ∧ IsSl 37 5 st.2.1 (((l.take st.1).map cutE).flatMap evB) st.2.2) (fun st : Nat × Value × List Blk => [(0, .slice a l.length cap), (3, st.2.1), (4, .int .i64 (st.1 : Int))]) (fun st : Nat × Value × List Blk => [st.2.2, c]) (fun st : Nat × Value × List Blk => l.length - st.1) ((0, _, [(b6, .cells ⟨[]⟩ 37 (0, 0))])) (⟨Nat.zero_le _, Nat.zero_le _, IsSl.row (n := 0) (c := 0) (l := []) (sp := []) rfl rfl (Nat.le_refl _)⟩) ⟨rfl, rfl, rfl, trivial⟩ ⟨_, (take1 at0 (take1 at0 take0))⟩ (fun st hinv => ?_) 
  obtain ⟨i, ov, orow⟩ := st
  obtain ⟨hi, hi2, hosl⟩ := hinv
  dsimp only at hi hi2 hosl ⊢
  refine WP.seq <| WP.seq <| WP.region <| v0 (S0.move rfl) rfl <| v0 (S0.move rfl) rfl <| v0 (S0.lenSl rfl) rfl <| v0 (S0.cmp rfl rfl rfl) rfl <| v0 (S0.move rfl) rfl <| ?_  -- guard t11 (wants True) at t12 := move t4 [if #4=True]
  first | refine csP (t := 11) rfl (fun h1 => ?_) (fun h1 => ?_) | refine csN (t := 11) rfl (fun h1 => ?_) (fun h1 => ?_) | refine cs (t := 11) rfl (fun h1 => ?_) (fun h1 => ?_)
  · skip
    have hlt : i < l.length := by omega
    rcases hr with e | ⟨b, o, GL, U, fz, rfl, hmem, hel⟩
    · rw [e] at hlt; simp at hlt
    have : HasC c b (.cells ⟨GL⟩ U fz) := ⟨hmem⟩
    have hx : l[i]? = some l[i] := by simp [hlt]
    generalize l[i] = x at hx
    have hele := hel i x hx
    refine gT rfl <| v0 (S0.move rfl) rfl <| gT rfl <| v0 (S0.cmp rfl rfl rfl) rfl <| v0 (S0.pickT rfl rfl) rfl <| vE <| ?_  -- cond
    first | refine WP.condP rfl (fun h2 => ?_) (fun h2 => ?_) | refine WP.condN rfl (fun h2 => ?_) (fun h2 => ?_) | refine WP.cond rfl (fun h2 => ?_) (fun h2 => ?_)
    · skip
      refine WP.skip <| WP.seq <| WP.block <| WP.seq <| WP.region <| v0 (S0.move rfl) rfl <| v0 (S0.move rfl) rfl <| ?_  -- op t19 := indexAddr 22 t17 t18
      refine v0 (S0.indexO rfl rfl hlt) rfl <| ?_
      refine v0 (S0.loadA (vs := evB x) rfl hele rfl) rfl <| ?_
      refine vn (S1.alloc) rfl fun b5 => vs (S1.storeA rfl rfl rfl) <| vE <| WP.seq <| WP.region <| v0 (S0.fieldAddr rfl) rfl <| v0 (S0.load rfl rfl) rfl <| v0 (S0.fieldAddr rfl) rfl <| v0 (S0.load rfl rfl) rfl <| v0 (S0.lenSt rfl) rfl <| v0 (S0.min2 rfl rfl rfl) rfl <| ?_  -- op t27 := slice 9 t22 none t26 none
      rw [min120]
      refine v0 (S0.sliceSt (i := 0) (j := min x.t.length 120) rfl rfl rfl ⟨Nat.zero_le _, by omega⟩) rfl <| ?_
      refine v0 (S0.fieldAddr rfl) rfl <| vs (S1.store rfl rfl (by first | rfl | exact IsSl.cv (by assumption))) <| vE <| WP.seq <| WP.region <| v0 (S0.fieldAddr rfl) rfl <| v0 (S0.load rfl rfl) rfl <| v0 (S0.fieldAddr rfl) rfl <| v0 (S0.load rfl rfl) rfl <| v0 (S0.lenSt rfl) rfl <| v0 (S0.min2 rfl rfl rfl) rfl <| ?_  -- op t35 := slice 9 t30 none t34 none
      rw [min120]
      refine v0 (S0.sliceSt (i := 0) (j := min x.l.length 120) rfl rfl rfl ⟨Nat.zero_le _, by omega⟩) rfl <| ?_
      refine v0 (S0.fieldAddr rfl) rfl <| vs (S1.store rfl rfl (by first | rfl | exact IsSl.cv (by assumption))) <| vE <| WP.region <| v0 (S0.move rfl) rfl <| v0 (S0.loadAL rfl) rfl <| vnv (S1.buildSlice rfl (qs := [(0, _)]) rfl rfl) rfl fun b39 => ?_  -- op t40 := append(t37, t39) :[22, 22]
      refine ve (S1.appendL rfl hosl rfl rfl (atS (atS at0)) rfl rfl (by rw [flat_len evB_len]; simp; omega)) rfl ?_
      rintro v2 _ ⟨row2, hsl2, rfl⟩
      have hsl3 : IsSl 37 5 v2 (((l.take (i + 1)).map cutE).flatMap evB) row2 := by
        rw [take_snoc hx, List.map_append, List.flatMap_append]
        simpa [cutE, evB, take_min120] using hsl2
      refine v0 (S0.assign rfl) rfl <| vE <| WP.region <| v0 (S0.move rfl) rfl <| v0 (S0.ari rfl rfl rfl (wrap_i64 (by omega))) rfl <| v0 (S0.assign rfl) rfl <| vE <| ?_  -- roundend
      exact ⟨(i + 1, v2, row2), (by first | exact ⟨hlt, by omega, hsl3⟩ | (dsimp only; exact ⟨hlt, by omega, hsl3⟩)), (show l.length - (i + 1) < l.length - i by omega), ⟨⟨rfl, rfl, rfl, trivial⟩, rfl, rfl⟩, ⟨_, (take1 at0 (take1 (atS (atS at0)) take0))⟩⟩
    · skip
      refine WP.exit <| WP.seq <| WP.region <| v0 (S0.move rfl) rfl <| v0 (S0.assign rfl) rfl <| vE <| WP.ret <| ?_  -- ret
      refine r1 rfl rfl ?_
      exact ⟨orow, by rw [cutEs, ← show i = 20 by omega]; exact hosl, rfl⟩
  · skip
    refine gF rfl rfl <| gF rfl rfl <| v0 (S0.pickF rfl rfl) rfl <| vE <| WP.condF rfl <| WP.exit <| WP.seq <| WP.region <| v0 (S0.move rfl) rfl <| v0 (S0.assign rfl) rfl <| vE <| WP.ret <| ?_  -- ret
    refine r1 rfl rfl ?_
    exact ⟨orow, by rw [cutEs, List.take_of_length_le (by omega)]; rw [List.take_of_length_le (by omega)] at hosl; exact hosl, rfl⟩
theorem both_spec {v : Value} {l : List Se} {c : List Blk} (hr : Rd 7 seB v l c) : FN Tryd.prog 10 [v] [c] (fun v' h => ∃ va vb ra rb, v' = .tuple ⟨[va, vb]⟩ ∧ IsSl 39 7 va ((cutSs l).flatMap seB) ra ∧ IsSl 51 7 vb ((cutSs l).flatMap seB) rb ∧ h = [ra, rb, c]) := by
  obtain ⟨a, cap, rfl, -, hr⟩ := hr
  refine FN.intro 62 [(0, .slice a l.length cap)] Tryd.func10 rfl (enters Tryd.func10 (by kernel_rfl) rfl) Tryd.ntmps10 rfl rfl ?_
  refine WP.seq <| WP.region <| v0 (S0.assign rfl) rfl <| v0 (S0.assign rfl) rfl <| vE <| WP.seq <| WP.region <| vnv (S1.buildSlice rfl (qs := []) rfl rfl) rfl fun b8 => vnv (S1.buildSlice rfl (qs := []) rfl rfl) rfl fun b9 => v0 (S0.assign rfl) rfl <| v0 (S0.assign rfl) rfl <| vE <| WP.seq <| WP.seq <| WP.region <| v0 (S0.assign rfl) rfl <| vE <| WP.block <| ?_  -- Code.loop
  refine WP.loop (fun st : Nat × (Value × List Blk) × Value × List Blk => st.1 ≤ l.length ∧ st.1 ≤ 20 ∧ IsSl 39 7 st.2.1.1 (((l.take st.1).map cutS).flatMap seB) st.2.1.2 ∧ IsSl 51 7 st.2.2.1 (((l.take st.1).map cutS).flatMap seB) st.2.2.2) (fun st : Nat × (Value × List Blk) × Value × List Blk => [(0, .slice a l.length cap), (4, st.2.1.1), (5, st.2.2.1), (6, .int .i64 (st.1 : Int))]) (fun st : Nat × (Value × List Blk) × Value × List Blk => [st.2.1.2, st.2.2.2, c]) (fun st : Nat × (Value × List Blk) × Value × List Blk => l.length - st.1) ((0, (_, [(b8, .cells ⟨[]⟩ 39 (0, 0))]), (_, [(b9, .cells ⟨[]⟩ 51 (0, 0))]))) (⟨Nat.zero_le _, Nat.zero_le _, IsSl.row (n := 0) (c := 0) (l := []) (sp := []) rfl rfl (Nat.le_refl _), IsSl.row (n := 0) (c := 0) (l := []) (sp := []) rfl rfl (Nat.le_refl _)⟩) ⟨rfl, rfl, rfl, rfl, trivial⟩ ⟨_, (take1 (atS at0) (take1 at0 (take1 at0 take0)))⟩ (fun st hinv => ?_) 
  obtain ⟨i, ⟨av, arow⟩, bv, brow⟩ := st
  obtain ⟨hi, hi2, hasl, hbsl⟩ := hinv
  dsimp only at hi hi2 hasl hbsl ⊢
  refine WP.seq <| WP.seq <| WP.region <| v0 (S0.move rfl) rfl <| v0 (S0.move rfl) rfl <| v0 (S0.lenSl rfl) rfl <| v0 (S0.cmp rfl rfl rfl) rfl <| v0 (S0.move rfl) rfl <| ?_  -- guard t14 (wants True) at t15 := move t6 [if #4=True]
  first | refine csP (t := 14) rfl (fun h1 => ?_) (fun h1 => ?_) | refine csN (t := 14) rfl (fun h1 => ?_) (fun h1 => ?_) | refine cs (t := 14) rfl (fun h1 => ?_) (fun h1 => ?_)
  · skip
    have hlt : i < l.length := by omega
    rcases hr with e | ⟨b, o, GL, U, fz, rfl, hmem, hel⟩
    · rw [e] at hlt; simp at hlt
    have : HasC c b (.cells ⟨GL⟩ U fz) := ⟨hmem⟩
    have hx : l[i]? = some l[i] := by simp [hlt]
    generalize l[i] = x at hx
    have hele := hel i x hx
    refine gT rfl <| v0 (S0.move rfl) rfl <| gT rfl <| v0 (S0.cmp rfl rfl rfl) rfl <| v0 (S0.pickT rfl rfl) rfl <| vE <| ?_  -- cond
    first | refine WP.condP rfl (fun h2 => ?_) (fun h2 => ?_) | refine WP.condN rfl (fun h2 => ?_) (fun h2 => ?_) | refine WP.cond rfl (fun h2 => ?_) (fun h2 => ?_)
    · skip
      refine WP.skip <| WP.seq <| WP.block <| WP.seq <| WP.region <| v0 (S0.move rfl) rfl <| v0 (S0.move rfl) rfl <| ?_  -- op t22 := indexAddr 23 t20 t21
      refine v0 (S0.indexO rfl rfl hlt) rfl <| ?_
      refine v0 (S0.loadA (vs := seB x) rfl hele rfl) rfl <| ?_
      refine vn (S1.alloc) rfl fun b7 => vs (S1.storeA rfl rfl rfl) <| vE <| WP.seq <| WP.region <| v0 (S0.fieldAddr rfl) rfl <| v0 (S0.fieldAddr rfl) rfl <| v0 (S0.load rfl rfl) rfl <| v0 (S0.fieldAddr rfl) rfl <| v0 (S0.fieldAddr rfl) rfl <| v0 (S0.load rfl rfl) rfl <| v0 (S0.lenSt rfl) rfl <| v0 (S0.min2 rfl rfl rfl) rfl <| ?_  -- op t32 := slice 9 t26 none t31 none
      rw [min120]
      refine v0 (S0.sliceSt (i := 0) (j := min x.v.t.length 120) rfl rfl rfl ⟨Nat.zero_le _, by omega⟩) rfl <| ?_
      refine v0 (S0.fieldAddr rfl) rfl <| v0 (S0.fieldAddr rfl) rfl <| vs (S1.store rfl rfl (by first | rfl | exact IsSl.cv (by assumption))) <| vE <| WP.seq <| WP.region <| v0 (S0.fieldAddr rfl) rfl <| v0 (S0.fieldAddr rfl) rfl <| v0 (S0.load rfl rfl) rfl <| v0 (S0.fieldAddr rfl) rfl <| v0 (S0.fieldAddr rfl) rfl <| v0 (S0.load rfl rfl) rfl <| v0 (S0.lenSt rfl) rfl <| v0 (S0.min2 rfl rfl rfl) rfl <| ?_  -- op t43 := slice 9 t37 none t42 none
      rw [min120]
      refine v0 (S0.sliceSt (i := 0) (j := min x.v.l.length 120) rfl rfl rfl ⟨Nat.zero_le _, by omega⟩) rfl <| ?_
      refine v0 (S0.fieldAddr rfl) rfl <| v0 (S0.fieldAddr rfl) rfl <| vs (S1.store rfl rfl (by first | rfl | exact IsSl.cv (by assumption))) <| vE <| WP.seq <| WP.region <| v0 (S0.move rfl) rfl <| v0 (S0.loadAL rfl) rfl <| vnv (S1.buildSlice rfl (qs := [(0, _)]) rfl rfl) rfl fun b48 => ?_  -- op t49 := append(t46, t48) :[23, 23]
      refine ve (S1.appendL rfl hasl rfl rfl (atS (atS at0)) rfl rfl (by rw [flat_len seB_len]; simp; omega)) rfl ?_
      rintro v2 _ ⟨row2, hsl2, rfl⟩
      have hsl3 : IsSl 39 7 v2 (((l.take (i + 1)).map cutS).flatMap seB) row2 := by
        rw [take_snoc hx, List.map_append, List.flatMap_append]
        simpa [cutS, cutE, seB, take_min120] using hsl2
      refine v0 (S0.assign rfl) rfl <| vE <| WP.region <| v0 (S0.move rfl) rfl <| v0 (S0.fieldAddr rfl) rfl <| v0 (S0.load rfl rfl) rfl <| v0 (S0.fieldAddr rfl) rfl <| v0 (S0.load rfl rfl) rfl <| v0 (S0.fieldAddr rfl) rfl <| v0 (S0.loadAL rfl) rfl <| v0 (S0.build rfl (qs := [(0, _), (1, _), (2, _)]) rfl) rfl <| vnv (S1.buildSlice rfl (qs := [(0, _)]) rfl rfl) rfl fun b58 => ?_  -- op t59 := append(t50, t58) :[25, 25]
      refine ve (S1.appendL rfl hbsl rfl rfl (atS (atS (atS (atS at0)))) rfl rfl (by rw [flat_len seB_len]; simp; omega)) rfl ?_
      rintro v4 _ ⟨row4, hsl4, rfl⟩
      have hsl5 : IsSl 51 7 v4 (((l.take (i + 1)).map cutS).flatMap seB) row4 := by
        rw [take_snoc hx, List.map_append, List.flatMap_append]
        simpa [cutS, cutE, seB, take_min120] using hsl4
      refine v0 (S0.assign rfl) rfl <| vE <| WP.region <| v0 (S0.move rfl) rfl <| v0 (S0.ari rfl rfl rfl (wrap_i64 (by omega))) rfl <| v0 (S0.assign rfl) rfl <| vE <| ?_  -- roundend
      exact ⟨(i + 1, (v2, row2), (v4, row4)), (by first | exact ⟨hlt, by omega, hsl3, hsl5⟩ | (dsimp only; exact ⟨hlt, by omega, hsl3, hsl5⟩)), (show l.length - (i + 1) < l.length - i by omega), ⟨⟨rfl, rfl, rfl, rfl, trivial⟩, rfl, rfl⟩, ⟨_, (take1 (atS (atS at0)) (take1 at0 (take1 (atS (atS (atS at0))) take0)))⟩⟩
    · skip
      refine WP.exit <| WP.seq <| WP.region <| v0 (S0.move rfl) rfl <| v0 (S0.move rfl) rfl <| v0 (S0.assign rfl) rfl <| v0 (S0.assign rfl) rfl <| vE <| WP.ret <| ?_  -- ret
      refine r2 rfl rfl rfl ?_
      exact ⟨_, _, arow, brow, rfl, by rw [cutSs, ← show i = 20 by omega]; exact hasl, by rw [cutSs, ← show i = 20 by omega]; exact hbsl, rfl⟩
  · skip
    rw [List.take_of_length_le (by omega)] at hasl hbsl
    refine gF rfl rfl <| gF rfl rfl <| v0 (S0.pickF rfl rfl) rfl <| vE <| WP.condF rfl <| WP.exit <| WP.seq <| WP.region <| v0 (S0.move rfl) rfl <| v0 (S0.move rfl) rfl <| v0 (S0.assign rfl) rfl <| v0 (S0.assign rfl) rfl <| vE <| WP.ret <| ?_  -- ret
    refine r2 rfl rfl rfl ?_
    exact ⟨_, _, arow, brow, rfl, by rw [cutSs, List.take_of_length_le (by omega)]; exact hasl, by rw [cutSs, List.take_of_length_le (by omega)]; exact hbsl, rfl⟩

/-! calls whose answers the document fixes -/
def fa : Ev := ⟨0, 1, [97], [], 3⟩
def fb : Ev := ⟨0, 2, [98], [], 3⟩
def fy : Ev := ⟨0, 1, [97], [], 4⟩
def s1 : Se := ⟨1, 2, fb⟩
def s2 : Se := ⟨1, 3, fa⟩
def s3 : Se := ⟨1, 2, fa⟩
end Go.Proofs.YtgcclpfpnfmjcaaDoor
