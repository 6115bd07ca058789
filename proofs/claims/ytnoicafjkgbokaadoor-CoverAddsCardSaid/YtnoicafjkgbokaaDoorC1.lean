import Derived.Test.YtnoicafjkgbokaaDoorRefC
import Derived.Test.YtnoicafjkgbokaaDoorArg
namespace Go.Proofs.YtnoicafjkgbokaaDoor
open Go

theorem min120 (n : Nat) : (if (120 : Int) < (n : Int) then 120 else (n : Int)) = ((min n 120 : Nat) : Int) := by split <;> omega
theorem take_min120 (l : Str) : l.take (min l.length 120) = l.take 120 := by
  rcases Nat.le_total l.length 120 with h | h
  · rw [Nat.min_eq_left h, List.take_length, List.take_of_length_le h]
  · rw [Nat.min_eq_right h]
abbrev stK : List CK := [.s]
theorem argSts {W : World} {v : Value} (h : ArgF W stK v) : ∃ l : List Str, RdS v l (whole W) := by
  obtain ⟨a, len, cap, rfl, hc, h⟩ := h
  rcases h with rfl | ⟨b, o, L, U, fz, rfl, hm, hf⟩
  · exact ⟨[], ⟨a, cap, rfl, hc, .inl rfl⟩⟩
  · obtain ⟨l, h1, -, h3⟩ := choose_elems (k := 1) (en := fun x : Str => [sv x]) (Q := fun _ => True) (L := L) (o := o) (len := len) fun i hi => by
      have hf := hf i hi
      obtain ⟨_, e0, n0, rfl, -⟩ := hf 0 _ rfl
      refine ⟨n0, trivial, take_cells [sv n0] _ fun j x hj => ?_⟩
      match j, hj with
      | 0, hj => cases hj; exact e0
    subst h1
    exact ⟨l, ⟨_, cap, rfl, hc, .inr ⟨b, o, L, U, fz, rfl, whole_mem.2 hm, h3⟩⟩⟩
def cutS (l : List Str) : List Str := (l.take 12).map (·.take 120)
theorem cutS_len (l : List Str) : (cutS l).length ≤ 12 := by simp [cutS]; omega
theorem cutS_mem {l : List Str} : ∀ x ∈ cutS l, x.length ≤ 1000 := fun x hx => by
  obtain ⟨y, -, rfl⟩ := List.mem_map.1 hx
  rw [List.length_take]; omega
theorem cut_spec {v : Value} {l : List Str} {c : List Blk} (hr : RdS v l c) : FN Tryd.prog 10 [v] [c] (fun u h => ∃ row, IsSl 9 1 u (strs (cutS l)) row ∧ h = [row, c]) := by
  obtain ⟨a, cap, rfl, -, hr⟩ := hr
  refine FN.intro 31 [(0, .slice a l.length cap)] Tryd.func10 rfl (enters Tryd.func10 (by kernel_rfl) rfl) Tryd.ntmps10 rfl rfl ?_
  refine WP.seq <| WP.region <| v0 (S0.assign rfl) rfl <| vE <| WP.seq <| WP.region <| vnv (S1.buildSlice rfl (qs := []) rfl rfl) rfl fun b5 => v0 (S0.assign rfl) rfl <| vE <| WP.seq <| WP.seq <| WP.region <| v0 (S0.assign rfl) rfl <| vE <| WP.block <| ?_  -- Code.loop
  refine WP.loop (fun st : Nat × Value × List Blk => st.1 ≤ l.length ∧ st.1 ≤ 12 ∧ IsSl 9 1 st.2.1 (strs ((l.take st.1).map (·.take 120))) st.2.2) (fun st : Nat × Value × List Blk => [(0, .slice a l.length cap), (3, st.2.1), (4, .int .i64 (st.1 : Int))]) (fun st : Nat × Value × List Blk => [st.2.2, c]) (fun st : Nat × Value × List Blk => l.length - st.1) ((0, _, [(b5, .cells ⟨[]⟩ 9 (0, 0))])) (⟨Nat.zero_le _, Nat.zero_le _, IsSl.row (n := 0) (c := 0) (l := []) (sp := []) rfl rfl (Nat.le_refl _)⟩) ⟨rfl, rfl, rfl, trivial⟩ ⟨_, (take1 at0 (take1 at0 take0))⟩ (fun st hinv => ?_) 
  obtain ⟨i, ov, orow⟩ := st
  obtain ⟨hi, hi2, hosl⟩ := hinv
  dsimp only at hi hi2 hosl ⊢
  refine WP.seq <| WP.seq <| WP.region <| v0 (S0.move rfl) rfl <| v0 (S0.move rfl) rfl <| v0 (S0.lenSl rfl) rfl <| v0 (S0.cmp rfl rfl rfl) rfl <| v0 (S0.move rfl) rfl <| ?_  -- guard t10 (wants True) at t11 := move t4 [if #4=True]
  first | refine csP (t := 10) rfl (fun h1 => ?_) (fun h1 => ?_) | refine csN (t := 10) rfl (fun h1 => ?_) (fun h1 => ?_) | refine cs (t := 10) rfl (fun h1 => ?_) (fun h1 => ?_)
  · skip
    have hlt : i < l.length := by omega
    rcases hr with e | ⟨b, o, GL, U, fz, rfl, hmem, hel⟩
    · rw [e] at hlt; simp at hlt
    have : HasC c b (.cells ⟨GL⟩ U fz) := ⟨hmem⟩
    have hx : l[i]? = some l[i] := by simp [hlt]
    generalize l[i] = x at hx
    have hele := hel i x hx
    have htk : l.take (i + 1) = l.take i ++ [x] := by rw [List.take_add_one, hx]; rfl
    refine gT rfl <| v0 (S0.move rfl) rfl <| gT rfl <| v0 (S0.cmp rfl rfl rfl) rfl <| v0 (S0.pickT rfl rfl) rfl <| vE <| ?_  -- cond
    first | refine WP.condP rfl (fun h2 => ?_) (fun h2 => ?_) | refine WP.condN rfl (fun h2 => ?_) (fun h2 => ?_) | refine WP.cond rfl (fun h2 => ?_) (fun h2 => ?_)
    · skip
      skip
      refine WP.skip <| WP.seq <| WP.block <| WP.drawP [(0, none), (1, none), (2, none), (3, none), (4, none), (5, none), (6, none), (7, none), (8, none), (9, none), (10, none), (11, none), (12, none), (13, none), (14, none)] mixed (by kernel_rfl) (by kernel_rfl) (by kernel_rfl) (take1 (atS at0) take0) <| w0 rfl rfl rfl (S0.move rfl) rfl <| w0 rfl rfl rfl (S0.move rfl) rfl <| w0 rfl rfl rfl (S0.move rfl) rfl <| ?_  -- op t19 := indexAddr 22 t17 t18
      refine w0 rfl rfl rfl (S0.indexO1 rfl rfl hlt) rfl <| ?_
      refine w0 rfl rfl rfl (S0.load rfl (rdS_get hele)) rfl <| ?_
      refine w0 rfl rfl rfl (S0.move rfl) rfl <| w0 rfl rfl rfl (S0.move rfl) rfl <| ?_  -- op t23 := indexAddr 22 t21 t22
      refine w0 rfl rfl rfl (S0.indexO1 rfl rfl hlt) rfl <| ?_
      refine w0 rfl rfl rfl (S0.load rfl (rdS_get hele)) rfl <| ?_
      refine w0 rfl rfl rfl (S0.lenSt rfl) rfl <| w0 rfl rfl rfl (S0.min2 rfl rfl rfl) rfl <| ?_  -- op t27 := slice 9 t20 none t26 none
      rw [min120]
      refine w0 rfl rfl rfl (S0.sliceSt (i := 0) (j := min x.length 120) rfl rfl rfl ⟨Nat.zero_le _, by omega⟩) rfl <| ?_
      refine wnv rfl rfl rfl rfl (S1.buildSlice rfl (qs := [(0, _)]) rfl rfl) rfl fun b28 => ?_  -- op t29 := append(t16, t28) :[22, 22]
      refine we rfl rfl rfl rfl (S1.appendL rfl hosl rfl rfl (atS at0) rfl rfl (by rw [strs_len]; simp; omega)) rfl ?_
      rintro v2 _ ⟨row2, hsl2, rfl⟩
      have hsl3 : IsSl 9 1 v2 (strs ((l.take (i + 1)).map (·.take 120))) row2 := by
        rw [htk, List.map_append, strs, List.map_append]
        simpa [strs, take_min120] using hsl2
      refine w0 rfl rfl rfl (S0.assign rfl) rfl <| wE <| WP.region <| v0 (S0.move rfl) rfl <| v0 (S0.ari rfl rfl rfl (wrap_i64 (by omega))) rfl <| v0 (S0.assign rfl) rfl <| vE <| ?_  -- roundend
      exact ⟨(i + 1, v2, row2), (by first | exact ⟨hlt, by omega, hsl3⟩ | (dsimp only; exact ⟨hlt, by omega, hsl3⟩)), (show l.length - (i + 1) < l.length - i by omega), ⟨⟨rfl, rfl, rfl, trivial⟩, rfl, rfl⟩, ⟨_, (take1 (atS at0) (take1 at0 take0))⟩⟩
    · skip
      refine WP.exit <| WP.seq <| WP.region <| v0 (S0.move rfl) rfl <| v0 (S0.assign rfl) rfl <| vE <| WP.ret <| ?_  -- ret
      refine r1 rfl rfl ?_
      exact ⟨orow, by rw [cutS, ← show i = 12 by omega]; exact hosl, rfl⟩
  · skip
    refine gF rfl rfl <| gF rfl rfl <| v0 (S0.pickF rfl rfl) rfl <| vE <| WP.condF rfl <| WP.exit <| WP.seq <| WP.region <| v0 (S0.move rfl) rfl <| v0 (S0.assign rfl) rfl <| vE <| WP.ret <| ?_  -- ret
    refine r1 rfl rfl ?_
    exact ⟨orow, by rw [cutS, List.take_of_length_le (by omega)]; rw [List.take_of_length_le (by omega)] at hosl; exact hosl, rfl⟩
end Go.Proofs.YtnoicafjkgbokaaDoor
