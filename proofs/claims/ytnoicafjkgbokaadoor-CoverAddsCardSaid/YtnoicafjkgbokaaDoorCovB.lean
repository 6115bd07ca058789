import Derived.Test.YtnoicafjkgbokaaDoorCovA
namespace Go.Proofs.YtnoicafjkgbokaaDoor
open Go

theorem strs_all (sp : List Value) (R : List Str) : ((strs R ++ sp).drop 0).take (R.length * 1) = strs R ∧ 0 + R.length * 1 ≤ (strs R ++ sp).length := by
  have : (strs R).length = R.length := by simp [strs]
  refine ⟨by rw [List.drop_zero, Nat.mul_one, ← this, List.take_left], by rw [List.length_append]; omega⟩
theorem clone_spec {v : Value} {l : List Str} {row : List Blk} (hs : IsSl 9 1 v (strs l) row) (hl : l.length ≤ 1000000) : FN Tryd.prog 35 [v] [row] (fun u h => ∃ row2, IsSl 9 1 u (strs l) row2 ∧ h = [row2, row]) := by
  obtain ⟨a, cap, rfl, hcap, hrow⟩ := hs.strsE
  rcases hrow with ⟨rfl, rfl, rfl, rfl⟩ | ⟨b, sp, rfl, rfl, hsp⟩
  · refine FN.intro 8 [(0, .slice none ([] : List Str).length 0)] Tryd.func35 rfl (enters Tryd.func35 (by kernel_rfl) rfl) Tryd.ntmps35 rfl rfl ?_
    refine WP.perm (h' := [[], []]) (k := []) (by simp) ?_
    refine WP.seq <| WP.region <| v0 (S0.assign rfl) rfl <| vE <| WP.seq <| WP.seq <| WP.region <| v0 (S0.move rfl) rfl <| v0 (S0.nilSl rfl rfl rfl) rfl <| vE <| ?_  -- cond
    refine WP.condTh rfl (rfl) ?_
    refine WP.seq <| WP.region <| v0 (S0.assign rfl) rfl <| vE <| WP.ret <| ?_  -- ret
    refine r1 rfl rfl ?_
    exact ⟨[], IsSl.nil, rfl⟩
  · refine FN.intro 8 [(0, .slice (some ⟨b, 0, none⟩) l.length cap)] Tryd.func35 rfl (enters Tryd.func35 (by kernel_rfl) rfl) Tryd.ntmps35 rfl rfl ?_
    refine WP.seq <| WP.region <| v0 (S0.assign rfl) rfl <| vE <| WP.seq <| WP.seq <| WP.region <| v0 (S0.move rfl) rfl <| v0 (S0.nilSl rfl rfl rfl) rfl <| vE <| ?_  -- cond
    refine WP.condFh rfl (rfl) ?_
    refine WP.skip <| WP.seq <| WP.region <| vnv (S1.buildSlice rfl (qs := []) rfl rfl) rfl fun b5 => v0 (S0.move rfl) rfl <| ?_  -- op t7 := append(t5, t6) :[22, 22]
    refine ve (S1.appendRd rfl (IsSl.row (n := 0) (c := 0) (l := []) (sp := []) rfl rfl (Nat.le_refl _)) rfl hs.rdS (fun q hq => List.mem_flatten.2 ⟨_, by simp, hq⟩) at0 rfl (by simp; omega)) rfl ?_
    rintro v2 _ ⟨row2, hsl2, rfl⟩
    rw [List.nil_append] at hsl2
    refine v0 (S0.assign rfl) rfl <| vE <| WP.ret <| ?_  -- ret
    refine r1 rfl rfl ?_
    exact ⟨row2, hsl2, rfl⟩
theorem idx_spec {v : Value} {l : List Str} {row : List Blk} {x : Str} (hr : RdS v l row) (hl : l.length ≤ 1000000) : FN Tryd.prog 55 [v, sv x] [row] (is (.int .i64 (idxP (fun y => decide (x = y)) l)) [row]) := by
  obtain ⟨a, cap, rfl, hcap, hr⟩ := hr
  refine FN.intro 19 [(0, .slice a l.length cap), (1, sv x)] Tryd.func55 rfl (enters Tryd.func55 (by kernel_rfl) rfl) Tryd.ntmps55 rfl rfl ?_
  refine WP.seq <| WP.region <| v0 (S0.assign rfl) rfl <| vE <| WP.seq <| WP.seq <| WP.region <| v0 (S0.move rfl) rfl <| v0 (S0.lenSl rfl) rfl <| v0 (S0.move rfl) rfl <| vE <| WP.block <| ?_  -- Code.loop
  refine WP.loop (fun i : Nat => i ≤ l.length ∧ ∀ j y, j < i → l[j]? = some y → decide (x = y) = false) (fun i : Nat => [(0, .slice a l.length cap), (1, sv x), (7, .int .i64 (l.length : Int)), (8, .int .i64 (i : Int))]) (fun i : Nat => [row]) (fun i : Nat => l.length - i) (0) (⟨by omega, fun j y hj => by omega⟩) ⟨rfl, rfl, rfl, rfl, trivial⟩ ⟨_, (take1 at0 take0)⟩ (fun i hinv => ?_) 
  obtain ⟨hi, hno⟩ := hinv
  refine WP.seq <| WP.region <| v0 (S0.cmp rfl rfl rfl) rfl <| vE <| WP.seq <| ?_  -- cond
  first | refine WP.condP rfl (fun h1 => ?_) (fun h1 => ?_) | refine WP.condN rfl (fun h1 => ?_) (fun h1 => ?_) | refine WP.cond rfl (fun h1 => ?_) (fun h1 => ?_)
  · skip
    have hlt : i < l.length := by omega
    rcases hr with e | ⟨b1, o1, L1, U1, fz1, rfl, hm1, he1⟩
    · rw [e] at hlt; simp at hlt
    have : HasC row b1 (.cells ⟨L1⟩ U1 fz1) := ⟨hm1⟩
    have hy : l[i]? = some l[i] := by simp [hlt]
    generalize l[i] = y at hy
    have hye := he1 i y hy
    skip
    refine WP.skip <| WP.seq <| WP.block <| WP.seq <| WP.region <| v0 (S0.move rfl) rfl <| v0 (S0.assign rfl) rfl <| vE <| WP.seq <| WP.region <| v0 (S0.move rfl) rfl <| v0 (S0.move rfl) rfl <| v0 (S0.move rfl) rfl <| ?_  -- op t14 := indexAddr 22 t12 t13
    refine v0 (S0.indexO1 rfl rfl hlt) rfl <| ?_
    refine v0 (S0.load rfl (rdS_get hye)) rfl <| ?_
    refine v0 (S0.cmpS rfl rfl rfl) rfl <| vE <| ?_  -- cond
    first | refine WP.condP rfl (fun h2 => ?_) (fun h2 => ?_) | refine WP.condN rfl (fun h2 => ?_) (fun h2 => ?_) | refine WP.cond rfl (fun h2 => ?_) (fun h2 => ?_)
    · skip
      refine WP.seq <| WP.region <| v0 (S0.move rfl) rfl <| v0 (S0.assign rfl) rfl <| vE <| WP.ret <| ?_  -- ret
      refine r1 rfl rfl ⟨?_, rfl⟩
      rw [idxP_at hno hy (by simp [h2])]
    · skip
      refine WP.skip <| WP.region <| v0 (S0.ari rfl rfl rfl (wrap_i64 (by omega))) rfl <| v0 (S0.move rfl) rfl <| vE <| ?_  -- roundend
      exact ⟨i + 1, (by first | exact ⟨hlt, below_at (p := fun _ y => decide (x = y) = false) hno hy (by simp [h2])⟩ | (dsimp only; exact ⟨hlt, below_at (p := fun _ y => decide (x = y) = false) hno hy (by simp [h2])⟩)), (by omega), ⟨⟨rfl, rfl, rfl, rfl, trivial⟩, rfl, rfl⟩, ⟨_, (take1 at0 take0)⟩⟩
  · skip
    refine WP.exit <| WP.seq <| WP.region <| v0 (S0.assign rfl) rfl <| vE <| WP.ret <| ?_  -- ret
    refine r1 rfl rfl ⟨?_, rfl⟩
    rw [idxP_none fun j y hj => hno j y (by omega)]
theorem any_eq_mem (x : Str) (l : List Str) : (l.any fun y => decide (x = y)) = decide (x ∈ l) := by
  rw [Bool.eq_iff_iff]; simp
theorem contains_spec {v : Value} {l : List Str} {row : List Blk} {x : Str} (hr : RdS v l row) (hl : l.length ≤ 1000000) : FN Tryd.prog 37 [v, sv x] [row] (is (.bool (decide (x ∈ l))) [row]) := by
  refine FN.intro 9 [(0, v), (1, sv x)] Tryd.func37 rfl (enters Tryd.func37 (by kernel_rfl) rfl) Tryd.ntmps37 rfl rfl ?_
  refine WP.seq <| WP.region <| v0 (S0.assign rfl) rfl <| vE <| WP.seq <| WP.region <| v0 (S0.move rfl) rfl <| v0 (S0.move rfl) rfl <| ?_  -- op t7 := call F55{slices.Index[[]string,string]}(t5, t6)
  refine vcd (S1.callF rfl (idx_spec hr hl) (take1 at0 take0)) rfl ?_
  refine v0 (S0.cmp rfl rfl rfl) rfl <| v0 (S0.assign rfl) rfl <| vE <| WP.ret <| ?_  -- ret
  refine r1 rfl rfl ⟨?_, rfl⟩
  rw [idxP_any, any_eq_mem]
theorem zeros_str (n : Nat) : (Builtin.zeroCells (Value.string ByteArray.empty).cells n).toList = List.replicate n (sv []) := by
  apply List.ext_getElem
  · simp [Builtin.zeroCells, Value.cells]
  · intro i h1 h2
    simp [Builtin.zeroCells, Value.cells, Nat.mod_one]
    rfl
theorem delete_spec {g : Nat} {caps : List Value} {cm : List Blk} {p : Str → Bool} {l : List Str} {v : Value} {row : List Blk} (hs : IsSl 9 1 v (strs l) row) (hl : l.length ≤ 1000000) (hc : ∀ x ∈ l, FN Tryd.prog g (sv x :: caps) [cm] (is (.bool (p x)) [cm])) :
    FN Tryd.prog 34 [v, .func (.func g) ⟨[]⟩ ⟨caps⟩] [row, cm] (fun u h => ∃ row2, IsSl 9 1 u (strs (l.filter fun x => !p x)) row2 ∧ h = [row2, cm]) := by
  obtain ⟨a, cap, rfl, hcap, hrow⟩ := hs.strsE
  refine FN.intro 42 [(0, .slice a l.length cap), (1, .func (.func g) ⟨[]⟩ ⟨caps⟩)] Tryd.func34 rfl (enters Tryd.func34 (by kernel_rfl) rfl) Tryd.ntmps34 rfl rfl ?_
  refine WP.seq <| WP.region <| v0 (S0.assign rfl) rfl <| vE <| WP.seq <| WP.region <| v0 (S0.move rfl) rfl <| v0 (S0.move rfl) rfl <| ?_  -- op t10 := call F54{slices.IndexFunc[[]string,string]}(t8, t9)
  refine vcd (S1.callF rfl (idxFuncS hs hl hc) (take1 at0 (take1 at0 take0))) rfl ?_
  skip
  cases hix : l.findIdx? p with
  | none =>
    skip
    have e0 : idxP p l = -1 := by simp [idxP, hix]
    rw [List.findIdx?_eq_none_iff] at hix
    have ef : (l.filter fun x => !p x) = l := List.filter_eq_self.2 fun x hx => by simp [hix x hx]
    rw [e0, ef]
    refine v0 (S0.assign rfl) rfl <| vE <| WP.seq <| WP.seq <| WP.region <| v0 (S0.move rfl) rfl <| v0 (S0.cmp rfl rfl rfl) rfl <| vE <| ?_  -- cond
    refine WP.condTh rfl (rfl) ?_
    refine WP.seq <| WP.region <| v0 (S0.move rfl) rfl <| v0 (S0.assign rfl) rfl <| vE <| WP.ret <| ?_  -- ret
    refine r1 rfl rfl ?_
    exact ⟨row, hs, rfl⟩
  | some i0 =>
    skip
    have e0 : idxP p l = (i0 : Int) := by simp [idxP, hix]
    rw [List.findIdx?_eq_some_iff_getElem] at hix
    obtain ⟨hlt0, hp0, hno0⟩ := hix
    have hno : ∀ x ∈ l.take i0, p x = false := fun x hx => by
      obtain ⟨j, hj, rfl⟩ := List.getElem_of_mem hx
      have hj' : j < i0 := by rw [List.length_take] at hj; omega
      have := hno0 j hj'
      simpa using this
    have ef0 : ((l.take (i0 + 1)).filter fun x => !p x) = l.take i0 := by
      have : l.take (i0 + 1) = l.take i0 ++ [l[i0]] := by rw [List.take_add_one, List.getElem?_eq_getElem hlt0]; rfl
      rw [this, List.filter_append, List.filter_eq_self.2 fun x hx => by simp [hno x hx]]
      simp [hp0]
    rw [e0]
    rcases hrow with ⟨rfl, -⟩ | ⟨b, sp, rfl, rfl, hsp⟩
    · simp at hlt0
    refine v0 (S0.assign rfl) rfl <| vE <| WP.seq <| WP.seq <| WP.region <| v0 (S0.move rfl) rfl <| v0 (S0.cmp rfl rfl rfl) rfl <| vE <| ?_  -- cond
    refine WP.condFh rfl ((decide_eq_false (by omega))) ?_
    refine WP.skip <| WP.seq <| WP.seq <| WP.region <| v0 (S0.move rfl) rfl <| v0 (S0.ari rfl rfl rfl (wrap_i64 (by omega))) rfl <| v0 (S0.assign rfl) rfl <| vE <| WP.block <| ?_  -- Code.loop
    refine WP.loop (fun st : Nat × Nat × List Str => st.1 < st.2.1 ∧ st.2.1 ≤ l.length ∧ st.2.2.length = l.length ∧ st.2.2.take st.1 = (l.take st.2.1).filter (fun x => !p x) ∧ st.2.2.drop st.2.1 = l.drop st.2.1) (fun st : Nat × Nat × List Str => [(0, .slice (some ⟨b, 0, none⟩) l.length cap), (1, .func (.func g) ⟨[]⟩ ⟨caps⟩), (5, .int .i64 (st.1 : Int)), (6, .int .i64 (st.2.1 : Int))]) (fun st : Nat × Nat × List Str => [[(b, .cells ⟨strs st.2.2 ++ sp⟩ 9 (0, 0))], cm]) (fun st : Nat × Nat × List Str => l.length - st.2.1) ((i0, i0 + 1, l)) (⟨show i0 < i0 + 1 by omega, show i0 + 1 ≤ l.length by omega, rfl, ef0.symm, rfl⟩) ⟨rfl, rfl, rfl, rfl, trivial⟩ ⟨_, (take1 at0 (take1 at0 take0))⟩ (fun st hinv => ?_) 
    obtain ⟨i, j, M⟩ := st
    obtain ⟨hij, hj, hM, htk, hdr⟩ := hinv
    dsimp only at hij hj hM htk hdr ⊢
    refine WP.seq <| WP.seq <| WP.region <| v0 (S0.move rfl) rfl <| v0 (S0.move rfl) rfl <| v0 (S0.lenSl rfl) rfl <| v0 (S0.cmp rfl rfl rfl) rfl <| vE <| ?_  -- cond
    first | refine WP.condP rfl (fun h1 => ?_) (fun h1 => ?_) | refine WP.condN rfl (fun h1 => ?_) (fun h1 => ?_) | refine WP.cond rfl (fun h1 => ?_) (fun h1 => ?_)
    · skip
      have hlt : j < l.length := by omega
      have hlM : j < M.length := by omega
      have hx : l[j]? = some l[j] := by simp [hlt]
      have hxm : l[j] ∈ l := List.getElem_mem hlt
      generalize l[j] = x at hx hxm
      have hxM : M[j]? = some x := by
        have := congrArg (·[0]?) hdr
        simp only [List.getElem?_drop, Nat.add_zero] at this
        rw [this, hx]
      have htl : l.take (j + 1) = l.take j ++ [x] := by rw [List.take_add_one, hx]; rfl
      have hdr2 : M.drop (j + 1) = l.drop (j + 1) := by
        have := congrArg (List.drop 1) hdr
        simpa [List.drop_drop] using this
      refine WP.skip <| WP.seq <| WP.block <| WP.seq <| WP.region <| v0 (S0.move rfl) rfl <| v0 (S0.move rfl) rfl <| ?_  -- op t24 := indexAddr 22 t22 t23
      refine v0 (S0.index1 rfl rfl hlt) rfl <| ?_
      refine v0 (S0.load rfl (strs_get hxM)) rfl <| ?_
      refine v0 (S0.assign rfl) rfl <| vE <| WP.seq <| WP.region <| v0 (S0.move rfl) rfl <| v0 (S0.move rfl) rfl <| ?_  -- op t28 := call t26(t27)
      refine vcd (S1.callC rfl rfl rfl (hc x hxm) (take1 (atS at0) take0)) rfl ?_
      refine v0 (S0.not rfl) rfl <| vE <| ?_  -- cond
      first | refine WP.condP rfl (fun h2 => ?_) (fun h2 => ?_) | refine WP.condN rfl (fun h2 => ?_) (fun h2 => ?_) | refine WP.cond rfl (fun h2 => ?_) (fun h2 => ?_)
      · skip
        have hset : (strs M ++ sp).set i (sv x) = strs (M.set i x) ++ sp := by
          rw [List.set_append_left _ _ (by simp [strs]; omega)]
          simp [strs]
        refine WP.seq <| WP.region <| v0 (S0.move rfl) rfl <| v0 (S0.move rfl) rfl <| v0 (S0.move rfl) rfl <| ?_  -- op t33 := indexAddr 22 t30 t31
        refine v0 (S0.index1 rfl rfl (show i < l.length by omega)) rfl <| ?_
        skip
        refine vs (S1.storeI rfl rfl rfl hset (by simp [strs]; omega)) <| ?_
        refine vE <| WP.region <| v0 (S0.move rfl) rfl <| v0 (S0.ari rfl rfl rfl (wrap_i64 (by omega))) rfl <| v0 (S0.assign rfl) rfl <| vE <| WP.region <| v0 (S0.move rfl) rfl <| v0 (S0.ari rfl rfl rfl (wrap_i64 (by omega))) rfl <| v0 (S0.assign rfl) rfl <| vE <| ?_  -- roundend
        exact ⟨(i + 1, j + 1, M.set i x), (by first | exact ⟨show i + 1 < j + 1 by omega, hlt, by simp [hM], by
          show (M.set i x).take (i + 1) = (l.take (j + 1)).filter _
          rw [List.take_add_one, List.take_set_of_le (Nat.le_refl _), htk, htl, List.filter_append]
          have : i < M.length := by omega
          simp [this, h2], by
          show (M.set i x).drop (j + 1) = l.drop (j + 1)
          rw [List.drop_set_of_lt (by omega), hdr2]⟩ | (dsimp only; exact ⟨show i + 1 < j + 1 by omega, hlt, by simp [hM], by
          show (M.set i x).take (i + 1) = (l.take (j + 1)).filter _
          rw [List.take_add_one, List.take_set_of_le (Nat.le_refl _), htk, htl, List.filter_append]
          have : i < M.length := by omega
          simp [this, h2], by
          show (M.set i x).drop (j + 1) = l.drop (j + 1)
          rw [List.drop_set_of_lt (by omega), hdr2]⟩)), (show l.length - (j + 1) < l.length - j by omega), ⟨⟨rfl, rfl, rfl, rfl, trivial⟩, rfl, rfl⟩, ⟨_, (take1 (atS at0) (take1 at0 take0))⟩⟩
      · skip
        have hp : p x = true := by simpa using h2
        refine WP.skip <| WP.region <| v0 (S0.move rfl) rfl <| v0 (S0.ari rfl rfl rfl (wrap_i64 (by omega))) rfl <| v0 (S0.assign rfl) rfl <| vE <| ?_  -- roundend
        exact ⟨(i, j + 1, M), (by first | exact ⟨show i < j + 1 by omega, hlt, hM, by show M.take i = (l.take (j + 1)).filter _; rw [htk, htl, List.filter_append]; simp [hp], hdr2⟩ | (dsimp only; exact ⟨show i < j + 1 by omega, hlt, hM, by show M.take i = (l.take (j + 1)).filter _; rw [htk, htl, List.filter_append]; simp [hp], hdr2⟩)), (show l.length - (j + 1) < l.length - j by omega), ⟨⟨rfl, rfl, rfl, rfl, trivial⟩, rfl, rfl⟩, ⟨_, (take1 (atS at0) (take1 at0 take0))⟩⟩
    · skip
      have e : j = l.length := by omega
      rw [e, List.take_length] at htk
      have hif : i = (l.filter fun x => !p x).length := by rw [← htk, List.length_take]; omega
      have hslen : (strs M).length = l.length := by simp [strs, hM]
      refine WP.exit <| WP.seq <| WP.region <| v0 (S0.move rfl) rfl <| v0 (S0.move rfl) rfl <| ?_  -- op t38 := slice 22 t36 t37 none none
      refine v0 (S0.slice (i := i) (j := l.length) rfl rfl rfl ⟨by omega, hcap⟩) rfl <| ?_
      rw [if_neg (show ¬ cap = i by omega)]
      refine vs (S1.clearSl (k := 1) (zv := .string ByteArray.empty) rfl (by omega) (by rw [List.length_append, hslen]; omega) rfl (by rw [zeros_str]; intro v hv; rw [List.eq_of_mem_replicate hv]; rfl)) <| ?_
      have ecl : (strs M ++ sp).take (0 + i * 1) ++ (Builtin.zeroCells (Value.string ByteArray.empty).cells (l.length - i)).toList ++ (strs M ++ sp).drop (0 + i * 1 + (l.length - i) * 1) = strs (l.filter fun x => !p x) ++ (List.replicate (l.length - i) (sv []) ++ sp) := by
        rw [zeros_str, ← htk, List.take_append_of_le_length (by omega), List.drop_append, List.drop_eq_nil_of_le (by omega), show 0 + i * 1 + (l.length - i) * 1 - (strs M).length = 0 by omega]
        simp [strs]
      rw [ecl]
      refine vE <| WP.seq <| WP.region <| v0 (S0.move rfl) rfl <| v0 (S0.move rfl) rfl <| ?_  -- op t41 := slice 22 t39 none t40 none
      refine v0 (S0.slice (i := 0) (j := i) rfl rfl rfl ⟨by omega, by omega⟩) rfl <| ?_
      refine v0 (S0.assign rfl) rfl <| vE <| WP.ret <| ?_  -- ret
      refine r1 rfl rfl ?_
      refine ⟨_, ?_, rfl⟩
      rw [show (if cap = 0 then 0 else 0 + 0 * 1) = 0 by split <;> rfl, Nat.sub_zero, Nat.sub_zero]
      refine IsSl.row (by simp only [strs, List.length_map]; omega) ?_ (by omega)
      simp only [List.length_append, strs, List.length_map, List.length_replicate] at hsp hslen ⊢
      omega
theorem FN.ent {P : Program} {g : Nat} {args : List Value} {h : Hp} {post : Value → Hp → Prop} (H : FN P g args h post) : ∀ a w, (callFunc g a).run P w = .ok (.enter g a) w := H.enters
/-- the box of a slice and its row: one chunk -/
theorem inm_spec {mv : Value} {m : List Str} {mrow : List Blk} {b : Nat} {x : Str} (hm : IsSl 9 1 mv (strs m) mrow) (hl : m.length ≤ 1000000) : FN Tryd.prog 36 [sv x, .pointer (some ⟨b, 0, none⟩)] [(b, cel [mv] 22) :: mrow] (is (.bool (decide (x ∈ m))) [(b, cel [mv] 22) :: mrow]) := by
  have H : FN Tryd.prog 36 [sv x, .pointer (some ⟨b, 0, none⟩)] [[(b, cel [mv] 22)], mrow] (is (.bool (decide (x ∈ m))) [[(b, cel [mv] 22)], mrow]) := by
    refine FN.intro 7 [(0, sv x), (1, .pointer (some ⟨b, 0, none⟩))] Tryd.func36 rfl (enters Tryd.func36 (by kernel_rfl) rfl) Tryd.ntmps36 rfl rfl ?_
    refine WP.seq <| WP.region <| v0 (S0.assign rfl) rfl <| vE <| WP.seq <| WP.region <| v0 (S0.load rfl rfl) rfl <| v0 (S0.move rfl) rfl <| ?_  -- op t6 := call F37{slices.Contains[[]string,string]}(t4, t5)
    refine vcd (S1.callF rfl (contains_spec hm.rdS hl) (take1 (atS at0) take0)) rfl ?_
    refine v0 (S0.assign rfl) rfl <| vE <| WP.ret <| ?_  -- ret
    refine Leaves.drop (take1 (atS at0) (take1 at0 take0)) ?_
    refine r1 rfl rfl ⟨?_, rfl⟩
    rfl
  exact FN.join H (by simp) _ fun v h' ⟨e1, e2⟩ => ⟨_, ⟨e1, rfl⟩, by rw [e2]; simp⟩
theorem diff1_spec {lv mv : Value} {l m : List Str} {lrow mrow : List Blk} (hl : IsSl 9 1 lv (strs l) lrow) (hm : IsSl 9 1 mv (strs m) mrow) (hll : l.length ≤ 1000000) (hml : m.length ≤ 1000000) :
    FN Tryd.prog 33 [lv, mv] [lrow, mrow] (fun u h => ∃ row, IsSl 9 1 u (strs (withoutS l m)) row ∧ h = [row, lrow, mrow]) := by
  have hm' := hm
  obtain ⟨ma, mc, rfl, -, -⟩ := hm'.strsE
  refine FN.intro 9 [(0, lv), (1, .slice ma m.length mc)] Tryd.func33 rfl (enters Tryd.func33 (by kernel_rfl) rfl) Tryd.ntmps33 rfl rfl ?_
  refine WP.seq <| WP.region <| vn (S1.box rfl rfl) rfl fun b3 => v0 (S0.assign rfl) rfl <| vE <| WP.seq <| WP.region <| v0 (S0.move rfl) rfl <| ?_  -- op t6 := call F35{slices.Clone[[]string,string]}(t5)
  refine vc (S1.callF rfl (clone_spec hl hll) (take1 (atS at0) take0)) rfl ?_
  rintro u _ ⟨crow, hsc, rfl⟩
  refine app ?_
  refine v0 (S0.makeFunc rfl rfl) rfl <| ?_  -- op t8 := call F34{slices.DeleteFunc[[]string,string]}(t6, t7)
  refine WO.perm (h' := [crow, (b3, cel [.slice ma m.length mc] 22) :: mrow, lrow]) (k := []) (by
    simp only [List.flatten_cons, List.flatten_nil, List.append_nil, List.cons_append, List.nil_append]
    refine List.Perm.append_left _ ?_
    exact List.perm_append_comm.trans (by simp)) ?_
  refine vc (S1.callF rfl (delete_spec (p := fun x => decide (x ∈ m)) hsc hll (fun x _ => inm_spec hm hml)) (take1 at0 (take1 at0 take0))) rfl ?_
  rintro u2 _ ⟨row2, hs2, rfl⟩
  refine app ?_
  refine v0 (S0.assign rfl) rfl <| vE <| WP.ret <| ?_  -- ret
  refine Leaves.drop (h' := [row2, lrow, mrow]) (k := [[(b3, cel [.slice ma m.length mc] 22)]]) (by
    simp only [List.flatten_cons, List.flatten_nil, List.append_nil, List.cons_append, List.append_assoc]
    refine List.Perm.append_left _ ?_
    refine (List.perm_append_comm (l₁ := _ :: mrow)).trans ?_
    exact List.Perm.append_left _ (List.perm_append_comm (l₁ := [_]))) ?_
  refine r1 rfl rfl ?_
  exact ⟨row2, hs2, rfl⟩
theorem diff_spec {ov nv : Value} {l m : List Str} {oc nc : List Blk} (ho : RdS ov l oc) (hn : RdS nv m nc) (hox : ∀ x ∈ l, x.length ≤ 1000) (hol : l.length ≤ 1000) (hnx : ∀ x ∈ m, x.length ≤ 1000) (hnl : m.length ≤ 1000) :
    FN Tryd.prog 17 [ov, nv] [oc, nc] (fun u h => ∃ v1 v2 r1 r2, IsSl 9 1 v1 (strs (withoutS (cleanS m) (cleanS l))) r1 ∧ IsSl 9 1 v2 (strs (withoutS (cleanS l) (cleanS m))) r2 ∧ u = .tuple ⟨[v1, v2]⟩ ∧ h = [r1, r2, oc, nc]) := by
  have hcl := clean_len l
  have hcm := clean_len m
  refine FN.intro 21 [(0, ov), (1, nv)] Tryd.func17 rfl (enters Tryd.func17 (by kernel_rfl) rfl) Tryd.ntmps17 rfl rfl ?_
  refine WP.seq <| WP.region <| v0 (S0.assign rfl) rfl <| v0 (S0.assign rfl) rfl <| vE <| WP.seq <| WP.region <| v0 (S0.move rfl) rfl <| ?_  -- op t10 := call F29{rivulet/cover.clean}(t9)
  refine vc (S1.callF rfl (clean_spec ho hox hol) (take1 at0 take0)) rfl ?_
  rintro va _ ⟨ra, hsa, rfl⟩
  refine app ?_
  refine v0 (S0.move rfl) rfl <| ?_  -- op t12 := call F29{rivulet/cover.clean}(t11)
  refine vc (S1.callF rfl (clean_spec hn hnx hnl) (take1 (atS (atS at0)) take0)) rfl ?_
  rintro vb _ ⟨rb, hsb, rfl⟩
  refine app ?_
  refine v0 (S0.assign rfl) rfl <| v0 (S0.assign rfl) rfl <| vE <| WP.seq <| WP.region <| v0 (S0.assign rfl) rfl <| vE <| WP.seq <| WP.region <| v0 (S0.move rfl) rfl <| v0 (S0.move rfl) rfl <| v0 (S0.move rfl) rfl <| ?_  -- op t16 := call t13(t14, t15)
  refine vc (S1.callC rfl rfl rfl (diff1_spec hsb hsa (by omega) (by omega)) (take1 at0 (take1 (atS at0) take0))) rfl ?_
  rintro v1 _ ⟨r1', hs1, rfl⟩
  refine app ?_
  refine v0 (S0.move rfl) rfl <| v0 (S0.move rfl) rfl <| v0 (S0.move rfl) rfl <| ?_  -- op t20 := call t17(t18, t19)
  refine vc (S1.callC rfl rfl rfl (diff1_spec hsa hsb (by omega) (by omega)) (take1 (atS (atS at0)) (take1 (atS at0) take0))) rfl ?_
  rintro v2 _ ⟨r2', hs2, rfl⟩
  refine app ?_
  refine v0 (S0.assign rfl) rfl <| v0 (S0.assign rfl) rfl <| vE <| WP.ret <| ?_  -- ret
  refine Leaves.drop (take1 (atS (atS (atS at0))) (take1 at0 (take1 (atS (atS (atS at0))) (take1 (atS (atS at0)) take0)))) ?_
  refine r2 rfl rfl rfl ?_
  exact ⟨v1, v2, r1', r2', hs1, hs2, rfl, rfl⟩

/-! slices.Concat at two rows -/
theorem grow_spec {n : Nat} (hn : n ≤ 1000000) : FN Tryd.prog 53 [.slice none 0 0, .int .i64 (n : Int)] [] (fun u h => ∃ row, IsSl 9 1 u [] row ∧ h = [row]) := by
  refine FN.intro 27 [(0, .slice none 0 0), (1, .int .i64 (n : Int))] Tryd.func53 rfl (enters Tryd.func53 (by kernel_rfl) rfl) Tryd.ntmps53 rfl rfl ?_
  refine WP.seq <| WP.region <| v0 (S0.assign rfl) rfl <| vE <| WP.seq <| WP.seq <| WP.region <| v0 (S0.move rfl) rfl <| v0 (S0.cmp rfl rfl rfl) rfl <| vE <| ?_  -- cond
  refine WP.condFh rfl ((decide_eq_false (by omega))) ?_
  refine WP.skip <| WP.seq <| WP.seq <| WP.region <| v0 (S0.move rfl) rfl <| v0 (S0.move rfl) rfl <| v0 (S0.capSl rfl) rfl <| v0 (S0.move rfl) rfl <| v0 (S0.lenSl rfl) rfl <| v0 (S0.ari rfl rfl rfl (wrap_i64 (by omega))) rfl <| v0 (S0.ari rfl rfl rfl (wrap_i64 (by omega))) rfl <| v0 (S0.assign rfl) rfl <| vE <| WP.seq <| WP.region <| v0 (S0.move rfl) rfl <| v0 (S0.cmp rfl rfl rfl) rfl <| vE <| ?_  -- cond
  first | refine WP.condP rfl (fun h1 => ?_) (fun h1 => ?_) | refine WP.condN rfl (fun h1 => ?_) (fun h1 => ?_) | refine WP.cond rfl (fun h1 => ?_) (fun h1 => ?_)
  · skip
    rw [show ((n : Int) - (((0 : Nat) : Int) - ((0 : Nat) : Int))) = (n : Int) by omega] at h1 ⊢
    refine WP.region <| v0 (S0.move rfl) rfl <| v0 (S0.move rfl) rfl <| v0 (S0.capSl rfl) rfl <| ?_  -- op t20 := slice 22 t17 none t19 none
    refine v0 (S0.sliceN rfl trivial rfl) rfl <| ?_
    refine v0 (S0.move rfl) rfl <| ?_  -- op t22 := append(t20, t21) :[22, 3]
    refine ve (S1.growNil rfl rfl (by omega) (by omega)) rfl ?_
    rintro v1 _ ⟨b, nc, sp, hle, hsp, rfl, rfl⟩
    refine v0 (S0.move rfl) rfl <| v0 (S0.lenSl rfl) rfl <| ?_  -- op t25 := slice 22 t22 none t24 none
    refine v0 (S0.slice (i := 0) (j := 0) rfl rfl rfl ⟨by omega, by omega⟩) rfl <| ?_
    refine v0 (S0.assign rfl) rfl <| vE <| WP.seq <| WP.region <| v0 (S0.move rfl) rfl <| v0 (S0.assign rfl) rfl <| vE <| WP.ret <| ?_  -- ret
    refine r1 rfl rfl ?_
    refine ⟨_, ?_, rfl⟩
    rw [show (if nc = 0 then 0 else 0 + 0 * 1) = 0 by split <;> rfl]
    exact IsSl.row (n := 0) (c := nc) (l := []) (sp := sp) rfl (by simpa [Value.cells] using hsp) (Nat.zero_le _)
  · skip
    refine WP.perm (h' := [[]]) (k := []) (by simp) ?_
    refine WP.skip <| WP.seq <| WP.region <| v0 (S0.move rfl) rfl <| v0 (S0.assign rfl) rfl <| vE <| WP.ret <| ?_  -- ret
    refine r1 rfl rfl ?_
    exact ⟨[], IsSl.nil, rfl⟩
theorem concat_spec {va vb : Value} {A B : List Str} {c : List Blk} {b0 : Nat} (ha : RdS va A c) (hb : RdS vb B c) (hal : A.length ≤ 1000) (hbl : B.length ≤ 1000) :
    FN Tryd.prog 32 [.slice (some ⟨b0, 0, none⟩) 2 2] [[(b0, .cells ⟨[va, vb]⟩ 22 (0, 0))], c] (fun u h => ∃ row, IsSl 9 1 u (strs (A ++ B)) row ∧ h = [row, [(b0, .cells ⟨[va, vb]⟩ 22 (0, 0))], c]) := by
  have ha' := ha
  have hb' := hb
  obtain ⟨aa, ac, rfl, -, -⟩ := ha'
  obtain ⟨ba, bc, rfl, -, -⟩ := hb'
  have hget : ∀ i : Nat, i < 2 → ∃ R x, R.length ≤ 1000 ∧ RdS x R c ∧ ([Value.slice aa A.length ac, Value.slice ba B.length bc] : List Value)[i]? = some x ∧ ((([A, B] : List (List Str)).take (i + 1)).flatten = (([A, B] : List (List Str)).take i).flatten ++ R) := fun i hi => by
    match i, hi with
    | 0, _ => exact ⟨A, _, hal, ha, rfl, by simp⟩
    | 1, _ => exact ⟨B, _, hbl, hb, rfl, by simp⟩
  have hfl : ∀ i : Nat, i ≤ 2 → ((([A, B] : List (List Str)).take i).flatten).length ≤ 2000 := fun i hi => by
    match i, hi with
    | 0, _ => simp
    | 1, _ => simp; omega
    | 2, _ => simp; omega
  generalize ([Value.slice aa A.length ac, Value.slice ba B.length bc] : List Value) = CS at hget
  refine FN.intro 36 [(0, .slice (some ⟨b0, 0, none⟩) 2 2)] Tryd.func32 rfl (enters Tryd.func32 (by kernel_rfl) rfl) Tryd.ntmps32 rfl rfl ?_
  refine WP.seq <| WP.region <| v0 (S0.assign rfl) rfl <| vE <| WP.seq <| WP.region <| v0 (S0.assign rfl) rfl <| vE <| WP.seq <| WP.seq <| WP.region <| v0 (S0.move rfl) rfl <| v0 (S0.lenSl rfl) rfl <| v0 (S0.move rfl) rfl <| vE <| WP.block <| ?_  -- Code.loop
  refine WP.loop (fun st : Nat × Int => st.1 ≤ 2 ∧ st.2 = (((([A, B] : List (List Str)).take st.1).flatten).length : Int)) (fun st : Nat × Int => [(3, .int .i64 st.2), (0, .slice (some ⟨b0, 0, none⟩) 2 2), (9, .slice (some ⟨b0, 0, none⟩) 2 2), (10, .int .i64 2), (11, .int .i64 (st.1 : Int))]) (fun st : Nat × Int => [[(b0, .cells ⟨CS⟩ 22 (0, 0))], c]) (fun st : Nat × Int => 2 - st.1) ((0, 0)) (⟨Nat.zero_le _, by simp⟩) ⟨rfl, rfl, rfl, rfl, rfl, trivial⟩ ⟨_, (take1 at0 (take1 at0 take0))⟩ (fun st hinv => ?_) 
  obtain ⟨i, n⟩ := st
  obtain ⟨hi, hn⟩ := hinv
  dsimp only at hi hn ⊢
  have hfi := hfl i hi
  refine WP.seq <| WP.region <| v0 (S0.cmp rfl rfl rfl) rfl <| vE <| WP.seq <| ?_  -- cond
  first | refine WP.condP rfl (fun h1 => ?_) (fun h1 => ?_) | refine WP.condN rfl (fun h1 => ?_) (fun h1 => ?_) | refine WP.cond rfl (fun h1 => ?_) (fun h1 => ?_)
  · skip
    have hlt : i < 2 := by omega
    obtain ⟨R, x, hRl, hRx, hgx, htk⟩ := hget i hlt
    obtain ⟨xa, xc, rfl, -, -⟩ := hRx
    have hfi2 := hfl (i + 1) hlt
    refine WP.skip <| WP.seq <| WP.block <| WP.seq <| WP.region <| ?_  -- op t13 := indexAddr 45 t9 t11
    refine v0 (S0.index1 rfl rfl hlt) rfl <| ?_
    refine v0 (S0.load rfl hgx) rfl <| ?_
    refine v0 (S0.assign rfl) rfl <| vE <| WP.seq <| WP.region <| v0 (S0.move rfl) rfl <| v0 (S0.move rfl) rfl <| v0 (S0.lenSl rfl) rfl <| v0 (S0.ari rfl rfl rfl (wrap_i64 (by omega))) rfl <| v0 (S0.assign rfl) rfl <| vE <| WP.seq <| WP.region <| v0 (S0.move rfl) rfl <| v0 (S0.cmp rfl rfl rfl) rfl <| vE <| ?_  -- cond
    refine WP.condFh rfl ((decide_eq_false (by omega))) ?_
    refine WP.skip <| WP.region <| v0 (S0.ari rfl rfl rfl (wrap_i64 (by omega))) rfl <| v0 (S0.move rfl) rfl <| vE <| ?_  -- roundend
    exact ⟨(i + 1, n + R.length), (by first | exact ⟨hlt, by show n + R.length = _; rw [hn]; simp only [htk, List.length_append]; omega⟩ | (dsimp only; exact ⟨hlt, by show n + R.length = _; rw [hn]; simp only [htk, List.length_append]; omega⟩)), (show 2 - (i + 1) < 2 - i by omega), ⟨⟨rfl, rfl, rfl, rfl, rfl, trivial⟩, rfl, rfl⟩, ⟨_, (take1 at0 (take1 at0 take0))⟩⟩
  · skip
    have e : i = 2 := by omega
    subst e
    have hn' : n = ((A ++ B).length : Int) := by rw [hn]; simp
    have hab : (A ++ B).length ≤ 2000 := by simp; omega
    subst hn'
    refine WP.exit <| WP.seq <| WP.region <| v0 (S0.move rfl) rfl <| ?_  -- op t24 := call F53{slices.Grow[[]string,string]}(Value.slice none 0 0, t23)
    refine vc (S1.callF rfl (grow_spec (show (A ++ B).length ≤ 1000000 by omega)) take0) rfl ?_
    rintro gv _ ⟨grow_, hgs, rfl⟩
    refine app ?_
    refine v0 (S0.assign rfl) rfl <| vE <| WP.seq <| WP.seq <| WP.region <| v0 (S0.move rfl) rfl <| v0 (S0.lenSl rfl) rfl <| v0 (S0.move rfl) rfl <| vE <| WP.block <| ?_  -- Code.loop
    refine WP.loop (fun st : Nat × Value × List Blk => st.1 ≤ 2 ∧ IsSl 9 1 st.2.1 (strs ((([A, B] : List (List Str)).take st.1).flatten)) st.2.2) (fun st : Nat × Value × List Blk => [(6, st.2.1), (25, .slice (some ⟨b0, 0, none⟩) 2 2), (26, .int .i64 2), (27, .int .i64 (st.1 : Int))]) (fun st : Nat × Value × List Blk => [st.2.2, [(b0, .cells ⟨CS⟩ 22 (0, 0))], c]) (fun st : Nat × Value × List Blk => 2 - st.1) ((0, gv, grow_)) (⟨Nat.zero_le _, hgs⟩) ⟨rfl, rfl, rfl, rfl, trivial⟩ ⟨_, (take1 at0 (take1 at0 (take1 at0 take0)))⟩ (fun st hinv => ?_) 
    obtain ⟨j, ov, row⟩ := st
    obtain ⟨hj, hsl⟩ := hinv
    dsimp only at hj hsl ⊢
    have hfj := hfl j hj
    refine WP.seq <| WP.region <| v0 (S0.cmp rfl rfl rfl) rfl <| vE <| WP.seq <| ?_  -- cond
    first | refine WP.condP rfl (fun h2 => ?_) (fun h2 => ?_) | refine WP.condN rfl (fun h2 => ?_) (fun h2 => ?_) | refine WP.cond rfl (fun h2 => ?_) (fun h2 => ?_)
    · skip
      have hlt : j < 2 := by omega
      obtain ⟨R, x, hRl, hRx, hgx, htk⟩ := hget j hlt
      refine WP.skip <| WP.seq <| WP.block <| WP.seq <| WP.region <| ?_  -- op t29 := indexAddr 45 t25 t27
      refine v0 (S0.index1 rfl rfl hlt) rfl <| ?_
      refine v0 (S0.load rfl hgx) rfl <| ?_
      refine v0 (S0.assign rfl) rfl <| vE <| WP.region <| v0 (S0.move rfl) rfl <| v0 (S0.move rfl) rfl <| ?_  -- op t33 := append(t31, t32) :[22, 22]
      refine ve (S1.appendRd rfl hsl rfl hRx (fun q hq => List.mem_flatten.2 ⟨_, by simp, hq⟩) at0 rfl (by rw [strs_len]; omega)) rfl ?_
      rintro v2 _ ⟨row2, hs2, rfl⟩
      refine v0 (S0.assign rfl) rfl <| vE <| WP.region <| v0 (S0.ari rfl rfl rfl (wrap_i64 (by omega))) rfl <| v0 (S0.move rfl) rfl <| vE <| ?_  -- roundend
      exact ⟨(j + 1, v2, row2), (by first | exact ⟨hlt, by show IsSl _ _ v2 (strs ((([A, B] : List (List Str)).take (j + 1)).flatten)) row2; rw [htk]; simpa [strs] using hs2⟩ | (dsimp only; exact ⟨hlt, by show IsSl _ _ v2 (strs ((([A, B] : List (List Str)).take (j + 1)).flatten)) row2; rw [htk]; simpa [strs] using hs2⟩)), (show 2 - (j + 1) < 2 - j by omega), ⟨⟨rfl, rfl, rfl, rfl, trivial⟩, rfl, rfl⟩, ⟨_, (take1 at0 (take1 at0 (take1 at0 take0)))⟩⟩
    · skip
      have e : j = 2 := by omega
      subst e
      refine WP.exit <| WP.seq <| WP.region <| v0 (S0.move rfl) rfl <| v0 (S0.assign rfl) rfl <| vE <| WP.ret <| ?_  -- ret
      refine r1 rfl rfl ?_
      refine ⟨row, ?_, rfl⟩
      simpa using hsl
theorem join_spec {va vb : Value} {A B : List Str} {c : List Blk} (ha : RdS va A c) (hb : RdS vb B c) (hal : A.length ≤ 500) (hbl : B.length ≤ 500) (hax : ∀ x ∈ A, x.length ≤ 1000) (hbx : ∀ x ∈ B, x.length ≤ 1000) :
    FN Tryd.prog 14 [va, vb] [c] (fun u h => ∃ row, IsSl 9 1 u (strs (leastS (A ++ B))) row ∧ h = [row, c]) := by
  have ha' := ha
  have hb' := hb
  obtain ⟨aa, ac, rfl, -, -⟩ := ha'
  obtain ⟨ba, bc, rfl, -, -⟩ := hb'
  refine FN.intro 10 [(0, .slice aa A.length ac), (1, .slice ba B.length bc)] Tryd.func14 rfl (enters Tryd.func14 (by kernel_rfl) rfl) Tryd.ntmps14 rfl rfl ?_
  refine WP.seq <| WP.region <| v0 (S0.assign rfl) rfl <| vE <| WP.seq <| WP.region <| v0 (S0.move rfl) rfl <| v0 (S0.move rfl) rfl <| vnv (S1.buildSlice rfl (qs := [(0, _), (1, _)]) rfl rfl) rfl fun b7 => ?_  -- op t8 := call F32{slices.Concat[[]string,string]}(t7)
  refine vc (S1.callF rfl (concat_spec ha hb (by omega) (by omega)) (take1 at0 (take1 at0 take0))) rfl ?_
  rintro u _ ⟨row, hs, rfl⟩
  refine app ?_
  -- (nothing to walk: op t9 := call F12{rivulet/cover.Least}(t8))
  refine vc (S1.callF rfl (least_spec hs.rdS (fun x hx => (List.mem_append.1 hx).elim (hax x) (hbx x)) (by simp; omega)) (take1 at0 take0)) rfl ?_
  rintro u2 _ ⟨row2, hs2, rfl⟩
  refine app ?_
  refine v0 (S0.assign rfl) rfl <| vE <| WP.ret <| ?_  -- ret
  refine Leaves.drop (take1 at0 (take1 (atS (atS at0)) take0)) ?_
  refine r1 rfl rfl ?_
  exact ⟨row2, hs2, rfl⟩
/-- of two chunks -/
theorem join2_spec {va vb : Value} {A B : List Str} {ca cb : List Blk} (ha : RdS va A ca) (hb : RdS vb B cb) (hal : A.length ≤ 500) (hbl : B.length ≤ 500) (hax : ∀ x ∈ A, x.length ≤ 1000) (hbx : ∀ x ∈ B, x.length ≤ 1000) :
    FN Tryd.prog 14 [va, vb] [ca, cb] (fun u h => ∃ row, IsSl 9 1 u (strs (leastS (A ++ B))) row ∧ h = [row, ca, cb]) :=
  FN.join (join_spec (ha.mono fun p hp => List.mem_append.2 (.inl hp)) (hb.mono fun p hp => List.mem_append.2 (.inr hp)) hal hbl hax hbx) (by simp) _ fun v h' ⟨row, hs, e⟩ => ⟨_, ⟨row, hs, rfl⟩, by rw [e]; simp⟩
end Go.Proofs.YtnoicafjkgbokaaDoor
