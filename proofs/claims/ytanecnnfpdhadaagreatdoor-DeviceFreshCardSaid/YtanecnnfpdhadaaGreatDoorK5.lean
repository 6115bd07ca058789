import Derived.Test.YtanecnnfpdhadaaGreatDoorK4
import Derived.Test.YtanecnnfpdhadaaGreatDoorK3
import Derived.Test.YtanecnnfpdhadaaGreatDoorK2
set_option linter.unusedSimpArgs false
set_option linter.unusedVariables false
set_option linter.unnecessarySimpa false
/- LetsD -/
namespace Go.Proofs.YtanecnnfpdhadaaGreatDoor
open Go

theorem any_upto {α : Type} {c : List α} {p : α → Bool} (h : ∀ j y, j < c.length → c[j]? = some y → p y = false) : c.any p = false := by
  rw [List.any_eq_false]
  intro y hy
  obtain ⟨j, hj, rfl⟩ := List.getElem_of_mem hy
  simp [h j _ hj (List.getElem?_eq_getElem hj)]
theorem lets1_spec {f s : Str} {b : Nat} (hf : f.length ≤ 1000000) (hs : s.length ≤ 1000000) : FN Tryz.prog 99 [sv f, .pointer (some ⟨b, 0, none⟩)] [[(b, cel [sv s] 9)]] (is (.bool (matchS f s)) [[(b, cel [sv s] 9)]]) := by
  refine FN.intro 7 [(0, sv f), (1, .pointer (some ⟨b, 0, none⟩))] Tryz.func99 rfl (enters Tryz.func99 (by kernel_rfl) rfl) Tryz.ntmps99 rfl rfl ?_
  refine WP.seq <| WP.region <| v0 (S0.assign rfl) rfl <| vE <| WP.seq <| WP.region <| v0 (S0.move rfl) rfl <| v0 (S0.load rfl rfl) rfl <| ?_  -- op t6 := call F100{rivulet/topic.Match}(t4, t5)
  refine vcd (S1.callF rfl (match_spec hf hs) take0) rfl ?_
  refine v0 (S0.assign rfl) rfl <| vE <| WP.ret <| ?_  -- ret
  refine r1 rfl rfl ⟨?_, rfl⟩
  rfl
theorem lets_spec {v : Value} {l : List Str} {row : List Blk} {s : Str} (hs : IsSl 9 1 v (strs l) row) (hl : l.length ≤ 1000000) (hx : ∀ x ∈ l, x.length ≤ 1000) (ht : s.length ≤ 1000) : FN Tryz.prog 76 [v, sv s] [row] (is (.bool (letsS l s)) [row]) := by
  refine FN.intro 8 [(0, v), (1, sv s)] Tryz.func76 rfl (enters Tryz.func76 (by kernel_rfl) rfl) Tryz.ntmps76 rfl rfl ?_
  refine WP.seq <| WP.region <| vn (S1.box rfl rfl) rfl fun b3 => v0 (S0.assign rfl) rfl <| vE <| WP.seq <| WP.region <| v0 (S0.move rfl) rfl <| v0 (S0.makeFunc rfl rfl) rfl <| ?_  -- op t7 := call F97{slices.ContainsFunc[[]string,string]}(t5, t6)
  refine vcd (S1.callF rfl (anyFuncS (p := fun f => matchS f s) hs hl (fun x hm => lets1_spec (by have := hx x hm; omega) (by omega))) (take1 (atS at0) (take1 at0 take0))) rfl ?_
  refine v0 (S0.assign rfl) rfl <| vE <| WP.ret <| ?_  -- ret
  refine Leaves.drop (take1 at0 take0) ?_
  refine r1 rfl rfl ⟨?_, rfl⟩
  rfl
theorem rlets_spec {v : Value} {l : List Str} {c : List Blk} {t : Str} (hr : RdS v l c) (hx : ∀ x ∈ l, x.length ≤ 1000) (ht : t.length ≤ 1000) (hl : l.length ≤ 1000) : FN Tryz.prog 27 [v, sv t] [c] (is (.bool (letsS l t)) [c]) := by
  obtain ⟨a, cap, rfl, hcap, hr⟩ := hr
  refine FN.intro 18 [(0, .slice a l.length cap), (1, sv t)] Tryz.func27 rfl (enters Tryz.func27 (by kernel_rfl) rfl) Tryz.ntmps27 rfl rfl ?_
  refine WP.seq <| WP.region <| v0 (S0.assign rfl) rfl <| vE <| WP.seq <| WP.seq <| WP.region <| v0 (S0.assign rfl) rfl <| vE <| WP.block <| ?_  -- Code.loop
  refine WP.loop (fun i : Nat => i ≤ l.length ∧ ∀ j y, j < i → l[j]? = some y → matchS y t = false) (fun i : Nat => [(0, .slice a l.length cap), (1, sv t), (5, .int .i64 (i : Int))]) (fun i : Nat => [c]) (fun i : Nat => l.length - i) (0) (⟨Nat.zero_le _, fun j y hj => by omega⟩) ⟨rfl, rfl, rfl, trivial⟩ ⟨_, (take1 at0 take0)⟩ (fun i hinv => ?_) 
  obtain ⟨hi, hno⟩ := hinv
  refine WP.seq <| WP.seq <| WP.region <| v0 (S0.move rfl) rfl <| v0 (S0.move rfl) rfl <| v0 (S0.lenSl rfl) rfl <| v0 (S0.cmp rfl rfl rfl) rfl <| vE <| ?_  -- cond
  first | refine WP.condP rfl (fun h1 => ?_) (fun h1 => ?_) | refine WP.condN rfl (fun h1 => ?_) (fun h1 => ?_) | refine WP.cond rfl (fun h1 => ?_) (fun h1 => ?_)
  · skip
    have hlt : i < l.length := by omega
    rcases hr with e | ⟨b1, o1, L1, U1, fz1, rfl, hm1, he1⟩
    · rw [e] at hlt; simp at hlt
    have : HasC c b1 (.cells ⟨L1⟩ U1 fz1) := ⟨hm1⟩
    have hg : l[i]? = some l[i] := by simp [hlt]
    have hxl := hx _ (List.getElem_mem hlt)
    generalize l[i] = x at hg hxl
    have hxe := he1 i x hg
    skip
    refine WP.skip <| WP.seq <| WP.block <| WP.seq <| WP.region <| v0 (S0.move rfl) rfl <| v0 (S0.move rfl) rfl <| ?_  -- op t14 := indexAddr 51 t12 t13
    refine v0 (S0.indexO1 rfl rfl hlt) rfl <| ?_
    refine v0 (S0.load rfl (rdS_get hxe)) rfl <| ?_
    refine v0 (S0.move rfl) rfl <| ?_  -- op t17 := call F62{rivulet/rivuletref03.Match}(t15, t16)
    refine vcd (S1.callF rfl (rmatch_spec (show x.length ≤ 800000 by omega) (show t.length ≤ 800000 by omega)) take0) rfl ?_
    refine vE <| ?_  -- cond
    first | refine WP.condP rfl (fun h2 => ?_) (fun h2 => ?_) | refine WP.condN rfl (fun h2 => ?_) (fun h2 => ?_) | refine WP.cond rfl (fun h2 => ?_) (fun h2 => ?_)
    · skip
      refine WP.seq <| WP.region <| v0 (S0.assign rfl) rfl <| vE <| WP.ret <| ?_  -- ret
      refine r1 rfl rfl ⟨?_, rfl⟩
      exact congrArg Value.bool (show letsS l t = true from List.any_eq_true.2 ⟨x, List.mem_of_getElem? hg, h2⟩).symm
    · skip
      refine WP.skip <| WP.region <| v0 (S0.move rfl) rfl <| v0 (S0.ari rfl rfl rfl (wrap_i64 (by omega))) rfl <| v0 (S0.assign rfl) rfl <| vE <| ?_  -- roundend
      exact ⟨i + 1, (by first | exact ⟨hlt, below_at (p := fun _ y => matchS y t = false) hno hg (by simpa using h2)⟩ | (dsimp only; exact ⟨hlt, below_at (p := fun _ y => matchS y t = false) hno hg (by simpa using h2)⟩)), (by omega), ⟨⟨rfl, rfl, rfl, trivial⟩, rfl, rfl⟩, ⟨_, (take1 at0 take0)⟩⟩
  · skip
    refine WP.exit <| WP.seq <| WP.region <| v0 (S0.assign rfl) rfl <| vE <| WP.ret <| ?_  -- ret
    refine r1 rfl rfl ⟨?_, rfl⟩
    exact congrArg Value.bool (show letsS l t = false from any_upto fun j y hj hy => hno j y (by omega) hy).symm
theorem rwithout_spec {lv mv : Value} {l m : List Str} {lc mc : List Blk} (hl : RdS lv l lc) (hm : RdS mv m mc) (hll : l.length ≤ 1000000) (hml : m.length ≤ 1000000) :
    FN Tryz.prog 31 [lv, mv] [lc, mc] (fun u h => ∃ row, IsSl 9 1 u (strs (withoutS l m)) row ∧ h = [row, lc, mc]) := by
  obtain ⟨la, lcap, rfl, -, hrl⟩ := hl
  obtain ⟨ma, mcap, rfl, -, hrm⟩ := hm
  refine FN.intro 44 [(0, .slice la l.length lcap), (1, .slice ma m.length mcap)] Tryz.func31 rfl (enters Tryz.func31 (by kernel_rfl) rfl) Tryz.ntmps31 rfl rfl ?_
  refine WP.seq <| WP.region <| v0 (S0.assign rfl) rfl <| vE <| WP.seq <| WP.region <| vnv (S1.buildSlice rfl (qs := []) rfl rfl) rfl fun b9 => v0 (S0.assign rfl) rfl <| vE <| WP.seq <| WP.seq <| WP.region <| v0 (S0.assign rfl) rfl <| vE <| WP.block <| ?_  -- Code.loop
  refine WP.loop (fun st : Nat × Value × List Blk => st.1 ≤ l.length ∧ IsSl 9 1 st.2.1 (strs (withoutS (l.take st.1) m)) st.2.2) (fun st : Nat × Value × List Blk => [(0, .slice la l.length lcap), (1, .slice ma m.length mcap), (5, st.2.1), (6, .int .i64 (st.1 : Int))]) (fun st : Nat × Value × List Blk => [st.2.2, lc, mc]) (fun st : Nat × Value × List Blk => l.length - st.1) ((0, _, [(b9, .cells ⟨[]⟩ 9 (0, 0))])) (⟨Nat.zero_le _, IsSl.row (n := 0) (c := 0) (l := []) (sp := []) rfl rfl (Nat.le_refl _)⟩) ⟨rfl, rfl, rfl, rfl, trivial⟩ ⟨_, (take1 at0 (take1 at0 (take1 at0 take0)))⟩ (fun st hinv => ?_) 
  obtain ⟨i, ov, row⟩ := st
  obtain ⟨hi, hsl⟩ := hinv
  dsimp only at hi hsl ⊢
  refine WP.seq <| WP.seq <| WP.region <| v0 (S0.move rfl) rfl <| v0 (S0.move rfl) rfl <| v0 (S0.lenSl rfl) rfl <| v0 (S0.cmp rfl rfl rfl) rfl <| vE <| ?_  -- cond
  first | refine WP.condP rfl (fun h1 => ?_) (fun h1 => ?_) | refine WP.condN rfl (fun h1 => ?_) (fun h1 => ?_) | refine WP.cond rfl (fun h1 => ?_) (fun h1 => ?_)
  · skip
    have hlt : i < l.length := by omega
    rcases hrl with e | ⟨b1, o1, L1, U1, fz1, rfl, hm1, he1⟩
    · rw [e] at hlt; simp at hlt
    have : HasC lc b1 (.cells ⟨L1⟩ U1 fz1) := ⟨hm1⟩
    have hx : l[i]? = some l[i] := by simp [hlt]
    generalize l[i] = x at hx
    have hxe := he1 i x hx
    have htk : l.take (i + 1) = l.take i ++ [x] := by rw [List.take_add_one, hx]; rfl
    have hfl := List.length_filter_le (fun x => !decide (x ∈ m)) (l.take i)
    have htl : (l.take i).length ≤ l.length := by simp; omega
    refine WP.skip <| WP.seq <| WP.block <| WP.seq <| WP.region <| v0 (S0.assign rfl) rfl <| vE <| WP.seq <| WP.seq <| WP.region <| v0 (S0.assign rfl) rfl <| vE <| WP.block <| ?_  -- Code.loop
    refine WP.loop (fun st : Nat × Bool => st.1 ≤ m.length ∧ st.2 = decide (x ∈ m.take st.1)) (fun st : Nat × Bool => [(0, .slice (some ⟨b1, o1, none⟩) l.length lcap), (1, .slice ma m.length mcap), (5, ov), (6, .int .i64 (i : Int)), (7, .bool st.2), (8, .int .i64 (st.1 : Int))]) (fun st : Nat × Bool => [row, lc, mc]) (fun st : Nat × Bool => m.length - st.1) ((0, false)) (⟨Nat.zero_le _, by simp⟩) ⟨rfl, rfl, rfl, rfl, rfl, rfl, trivial⟩ ⟨_, (take1 at0 (take1 at0 (take1 at0 take0)))⟩ (fun st hinv => ?_) 
    obtain ⟨k, inn⟩ := st
    obtain ⟨hk, hinn⟩ := hinv
    dsimp only at hk hinn ⊢
    refine WP.seq <| WP.seq <| WP.region <| v0 (S0.move rfl) rfl <| v0 (S0.move rfl) rfl <| v0 (S0.lenSl rfl) rfl <| v0 (S0.cmp rfl rfl rfl) rfl <| vE <| ?_  -- cond
    first | refine WP.condP rfl (fun h2 => ?_) (fun h2 => ?_) | refine WP.condN rfl (fun h2 => ?_) (fun h2 => ?_) | refine WP.cond rfl (fun h2 => ?_) (fun h2 => ?_)
    · skip
      have hlt2 : k < m.length := by omega
      rcases hrm with e | ⟨b2, o2, L2, U2, fz2, rfl, hm2, he2⟩
      · rw [e] at hlt2; simp at hlt2
      have : HasC mc b2 (.cells ⟨L2⟩ U2 fz2) := ⟨hm2⟩
      have hy : m[k]? = some m[k] := by simp [hlt2]
      generalize m[k] = y at hy
      have hye := he2 k y hy
      have hmk : m.take (k + 1) = m.take k ++ [y] := by rw [List.take_add_one, hy]; rfl
      skip
      refine WP.skip <| WP.seq <| WP.block <| WP.drawP [(0, none), (1, none), (2, none), (3, none), (4, none), (5, none), (6, none), (7, none), (8, none), (9, none), (10, none), (11, none), (12, none)] mixed (by kernel_rfl) (by kernel_rfl) (by kernel_rfl) (take1 (atS at0) (take1 (atS at0) take0)) <| w0 rfl rfl rfl (S0.move rfl) rfl <| w0 rfl rfl rfl (S0.move rfl) rfl <| ?_  -- guard t23 (wants False) at t24 := move t0 [if #1=False]
      skip
      cases inn with
      | true =>
        skip
        have hmem : x ∈ m.take k := of_decide_eq_true hinn.symm
        refine wcsTh (t := 23) rfl (rfl) ?_
        refine wF rfl rfl rfl rfl <| wF rfl rfl rfl rfl <| wF rfl rfl rfl rfl <| wF rfl rfl rfl rfl <| wF rfl rfl rfl rfl <| wF rfl rfl rfl rfl <| wF rfl rfl rfl rfl <| wF rfl rfl rfl rfl <| wF rfl rfl rfl rfl <| w0 rfl rfl rfl (S0.pickT rfl rfl) rfl <| w0 rfl rfl rfl (S0.assign rfl) rfl <| wE <| WP.region <| v0 (S0.move rfl) rfl <| v0 (S0.ari rfl rfl rfl (wrap_i64 (by omega))) rfl <| v0 (S0.assign rfl) rfl <| vE <| ?_  -- roundend
        exact ⟨(k + 1, true), (by first | exact ⟨hlt2, by simp [hmk, hmem]⟩ | (dsimp only; exact ⟨hlt2, by simp [hmk, hmem]⟩)), (show m.length - (k + 1) < m.length - k by omega), ⟨⟨rfl, rfl, rfl, rfl, rfl, rfl, trivial⟩, rfl, rfl⟩, ⟨_, (take1 (atS (atS at0)) (take1 at0 (take1 at0 take0)))⟩⟩
      | false =>
        skip
        have hmem : x ∉ m.take k := of_decide_eq_false hinn.symm
        refine wcsFh (t := 23) rfl (rfl) ?_
        refine w0 rfl rfl rfl (S0.move rfl) rfl <| w0 rfl rfl rfl (S0.move rfl) rfl <| ?_  -- op t26 := indexAddr 51 t24 t25 [if #1=False]
        refine w0 rfl rfl rfl (S0.indexO1 rfl rfl hlt) rfl <| ?_
        refine w0 rfl rfl rfl (S0.load rfl (rdS_get hxe)) rfl <| ?_
        refine w0 rfl rfl rfl (S0.move rfl) rfl <| w0 rfl rfl rfl (S0.move rfl) rfl <| ?_  -- op t30 := indexAddr 51 t28 t29 [if #1=False]
        refine w0 rfl rfl rfl (S0.indexO1 rfl rfl hlt2) rfl <| ?_
        refine w0 rfl rfl rfl (S0.load rfl (rdS_get hye)) rfl <| ?_
        refine w0 rfl rfl rfl (S0.cmpS rfl rfl rfl) rfl <| w0 rfl rfl rfl (S0.pickF rfl rfl) rfl <| w0 rfl rfl rfl (S0.assign rfl) rfl <| wE <| WP.region <| v0 (S0.move rfl) rfl <| v0 (S0.ari rfl rfl rfl (wrap_i64 (by omega))) rfl <| v0 (S0.assign rfl) rfl <| vE <| ?_  -- roundend
        exact ⟨(k + 1, decide (x = y)), (by first | exact ⟨hlt2, by simp [hmk, hmem]⟩ | (dsimp only; exact ⟨hlt2, by simp [hmk, hmem]⟩)), (show m.length - (k + 1) < m.length - k by omega), ⟨⟨rfl, rfl, rfl, rfl, rfl, rfl, trivial⟩, rfl, rfl⟩, ⟨_, (take1 (atS (atS at0)) (take1 at0 (take1 at0 take0)))⟩⟩
    · skip
      have hk' : m.take k = m := List.take_of_length_le (by omega)
      rw [hk'] at hinn
      subst hinn
      refine WP.exit <| WP.seq <| WP.region <| v0 (S0.move rfl) rfl <| v0 (S0.not rfl) rfl <| vE <| ?_  -- cond
      first | refine WP.condP rfl (fun h3 => ?_) (fun h3 => ?_) | refine WP.condN rfl (fun h3 => ?_) (fun h3 => ?_) | refine WP.cond rfl (fun h3 => ?_) (fun h3 => ?_)
      · skip
        have h3' : x ∉ m := by simpa using h3
        skip
        refine WP.region <| v0 (S0.move rfl) rfl <| v0 (S0.move rfl) rfl <| v0 (S0.move rfl) rfl <| ?_  -- op t39 := indexAddr 51 t37 t38
        refine v0 (S0.indexO1 rfl rfl hlt) rfl <| ?_
        refine v0 (S0.load rfl (rdS_get hxe)) rfl <| ?_
        refine vnv (S1.buildSlice rfl (qs := [(0, _)]) rfl rfl) rfl fun b41 => ?_  -- op t42 := append(t36, t41) :[51, 51]
        refine ve (S1.appendL rfl hsl rfl rfl (atS at0) rfl rfl (by rw [strs_len]; unfold withoutS; simp; omega)) rfl ?_
        rintro v2 _ ⟨row2, hsl2, rfl⟩
        refine v0 (S0.assign rfl) rfl <| vE <| WP.region <| v0 (S0.move rfl) rfl <| v0 (S0.ari rfl rfl rfl (wrap_i64 (by omega))) rfl <| v0 (S0.assign rfl) rfl <| vE <| ?_  -- roundend
        exact ⟨(i + 1, v2, row2), (by first | exact ⟨hlt, by rw [htk]; simpa [withoutS, h3', strs] using hsl2⟩ | (dsimp only; exact ⟨hlt, by rw [htk]; simpa [withoutS, h3', strs] using hsl2⟩)), (show l.length - (i + 1) < l.length - i by omega), ⟨⟨rfl, rfl, rfl, rfl, trivial⟩, rfl, rfl⟩, ⟨_, (take1 at0 (take1 (atS at0) (take1 (atS at0) take0)))⟩⟩
      · skip
        have h3' : x ∈ m := by simpa using h3
        refine WP.skip <| WP.region <| v0 (S0.move rfl) rfl <| v0 (S0.ari rfl rfl rfl (wrap_i64 (by omega))) rfl <| v0 (S0.assign rfl) rfl <| vE <| ?_  -- roundend
        exact ⟨(i + 1, ov, row), (by first | exact ⟨hlt, by rw [htk]; simpa [withoutS, h3'] using hsl⟩ | (dsimp only; exact ⟨hlt, by rw [htk]; simpa [withoutS, h3'] using hsl⟩)), (show l.length - (i + 1) < l.length - i by omega), ⟨⟨rfl, rfl, rfl, rfl, trivial⟩, rfl, rfl⟩, ⟨_, (take1 at0 (take1 at0 (take1 at0 take0)))⟩⟩
  · skip
    have e : i = l.length := by omega
    subst e
    rw [List.take_length] at hsl
    refine WP.exit <| WP.seq <| WP.region <| v0 (S0.move rfl) rfl <| v0 (S0.assign rfl) rfl <| vE <| WP.ret <| ?_  -- ret
    refine r1 rfl rfl ?_
    exact ⟨row, hsl, rfl⟩
theorem clone_any {v : Value} {l : List Str} {row : List Blk} (hs : RdS v l row) (hl : l.length ≤ 1000000) : FN Tryz.prog 42 [v] [row] (fun u h => ∃ row2, IsSl 9 1 u (strs l) row2 ∧ h = [row2, row]) := by
  obtain ⟨a, cap, rfl, hcap, hr⟩ := hs
  refine FN.intro 8 [(0, .slice a l.length cap)] Tryz.func42 rfl (enters Tryz.func42 (by kernel_rfl) rfl) Tryz.ntmps42 rfl rfl ?_
  skip
  cases a with
  | none =>
    have hl0 : l = [] := hr.elim id fun ⟨b, o, L, U, fz, e, _⟩ => by cases e
    subst hl0
    skip
    refine WP.perm (h' := [[], row]) (k := []) (by simp) ?_
    refine WP.seq <| WP.region <| v0 (S0.assign rfl) rfl <| vE <| WP.seq <| WP.seq <| WP.region <| v0 (S0.move rfl) rfl <| v0 (S0.nilSl rfl rfl rfl) rfl <| vE <| ?_  -- cond
    refine WP.condTh rfl (rfl) ?_
    refine WP.seq <| WP.region <| v0 (S0.assign rfl) rfl <| vE <| WP.ret <| ?_  -- ret
    refine r1 rfl rfl ?_
    exact ⟨[], IsSl.nil, rfl⟩
  | some a =>
    skip
    refine WP.seq <| WP.region <| v0 (S0.assign rfl) rfl <| vE <| WP.seq <| WP.seq <| WP.region <| v0 (S0.move rfl) rfl <| v0 (S0.nilSl rfl rfl rfl) rfl <| vE <| ?_  -- cond
    refine WP.condFh rfl (rfl) ?_
    refine WP.skip <| WP.seq <| WP.region <| vnv (S1.buildSlice rfl (qs := []) rfl rfl) rfl fun b5 => v0 (S0.move rfl) rfl <| ?_  -- op t7 := append(t5, t6) :[51, 51]
    refine ve (S1.appendRd (R := l) rfl (IsSl.row (n := 0) (c := 0) (l := []) (sp := []) rfl rfl (Nat.le_refl _)) rfl ⟨some a, cap, rfl, hcap, hr⟩ (fun q hq => List.mem_flatten.2 ⟨_, by simp, hq⟩) at0 rfl (by simp; omega)) rfl ?_
    rintro v2 _ ⟨row2, hsl2, rfl⟩
    rw [List.nil_append] at hsl2
    refine v0 (S0.assign rfl) rfl <| vE <| WP.ret <| ?_  -- ret
    refine r1 rfl rfl ?_
    exact ⟨row2, hsl2, rfl⟩
end Go.Proofs.YtanecnnfpdhadaaGreatDoor
/- D5 -/
namespace Go.Proofs.YtanecnnfpdhadaaGreatDoor
open Go

def fltD (S : DS) (i : Int) : List Str := match findD S i with | some y => y.F | none => []
def mrkD (S : DS) (i : Int) : List MkT := match findD S i with | some y => y.M | none => []
theorem rc_mem {D : DL} {i : Int} {x : Rc} {c : List Blk} (hR : getR D i = some x) (hc : ∀ z ∈ dblks 72 D, z ∈ c) : HasC c x.b (.cells ⟨[x.v, .map (some x.mm)]⟩ 72 (0, 0)) ∧ HasC c x.mm (mapO (Value.int .i64) x.A x.ck) ∧ ∀ z ∈ x.row, z ∈ c := by
  have h := fun z hz => hc z (getR_mem 72 hR z hz)
  exact ⟨⟨h _ (by simp [Rc.blks])⟩, ⟨h _ (by simp [Rc.blks])⟩, fun z hz => h z (by simp [Rc.blks, hz])⟩
theorem mk_getD (o : Option Int) : (o.map (Value.int .i64)).getD (.int .i64 0) = .int .i64 (o.getD 0) := by cases o <;> rfl

theorem ids_spec {db : Nat} {S : DS} {c : List Blk} (h : IsDev db S c) (ho : DevOk S) :
    FN Tryz.prog 33 [.pointer (some ⟨db, 0, none⟩)] [c] (fun u h => ∃ row, IsSl 3 1 u (ints (S.map (·.i))) row ∧ h = [row, c]) := by
  obtain ⟨D, m, cm, hw, hm, rfl⟩ := h
  have hlen := hm.len hw ho.asc
  have hl := ho.len
  refine FN.intro 9 [(0, .pointer (some ⟨db, 0, none⟩))] Tryz.func33 rfl (enters Tryz.func33 (by kernel_rfl) rfl) Tryz.ntmps33 rfl rfl ?_
  refine WP.seq <| WP.region <| v0 (S0.assign rfl) rfl <| vE <| WP.seq <| WP.region <| v0 (S0.move rfl) rfl <| v0 (S0.nilCheck rfl) rfl <| v0 (S0.fieldAddr rfl) rfl <| v0 (S0.load rfl rfl) rfl <| ?_  -- op t7 := call F68{maps.Keys[map[int]*rivulet/device.one,int,*rivulet/device.one]}(t6)
  refine vc (S1.callF rfl (keysD_spec m) take0) rfl ?_
  rintro _ _ ⟨bx, rfl, rfl⟩
  refine app ?_
  -- (nothing to walk: op t8 := call F60{slices.Sorted[int]}(t7))
  refine vc (S1.callF rfl (sortedD_keys (m := m) (L := dml D) (ck := cm) hw (by omega)) (take1 at0 (take1 at0 take0))) rfl ?_
  rintro v _ ⟨xs, row, hp, hs, rfl⟩
  refine app ?_
  rw [hm.sort hw ho.asc hp] at hs
  refine v0 (S0.assign rfl) rfl <| vE <| WP.ret <| ?_  -- ret
  refine r1 rfl rfl ?_
  exact ⟨row, hs, rfl⟩
theorem filters_spec {db : Nat} {S : DS} {c : List Blk} (h : IsDev db S c) (ho : DevOk S) (i : Int) :
    FN Tryz.prog 26 [.pointer (some ⟨db, 0, none⟩), .int .i64 i] [c] (fun u h => ∃ row, IsSl 9 1 u (strs (fltD S i)) row ∧ h = [row, c]) := by
  obtain ⟨D, m, cm, hw, hm, hc⟩ := h
  have i1 : HasC c db (cel [.map (some m)] 68) := ⟨by rw [hc]; simp⟩
  have i2 : HasC c m (mapO (Value.int .i64) (dml D) cm) := ⟨by rw [hc]; simp⟩
  refine FN.intro 22 [(0, .pointer (some ⟨db, 0, none⟩)), (1, .int .i64 i)] Tryz.func26 rfl (enters Tryz.func26 (by kernel_rfl) rfl) Tryz.ntmps26 rfl rfl ?_
  refine WP.seq <| WP.region <| v0 (S0.assign rfl) rfl <| vE <| WP.seq <| WP.seq <| WP.region <| v0 (S0.move rfl) rfl <| v0 (S0.nilCheck rfl) rfl <| v0 (S0.fieldAddr rfl) rfl <| v0 (S0.load rfl rfl) rfl <| v0 (S0.move rfl) rfl <| ?_  -- op t10 := lookup 66 t8 t9 false
  skip
  cases hf : findD S i with
  | none =>
    skip
    refine v0 (S0.lookupZ (ek := Value.int .i64) (k := i) rfl rfl (by rw [dml_get, hm.none.2 hf]; rfl)) rfl <| ?_
    refine v0 (S0.nilP rfl rfl rfl rfl) rfl <| vE <| ?_  -- cond
    refine WP.condTh rfl (rfl) ?_
    refine WP.seq <| WP.region <| v0 (S0.assign rfl) rfl <| vE <| WP.ret <| ?_  -- ret
    refine Leaves.drop (h' := [[], c]) (k := []) (by simp) ?_
    refine r1 rfl rfl ?_
    have e : fltD S i = [] := by unfold fltD; rw [hf]
    rw [e]; exact ⟨[], IsSl.nil, rfl⟩
  | some y =>
    skip
    obtain ⟨x, hR, hx⟩ := hm.some hf
    have hoy := ho.all y (find_mem hf).1
    have hlF := hoy.lF
    obtain ⟨i3, i4, hrow⟩ := rc_mem (c := c) hR (fun z hz => by rw [hc]; simp [hz])
    refine v0 (S0.lookupS (ek := Value.int .i64) (k := i) (v := .pointer (some ⟨x.b, 0, none⟩)) rfl rfl (by rw [dml_get, hR]; rfl)) rfl <| ?_
    refine v0 (S0.nilP rfl rfl rfl rfl) rfl <| vE <| ?_  -- cond
    refine WP.condFh rfl (rfl) ?_
    refine WP.skip <| WP.seq <| WP.region <| v0 (S0.move rfl) rfl <| v0 (S0.nilCheck rfl) rfl <| v0 (S0.fieldAddr rfl) rfl <| v0 (S0.load rfl rfl) rfl <| v0 (S0.move rfl) rfl <| ?_  -- op t17 := lookup 66 t15 t16 false
    refine v0 (S0.lookupS (ek := Value.int .i64) (k := i) (v := .pointer (some ⟨x.b, 0, none⟩)) rfl rfl (by rw [dml_get, hR]; rfl)) rfl <| ?_
    refine v0 (S0.nilCheck rfl) rfl <| v0 (S0.fieldAddr rfl) rfl <| v0 (S0.load rfl rfl) rfl <| ?_  -- op t21 := call F42{slices.Clone[[]string,string]}(t20)
    refine vc (S1.callF rfl (clone_any (hx.sl.rdS.mono hrow) (by omega)) (take1 at0 take0)) rfl ?_
    rintro v2 _ ⟨row2, hs2, rfl⟩
    refine app ?_
    refine v0 (S0.assign rfl) rfl <| vE <| WP.ret <| ?_  -- ret
    refine r1 rfl rfl ?_
    have e : fltD S i = y.F := by unfold fltD; rw [hf]
    rw [e]; exact ⟨row2, hs2, rfl⟩
theorem mrks_spec {db : Nat} {S : DS} {c : List Blk} (h : IsDev db S c) (ho : DevOk S) (i : Int) :
    FN Tryz.prog 25 [.pointer (some ⟨db, 0, none⟩), .int .i64 i] [c] (fun u h => ∃ row, IsSl 54 2 u ((mrkD S i).flatMap enM) row ∧ h = [row, c]) := by
  obtain ⟨D, m, cm, hw, hm, hc⟩ := h
  have i1 : HasC c db (cel [.map (some m)] 68) := ⟨by rw [hc]; simp⟩
  have i2 : HasC c m (mapO (Value.int .i64) (dml D) cm) := ⟨by rw [hc]; simp⟩
  refine FN.intro 41 [(0, .pointer (some ⟨db, 0, none⟩)), (1, .int .i64 i)] Tryz.func25 rfl (enters Tryz.func25 (by kernel_rfl) rfl) Tryz.ntmps25 rfl rfl ?_
  refine WP.seq <| WP.region <| v0 (S0.assign rfl) rfl <| vE <| WP.seq <| WP.region <| v0 (S0.move rfl) rfl <| v0 (S0.nilCheck rfl) rfl <| v0 (S0.fieldAddr rfl) rfl <| v0 (S0.load rfl rfl) rfl <| v0 (S0.move rfl) rfl <| ?_  -- op t14 := lookup 66 t12 t13 false
  skip
  cases hf : findD S i with
  | none =>
    skip
    refine v0 (S0.lookupZ (ek := Value.int .i64) (k := i) rfl rfl (by rw [dml_get, hm.none.2 hf]; rfl)) rfl <| ?_
    refine v0 (S0.assign rfl) rfl <| vE <| WP.seq <| WP.seq <| WP.region <| v0 (S0.move rfl) rfl <| v0 (S0.nilP rfl rfl rfl rfl) rfl <| vE <| ?_  -- cond
    refine WP.condTh rfl (rfl) ?_
    refine WP.seq <| WP.region <| v0 (S0.assign rfl) rfl <| vE <| WP.ret <| ?_  -- ret
    refine Leaves.drop (h' := [[], c]) (k := []) (by simp) ?_
    refine r1 rfl rfl ?_
    have e : mrkD S i = [] := by unfold mrkD; rw [hf]
    rw [e]; exact ⟨[], IsSl.nil, rfl⟩
  | some y =>
    skip
    have e : mrkD S i = y.M := by unfold mrkD; rw [hf]
    rw [e]
    obtain ⟨x, hR, hx⟩ := hm.some hf
    have hoy := ho.all y (find_mem hf).1
    obtain ⟨hris, hmb, hlM⟩ := sortedM_iff.1 hoy.ms
    have hlA := hx.len hris
    obtain ⟨i3, i4, -⟩ := rc_mem (c := c) hR (fun z hz => by rw [hc]; simp [hz])
    refine v0 (S0.lookupS (ek := Value.int .i64) (k := i) (v := .pointer (some ⟨x.b, 0, none⟩)) rfl rfl (by rw [dml_get, hR]; rfl)) rfl <| ?_
    refine v0 (S0.assign rfl) rfl <| vE <| WP.seq <| WP.seq <| WP.region <| v0 (S0.move rfl) rfl <| v0 (S0.nilP rfl rfl rfl rfl) rfl <| vE <| ?_  -- cond
    refine WP.condFh rfl (rfl) ?_
    refine WP.skip <| WP.seq <| WP.region <| v0 (S0.assign rfl) rfl <| vE <| WP.seq <| WP.seq <| WP.region <| v0 (S0.move rfl) rfl <| v0 (S0.nilCheck rfl) rfl <| v0 (S0.fieldAddr rfl) rfl <| v0 (S0.load rfl rfl) rfl <| ?_  -- op t21 := call F61{maps.Keys[map[int]int,int,int]}(t20)
    refine vc (S1.callF rfl (keys_spec x.mm) take0) rfl ?_
    rintro _ _ ⟨bx, rfl, rfl⟩
    refine app ?_
    -- (nothing to walk: op t22 := call F60{slices.Sorted[int]}(t21))
    refine vc (S1.callF rfl (sorted_keys (m := x.mm) (L := x.A) (ck := x.ck) hx.wf (by omega)) (take1 at0 (take1 at0 take0))) rfl ?_
    rintro v _ ⟨xs, row, hp, hs, rfl⟩
    refine app ?_
    rw [hx.sort hris hp] at hs
    have hML : (y.M.map (·.1)).length = y.M.length := List.length_map _
    obtain ⟨a, cap, rfl, hcap, hrow⟩ := hs.intsE
    refine WO.perm (h' := [[], row, c]) (k := []) (by simp) ?_
    refine v0 (S0.lenSl rfl) rfl <| v0 (S0.move rfl) rfl <| vE <| WP.block <| ?_  -- Code.loop
    refine WP.loop (fun s : Nat × Value × List Blk => s.1 ≤ y.M.length ∧ IsSl 54 2 s.2.1 ((y.M.take s.1).flatMap enM) s.2.2) (fun s : Nat × Value × List Blk => [(5, .pointer (some ⟨x.b, 0, none⟩)), (6, s.2.1), (22, .slice a (y.M.map (·.1)).length cap), (23, .int .i64 ((y.M.map (·.1)).length : Int)), (24, .int .i64 (s.1 : Int))]) (fun s : Nat × Value × List Blk => [s.2.2, row, c]) (fun s : Nat × Value × List Blk => y.M.length - s.1) ((0, .slice none 0 0, [])) (⟨Nat.zero_le _, IsSl.nil⟩) ⟨rfl, rfl, rfl, rfl, rfl, trivial⟩ ⟨_, (take1 at0 (take1 at0 (take1 at0 take0)))⟩ (fun s hinv => ?_) 
    obtain ⟨k, ov, orow⟩ := s
    obtain ⟨hk, hos⟩ := hinv
    dsimp only at hk hos ⊢
    refine WP.seq <| WP.region <| v0 (S0.cmp rfl rfl rfl) rfl <| vE <| WP.seq <| ?_  -- cond
    first | refine WP.condP rfl (fun h1 => ?_) (fun h1 => ?_) | refine WP.condN rfl (fun h1 => ?_) (fun h1 => ?_) | refine WP.cond rfl (fun h1 => ?_) (fun h1 => ?_)
    · skip
      have hlt : k < y.M.length := by omega
      have hz : y.M[k]? = some y.M[k] := by simp [hlt]
      have hzm := hmb _ (List.getElem_mem hlt)
      have hgz := mkO_of hris (List.getElem_mem hlt)
      generalize y.M[k] = z at hz hzm hgz
      have hiz : (y.M.map (·.1))[k]? = some z.1 := by simp [hz]
      rcases hrow with ⟨e, -⟩ | ⟨b1, sp1, rfl, rfl, hsp1⟩
      · have := congrArg List.length e; simp at this; rw [this] at hlt; simp at hlt
      refine WP.skip <| WP.seq <| WP.block <| WP.seq <| WP.region <| ?_  -- op t26 := indexAddr 38 t22 t24
      refine v0 (S0.index1 rfl rfl (by omega)) rfl <| ?_
      refine v0 (S0.load rfl (ints_get hiz)) rfl <| ?_
      refine v0 (S0.assign rfl) rfl <| vE <| WP.region <| v0 (S0.move rfl) rfl <| v0 (S0.move rfl) rfl <| v0 (S0.move rfl) rfl <| v0 (S0.nilCheck rfl) rfl <| v0 (S0.fieldAddr rfl) rfl <| v0 (S0.load rfl rfl) rfl <| v0 (S0.move rfl) rfl <| ?_  -- op t35 := lookup 70 t33 t34 false
      refine v0 (S0.lookupS (ek := Value.int .i64) (k := z.1) (v := .int .i64 z.2) rfl rfl (by rw [hx.ms, hgz]; rfl)) rfl <| ?_
      refine v0 (S0.build rfl (qs := [(0, _), (1, _)]) rfl) rfl <| vnv (S1.buildSlice rfl (qs := [(0, _)]) rfl rfl) rfl fun b37 => ?_  -- op t38 := append(t28, t37) :[49, 49]
      refine ve (S1.appendL rfl hos rfl rfl (atS at0) rfl rfl (by rw [flat_len enM_len]; simp; omega)) rfl ?_
      rintro v2 _ ⟨row2, hs2, rfl⟩
      refine v0 (S0.assign rfl) rfl <| vE <| WP.region <| v0 (S0.ari rfl rfl rfl (wrap_i64 (by omega))) rfl <| v0 (S0.move rfl) rfl <| vE <| ?_  -- roundend
      have hs3 : IsSl 54 2 v2 ((y.M.take (k + 1)).flatMap enM) row2 := by
        rw [List.take_add_one, hz]; simpa using hs2
      exact ⟨(k + 1, v2, row2), (by first | exact ⟨hlt, hs3⟩ | (dsimp only; exact ⟨hlt, hs3⟩)), (show y.M.length - (k + 1) < y.M.length - k by omega), ⟨⟨rfl, rfl, rfl, rfl, rfl, trivial⟩, rfl, rfl⟩, ⟨_, (take1 at0 (take1 (atS at0) (take1 (atS at0) take0)))⟩⟩
    · skip
      have hk2 : k = y.M.length := by omega
      subst hk2
      rw [List.take_length] at hos
      refine WP.exit <| WP.seq <| WP.region <| v0 (S0.move rfl) rfl <| v0 (S0.assign rfl) rfl <| vE <| WP.ret <| ?_  -- ret
      refine Leaves.drop (take1 at0 (take1 (atS at0) take0)) ?_
      refine r1 rfl rfl ?_
      exact ⟨orow, hos, rfl⟩
theorem takes_spec {x : Rc} {y : Dv} (hx : x.is 9 y) (hoy : DvOk y) {e : Ev} (ht : e.t.length ≤ 120) :
    FN Tryz.prog 45 [.pointer (some ⟨x.b, 0, none⟩), .agg ⟨evB e⟩] [[(x.b, .cells ⟨[x.v, .map (some x.mm)]⟩ 72 (0, 0))], [(x.mm, mapO (Value.int .i64) x.A x.ck)], x.row]
      (is (.bool (takesD y e)) [[(x.b, .cells ⟨[x.v, .map (some x.mm)]⟩ 72 (0, 0))], [(x.mm, mapO (Value.int .i64) x.A x.ck)], x.row]) := by
  obtain ⟨hris, hmb, hlM⟩ := sortedM_iff.1 hoy.ms
  have hlA := hx.len hris
  have hsz : (⟨x.A.map (entM (Value.int .i64))⟩ : Array MapEntry).size = y.M.length := by simpa using hlA
  have hlF := hoy.lF
  have hxF : ∀ z ∈ y.F, z.length ≤ 1000 := fun z hz => by have := filt_len (hoy.fF z hz); omega
  refine FN.intro 41 [(0, .pointer (some ⟨x.b, 0, none⟩)), (1, .agg ⟨evB e⟩)] Tryz.func45 rfl (enters Tryz.func45 (by kernel_rfl) rfl) Tryz.ntmps45 rfl rfl ?_
  skip
  refine WP.seq <| WP.region <| vn (S1.box rfl rfl) rfl fun b3 => v0 (S0.assign rfl) rfl <| vE <| WP.seq <| WP.drawP [(0, none), (1, none), (2, none), (3, none), (4, none), (5, none), (6, none), (7, none), (8, none), (9, none), (10, none), (11, none)] mixed (by kernel_rfl) (by kernel_rfl) (by kernel_rfl) (take1 at0 (take1 at0 (take1 at0 (take1 at0 take0)))) <| w0 rfl rfl rfl (S0.move rfl) rfl <| w0 rfl rfl rfl (S0.nilCheck rfl) rfl <| w0 rfl rfl rfl (S0.fieldAddr rfl) rfl <| w0 rfl rfl rfl (S0.load rfl rfl) rfl <| w0 rfl rfl rfl (S0.fieldAddr rfl) rfl <| w0 rfl rfl rfl (S0.load rfl rfl) rfl <| ?_  -- op t14 := lookup 70 t11 t13 true
  refine w0 rfl rfl rfl (S0.lookup2 (ek := Value.int .i64) (k := e.o) rfl rfl) rfl <| ?_
  rw [hx.ms, mk_getD, Option.isSome_map]
  skip
  refine w0 rfl rfl rfl (S0.move rfl) rfl <| w0 rfl rfl rfl (S0.extract rfl rfl) rfl <| w0 rfl rfl rfl (S0.extract rfl rfl) rfl <| w0 rfl rfl rfl (S0.assign rfl) rfl <| w0 rfl rfl rfl (S0.assign rfl) rfl <| wE <| WP.seq <| WP.drawP [(0, none), (1, none), (2, none), (3, none), (4, none), (5, none), (6, none), (7, none), (8, none), (9, none), (10, none), (11, none), (12, none), (13, none), (14, none), (15, none), (16, none), (17, none), (18, none), (19, none), (20, none), (21, none), (22, none), (23, none), (24, none)] mixed (by kernel_rfl) (by kernel_rfl) (by kernel_rfl) (take1 at0 (take1 at0 (take1 at0 (take1 at0 take0)))) <| w0 rfl rfl rfl (S0.move rfl) rfl <| w0 rfl rfl rfl (S0.nilCheck rfl) rfl <| w0 rfl rfl rfl (S0.fieldAddr rfl) rfl <| w0 rfl rfl rfl (S0.load rfl rfl) rfl <| w0 rfl rfl rfl (S0.fieldAddr rfl) rfl <| w0 rfl rfl rfl (S0.load rfl rfl) rfl <| ?_  -- op t23 := call F76{rivulet/cover.Lets}(t20, t22)
  refine wcS rfl rfl rfl rfl (S1.callF rfl (lets_spec hx.sl (by omega) hxF (show e.t.length ≤ 1000 by omega)) (take1 (atS (atS (atS at0))) take0)) rfl (take1 (atS at0) (take1 (atS at0) (take1 (atS at0) (take1 at0 take0)))) ?_
  refine w0 rfl rfl rfl (S0.move rfl) rfl <| ?_
  first | refine wcsP (t := 24) rfl (fun hq0 => ?_) (fun hq0 => ?_) | refine wcsN (t := 24) rfl (fun hq0 => ?_) (fun hq0 => ?_) | refine wcs (t := 24) rfl (fun hq0 => ?_) (fun hq0 => ?_)
  ·
    refine w0 rfl rfl rfl (S0.move rfl) rfl <| w0 rfl rfl rfl (S0.fieldAddr rfl) rfl <| w0 rfl rfl rfl (S0.load rfl rfl) rfl <| w0 rfl rfl rfl (S0.cmp rfl rfl rfl) rfl <| w0 rfl rfl rfl (S0.pickT rfl rfl) rfl <| w0 rfl rfl rfl (S0.move rfl) rfl <| ?_
    first | refine wcsP (t := 30) rfl (fun hq1 => ?_) (fun hq1 => ?_) | refine wcsN (t := 30) rfl (fun hq1 => ?_) (fun hq1 => ?_) | refine wcs (t := 30) rfl (fun hq1 => ?_) (fun hq1 => ?_)
    ·
      refine w0 rfl rfl rfl (S0.move rfl) rfl <| w0 rfl rfl rfl (S0.move rfl) rfl <| ?_
      first | refine wcsP (t := 32) rfl (fun hq2 => ?_) (fun hq2 => ?_) | refine wcsN (t := 32) rfl (fun hq2 => ?_) (fun hq2 => ?_) | refine wcs (t := 32) rfl (fun hq2 => ?_) (fun hq2 => ?_)
      ·
        refine wF rfl rfl rfl rfl <| wF rfl rfl rfl rfl <| wF rfl rfl rfl rfl <| wF rfl rfl rfl rfl <| wF rfl rfl rfl rfl <| wF rfl rfl rfl rfl <| w0 rfl rfl rfl (S0.pickT rfl rfl) rfl <| w0 rfl rfl rfl (S0.pickT rfl rfl) rfl <| w0 rfl rfl rfl (S0.assign rfl) rfl <| wE <| WP.ret <| ?_
        refine Leaves.drop (take1 (atS at0) (take1 (atS at0) (take1 (atS at0) take0))) ?_
        refine r1 rfl rfl ⟨?_, rfl⟩
        exact congrArg Value.bool (by simp [takesD, hsz, *]; try omega)
      ·
        refine w0 rfl rfl rfl (S0.move rfl) rfl <| w0 rfl rfl rfl (S0.nilCheck rfl) rfl <| w0 rfl rfl rfl (S0.fieldAddr rfl) rfl <| w0 rfl rfl rfl (S0.load rfl rfl) rfl <| w0 rfl rfl rfl (S0.lenM rfl) rfl <| w0 rfl rfl rfl (S0.cmp rfl rfl rfl) rfl <| w0 rfl rfl rfl (S0.pickF rfl rfl) rfl <| w0 rfl rfl rfl (S0.pickT rfl rfl) rfl <| w0 rfl rfl rfl (S0.assign rfl) rfl <| wE <| WP.ret <| ?_
        refine Leaves.drop (take1 (atS at0) (take1 (atS at0) (take1 (atS at0) take0))) ?_
        refine r1 rfl rfl ⟨?_, rfl⟩
        exact congrArg Value.bool (by simp [takesD, hsz, *]; try omega)
    ·
      refine wF rfl rfl rfl rfl <| wF rfl rfl rfl rfl <| wF rfl rfl rfl rfl <| wF rfl rfl rfl rfl <| wF rfl rfl rfl rfl <| wF rfl rfl rfl rfl <| wF rfl rfl rfl rfl <| wF rfl rfl rfl rfl <| wF rfl rfl rfl rfl <| w0 rfl rfl rfl (S0.pickF rfl rfl) rfl <| w0 rfl rfl rfl (S0.assign rfl) rfl <| wE <| WP.ret <| ?_
      refine Leaves.drop (take1 (atS at0) (take1 (atS at0) (take1 (atS at0) take0))) ?_
      refine r1 rfl rfl ⟨?_, rfl⟩
      exact congrArg Value.bool (by simp [takesD, hsz, *]; try omega)
  ·
    refine wF rfl rfl rfl rfl <| wF rfl rfl rfl rfl <| wF rfl rfl rfl rfl <| wF rfl rfl rfl rfl <| w0 rfl rfl rfl (S0.pickF rfl rfl) rfl <| w0 rfl rfl rfl (S0.move rfl) rfl <| wF rfl rfl rfl rfl <| wF rfl rfl rfl rfl <| wF rfl rfl rfl rfl <| wF rfl rfl rfl rfl <| wF rfl rfl rfl rfl <| wF rfl rfl rfl rfl <| wF rfl rfl rfl rfl <| wF rfl rfl rfl rfl <| wF rfl rfl rfl rfl <| w0 rfl rfl rfl (S0.pickF rfl rfl) rfl <| w0 rfl rfl rfl (S0.assign rfl) rfl <| wE <| WP.ret <| ?_
    refine Leaves.drop (take1 (atS at0) (take1 (atS at0) (take1 (atS at0) take0))) ?_
    refine r1 rfl rfl ⟨?_, rfl⟩
    exact congrArg Value.bool (by simp [takesD, hsz, *]; try omega)
end Go.Proofs.YtanecnnfpdhadaaGreatDoor
/- Ev -/
namespace Go.Proofs.YtanecnnfpdhadaaGreatDoor
open Go

theorem within_spec (n a b : Int) : FN Tryz.prog 74 [.int .i64 n, .int .i64 a, .int .i64 b] [] (is (.bool (inB n a b)) []) := by
  refine FN.intro 15 [(0, .int .i64 n), (1, .int .i64 a), (2, .int .i64 b)] Tryz.func74 rfl (enters Tryz.func74 (by kernel_rfl) rfl) Tryz.ntmps74 rfl rfl ?_
  refine WP.seq <| WP.region <| v0 (S0.assign rfl) rfl <| vE <| WP.seq <| WP.region <| v0 (S0.move rfl) rfl <| v0 (S0.move rfl) rfl <| v0 (S0.cmp rfl rfl rfl) rfl <| v0 (S0.move rfl) rfl <| ?_
  first | refine csP (t := 10) rfl (fun hq0 => ?_) (fun hq0 => ?_) | refine csN (t := 10) rfl (fun hq0 => ?_) (fun hq0 => ?_) | refine cs (t := 10) rfl (fun hq0 => ?_) (fun hq0 => ?_)
  ·
    refine gT rfl <| v0 (S0.move rfl) rfl <| gT rfl <| v0 (S0.move rfl) rfl <| gT rfl <| v0 (S0.cmp rfl rfl rfl) rfl <| v0 (S0.pickT rfl rfl) rfl <| v0 (S0.assign rfl) rfl <| vE <| WP.ret <| ?_
    refine r1 rfl rfl ⟨?_, rfl⟩
    exact congrArg Value.bool (by simp [inB, *])
  ·
    refine gF rfl rfl <| gF rfl rfl <| gF rfl rfl <| v0 (S0.pickF rfl rfl) rfl <| v0 (S0.assign rfl) rfl <| vE <| WP.ret <| ?_
    refine r1 rfl rfl ⟨?_, rfl⟩
    exact congrArg Value.bool (by simp [inB, *])
theorem rin_spec (n a b : Int) : FN Tryz.prog 63 [.int .i64 n, .int .i64 a, .int .i64 b] [] (is (.bool (inB n a b)) []) := by
  refine FN.intro 15 [(0, .int .i64 n), (1, .int .i64 a), (2, .int .i64 b)] Tryz.func63 rfl (enters Tryz.func63 (by kernel_rfl) rfl) Tryz.ntmps63 rfl rfl ?_
  refine WP.seq <| WP.region <| v0 (S0.assign rfl) rfl <| vE <| WP.seq <| WP.region <| v0 (S0.move rfl) rfl <| v0 (S0.move rfl) rfl <| v0 (S0.cmp rfl rfl rfl) rfl <| v0 (S0.move rfl) rfl <| ?_
  first | refine csP (t := 10) rfl (fun hq0 => ?_) (fun hq0 => ?_) | refine csN (t := 10) rfl (fun hq0 => ?_) (fun hq0 => ?_) | refine cs (t := 10) rfl (fun hq0 => ?_) (fun hq0 => ?_)
  ·
    refine gT rfl <| v0 (S0.move rfl) rfl <| gT rfl <| v0 (S0.move rfl) rfl <| gT rfl <| v0 (S0.cmp rfl rfl rfl) rfl <| v0 (S0.pickT rfl rfl) rfl <| v0 (S0.assign rfl) rfl <| vE <| WP.ret <| ?_
    refine r1 rfl rfl ⟨?_, rfl⟩
    exact congrArg Value.bool (by simp [inB, *])
  ·
    refine gF rfl rfl <| gF rfl rfl <| gF rfl rfl <| v0 (S0.pickF rfl rfl) rfl <| v0 (S0.assign rfl) rfl <| vE <| WP.ret <| ?_
    refine r1 rfl rfl ⟨?_, rfl⟩
    exact congrArg Value.bool (by simp [inB, *])
-- auto
-- auto
-- auto
-- auto
theorem evRight_spec {x : Ev} (ht : x.t.length ≤ 120) : FN Tryz.prog 44 [.agg ⟨evB x⟩] [] (is (.bool (rightE x)) []) := by
  refine FN.intro 27 [(0, .agg ⟨evB x⟩)] Tryz.func44 rfl (enters Tryz.func44 (by kernel_rfl) rfl) Tryz.ntmps44 rfl rfl ?_
  refine WP.seq <| WP.region <| vn (S1.box rfl rfl) rfl fun b1 => v0 (S0.assign rfl) rfl <| vE <| WP.seq <| WP.region <| v0 (S0.fieldAddr rfl) rfl <| v0 (S0.load rfl rfl) rfl <| vcd (S1.callF rfl (within_spec _ _ _) take0) rfl <| v0 (S0.move rfl) rfl <| ?_
  first | refine csP (t := 6) rfl (fun hq0 => ?_) (fun hq0 => ?_) | refine csN (t := 6) rfl (fun hq0 => ?_) (fun hq0 => ?_) | refine cs (t := 6) rfl (fun hq0 => ?_) (fun hq0 => ?_)
  ·
    refine gT rfl <| v0 (S0.fieldAddr rfl) rfl <| gT rfl <| v0 (S0.load rfl rfl) rfl <| gT rfl <| vcd (S1.callF rfl (within_spec _ _ _) take0) rfl <| v0 (S0.pickT rfl rfl) rfl <| v0 (S0.move rfl) rfl <| ?_
    first | refine csP (t := 11) rfl (fun hq1 => ?_) (fun hq1 => ?_) | refine csN (t := 11) rfl (fun hq1 => ?_) (fun hq1 => ?_) | refine cs (t := 11) rfl (fun hq1 => ?_) (fun hq1 => ?_)
    ·
      refine gT rfl <| v0 (S0.fieldAddr rfl) rfl <| gT rfl <| v0 (S0.load rfl rfl) rfl <| gT rfl <| vcd (S1.callF rfl (within_spec _ _ _) take0) rfl <| v0 (S0.pickT rfl rfl) rfl <| v0 (S0.move rfl) rfl <| ?_
      first | refine csP (t := 16) rfl (fun hq2 => ?_) (fun hq2 => ?_) | refine csN (t := 16) rfl (fun hq2 => ?_) (fun hq2 => ?_) | refine cs (t := 16) rfl (fun hq2 => ?_) (fun hq2 => ?_)
      ·
        refine gT rfl <| v0 (S0.fieldAddr rfl) rfl <| gT rfl <| v0 (S0.load rfl rfl) rfl <| gT rfl <| vcd (S1.callF rfl (right_spec (by omega)) take0) rfl <| v0 (S0.pickT rfl rfl) rfl <| v0 (S0.move rfl) rfl <| ?_
        first | refine csP (t := 21) rfl (fun hq3 => ?_) (fun hq3 => ?_) | refine csN (t := 21) rfl (fun hq3 => ?_) (fun hq3 => ?_) | refine cs (t := 21) rfl (fun hq3 => ?_) (fun hq3 => ?_)
        ·
          refine gT rfl <| v0 (S0.fieldAddr rfl) rfl <| gT rfl <| v0 (S0.load rfl rfl) rfl <| gT rfl <| v0 (S0.lenSt rfl) rfl <| gT rfl <| v0 (S0.cmp rfl rfl rfl) rfl <| v0 (S0.pickT rfl rfl) rfl <| v0 (S0.assign rfl) rfl <| vE <| WP.ret <| ?_
          refine Leaves.drop take0 ?_
          refine r1 rfl rfl ⟨?_, rfl⟩
          exact congrArg Value.bool (by simp [rightE, *]; try omega)
        ·
          refine gF rfl rfl <| gF rfl rfl <| gF rfl rfl <| gF rfl rfl <| v0 (S0.pickF rfl rfl) rfl <| v0 (S0.assign rfl) rfl <| vE <| WP.ret <| ?_
          refine Leaves.drop take0 ?_
          refine r1 rfl rfl ⟨?_, rfl⟩
          exact congrArg Value.bool (by simp [rightE, *]; try omega)
      ·
        refine gF rfl rfl <| gF rfl rfl <| gF rfl rfl <| v0 (S0.pickF rfl rfl) rfl <| v0 (S0.move rfl) rfl <| gF rfl rfl <| gF rfl rfl <| gF rfl rfl <| gF rfl rfl <| v0 (S0.pickF rfl rfl) rfl <| v0 (S0.assign rfl) rfl <| vE <| WP.ret <| ?_
        refine Leaves.drop take0 ?_
        refine r1 rfl rfl ⟨?_, rfl⟩
        exact congrArg Value.bool (by simp [rightE, *]; try omega)
    ·
      refine gF rfl rfl <| gF rfl rfl <| gF rfl rfl <| v0 (S0.pickF rfl rfl) rfl <| v0 (S0.move rfl) rfl <| gF rfl rfl <| gF rfl rfl <| gF rfl rfl <| v0 (S0.pickF rfl rfl) rfl <| v0 (S0.move rfl) rfl <| gF rfl rfl <| gF rfl rfl <| gF rfl rfl <| gF rfl rfl <| v0 (S0.pickF rfl rfl) rfl <| v0 (S0.assign rfl) rfl <| vE <| WP.ret <| ?_
      refine Leaves.drop take0 ?_
      refine r1 rfl rfl ⟨?_, rfl⟩
      exact congrArg Value.bool (by simp [rightE, *]; try omega)
  ·
    refine gF rfl rfl <| gF rfl rfl <| gF rfl rfl <| v0 (S0.pickF rfl rfl) rfl <| v0 (S0.move rfl) rfl <| gF rfl rfl <| gF rfl rfl <| gF rfl rfl <| v0 (S0.pickF rfl rfl) rfl <| v0 (S0.move rfl) rfl <| gF rfl rfl <| gF rfl rfl <| gF rfl rfl <| v0 (S0.pickF rfl rfl) rfl <| v0 (S0.move rfl) rfl <| gF rfl rfl <| gF rfl rfl <| gF rfl rfl <| gF rfl rfl <| v0 (S0.pickF rfl rfl) rfl <| v0 (S0.assign rfl) rfl <| vE <| WP.ret <| ?_
    refine Leaves.drop take0 ?_
    refine r1 rfl rfl ⟨?_, rfl⟩
    exact congrArg Value.bool (by simp [rightE, *]; try omega)
theorem revRight_spec {x : Ev} (ht : x.t.length ≤ 120) : FN Tryz.prog 28 [.agg ⟨evB x⟩] [] (is (.bool (rightE x)) []) := by
  refine FN.intro 27 [(0, .agg ⟨evB x⟩)] Tryz.func28 rfl (enters Tryz.func28 (by kernel_rfl) rfl) Tryz.ntmps28 rfl rfl ?_
  refine WP.seq <| WP.region <| vn (S1.box rfl rfl) rfl fun b1 => v0 (S0.assign rfl) rfl <| vE <| WP.seq <| WP.region <| v0 (S0.fieldAddr rfl) rfl <| v0 (S0.load rfl rfl) rfl <| vcd (S1.callF rfl (rin_spec _ _ _) take0) rfl <| v0 (S0.move rfl) rfl <| ?_
  first | refine csP (t := 6) rfl (fun hq0 => ?_) (fun hq0 => ?_) | refine csN (t := 6) rfl (fun hq0 => ?_) (fun hq0 => ?_) | refine cs (t := 6) rfl (fun hq0 => ?_) (fun hq0 => ?_)
  ·
    refine gT rfl <| v0 (S0.fieldAddr rfl) rfl <| gT rfl <| v0 (S0.load rfl rfl) rfl <| gT rfl <| vcd (S1.callF rfl (rin_spec _ _ _) take0) rfl <| v0 (S0.pickT rfl rfl) rfl <| v0 (S0.move rfl) rfl <| ?_
    first | refine csP (t := 11) rfl (fun hq1 => ?_) (fun hq1 => ?_) | refine csN (t := 11) rfl (fun hq1 => ?_) (fun hq1 => ?_) | refine cs (t := 11) rfl (fun hq1 => ?_) (fun hq1 => ?_)
    ·
      refine gT rfl <| v0 (S0.fieldAddr rfl) rfl <| gT rfl <| v0 (S0.load rfl rfl) rfl <| gT rfl <| vcd (S1.callF rfl (rright_spec (by omega)) take0) rfl <| v0 (S0.pickT rfl rfl) rfl <| v0 (S0.move rfl) rfl <| ?_
      first | refine csP (t := 16) rfl (fun hq2 => ?_) (fun hq2 => ?_) | refine csN (t := 16) rfl (fun hq2 => ?_) (fun hq2 => ?_) | refine cs (t := 16) rfl (fun hq2 => ?_) (fun hq2 => ?_)
      ·
        refine gT rfl <| v0 (S0.fieldAddr rfl) rfl <| gT rfl <| v0 (S0.load rfl rfl) rfl <| gT rfl <| v0 (S0.lenSt rfl) rfl <| gT rfl <| v0 (S0.cmp rfl rfl rfl) rfl <| v0 (S0.pickT rfl rfl) rfl <| v0 (S0.move rfl) rfl <| ?_
        first | refine csP (t := 22) rfl (fun hq3 => ?_) (fun hq3 => ?_) | refine csN (t := 22) rfl (fun hq3 => ?_) (fun hq3 => ?_) | refine cs (t := 22) rfl (fun hq3 => ?_) (fun hq3 => ?_)
        ·
          refine gT rfl <| v0 (S0.fieldAddr rfl) rfl <| gT rfl <| v0 (S0.load rfl rfl) rfl <| gT rfl <| vcd (S1.callF rfl (rin_spec _ _ _) take0) rfl <| v0 (S0.pickT rfl rfl) rfl <| v0 (S0.assign rfl) rfl <| vE <| WP.ret <| ?_
          refine Leaves.drop take0 ?_
          refine r1 rfl rfl ⟨?_, rfl⟩
          exact congrArg Value.bool (by simp [rightE, *]; try omega)
        ·
          refine gF rfl rfl <| gF rfl rfl <| gF rfl rfl <| v0 (S0.pickF rfl rfl) rfl <| v0 (S0.assign rfl) rfl <| vE <| WP.ret <| ?_
          refine Leaves.drop take0 ?_
          refine r1 rfl rfl ⟨?_, rfl⟩
          exact congrArg Value.bool (by simp [rightE, *]; try omega)
      ·
        refine gF rfl rfl <| gF rfl rfl <| gF rfl rfl <| gF rfl rfl <| v0 (S0.pickF rfl rfl) rfl <| v0 (S0.move rfl) rfl <| gF rfl rfl <| gF rfl rfl <| gF rfl rfl <| v0 (S0.pickF rfl rfl) rfl <| v0 (S0.assign rfl) rfl <| vE <| WP.ret <| ?_
        refine Leaves.drop take0 ?_
        refine r1 rfl rfl ⟨?_, rfl⟩
        exact congrArg Value.bool (by simp [rightE, *]; try omega)
    ·
      refine gF rfl rfl <| gF rfl rfl <| gF rfl rfl <| v0 (S0.pickF rfl rfl) rfl <| v0 (S0.move rfl) rfl <| gF rfl rfl <| gF rfl rfl <| gF rfl rfl <| gF rfl rfl <| v0 (S0.pickF rfl rfl) rfl <| v0 (S0.move rfl) rfl <| gF rfl rfl <| gF rfl rfl <| gF rfl rfl <| v0 (S0.pickF rfl rfl) rfl <| v0 (S0.assign rfl) rfl <| vE <| WP.ret <| ?_
      refine Leaves.drop take0 ?_
      refine r1 rfl rfl ⟨?_, rfl⟩
      exact congrArg Value.bool (by simp [rightE, *]; try omega)
  ·
    refine gF rfl rfl <| gF rfl rfl <| gF rfl rfl <| v0 (S0.pickF rfl rfl) rfl <| v0 (S0.move rfl) rfl <| gF rfl rfl <| gF rfl rfl <| gF rfl rfl <| v0 (S0.pickF rfl rfl) rfl <| v0 (S0.move rfl) rfl <| gF rfl rfl <| gF rfl rfl <| gF rfl rfl <| gF rfl rfl <| v0 (S0.pickF rfl rfl) rfl <| v0 (S0.move rfl) rfl <| gF rfl rfl <| gF rfl rfl <| gF rfl rfl <| v0 (S0.pickF rfl rfl) rfl <| v0 (S0.assign rfl) rfl <| vE <| WP.ret <| ?_
    refine Leaves.drop take0 ?_
    refine r1 rfl rfl ⟨?_, rfl⟩
    exact congrArg Value.bool (by simp [rightE, *]; try omega)
-- left out: same_spec (rivulet/event.Same)





-- left out: rsame_spec (rivulet/rivuletref06.Same)


end Go.Proofs.YtanecnnfpdhadaaGreatDoor
/- D6 -/
namespace Go.Proofs.YtanecnnfpdhadaaGreatDoor
open Go

/-- the first k devices have had their turn -/
def gotK (S : DS) (e : Ev) (k : Nat) : DS := (S.take k).map (fun x => gotD x e) ++ S.drop k
theorem gotK_ids (S : DS) (e : Ev) (k : Nat) : (gotK S e k).map (·.i) = S.map (·.i) := by
  unfold gotK
  rw [List.map_append, List.map_map, show ((fun x : Dv => x.i) ∘ fun x => gotD x e) = fun x => x.i from funext fun x => gotD_i x e, ← List.map_append, List.take_append_drop]
theorem gotK_at {S : DS} {e : Ev} {k : Nat} {y : Dv} (hy : S[k]? = some y) : gotK S e k = (S.take k).map (fun x => gotD x e) ++ y :: S.drop (k + 1) ∧ gotK S e (k + 1) = (S.take k).map (fun x => gotD x e) ++ gotD y e :: S.drop (k + 1) := by
  obtain ⟨hk, rfl⟩ := List.getElem?_eq_some_iff.1 hy
  unfold gotK
  refine ⟨by rw [List.drop_eq_getElem_cons hk], ?_⟩
  rw [List.take_add_one, hy, List.map_append]
  simp only [Option.toList, List.map_cons, List.map_nil, List.append_assoc, List.cons_append, List.nil_append]
theorem set_at {A B : DS} {y z : Dv} (hz : z.i = y.i) (ha : (A ++ y :: B).Pairwise fun x y => x.i < y.i) : setD (A ++ y :: B) z = A ++ z :: B := by
  obtain ⟨h1, h2, h3⟩ := List.pairwise_append.1 ha
  obtain ⟨h4, h5⟩ := List.pairwise_cons.1 h2
  unfold setD
  rw [List.map_append, List.map_cons, if_pos hz.symm]
  have e1 : A.map (fun x => if x.i = z.i then z else x) = A := by
    conv => rhs; rw [← List.map_id A]
    refine List.map_congr_left fun x hx => ?_
    have := h3 x hx y (by simp)
    rw [if_neg (by omega)]; rfl
  have e2 : B.map (fun x => if x.i = z.i then z else x) = B := by
    conv => rhs; rw [← List.map_id B]
    refine List.map_congr_left fun x hx => ?_
    have := h4 x hx
    rw [if_neg (by omega)]; rfl
  rw [e1, e2]
theorem offer_spec {db : Nat} {S : DS} {c : List Blk} (h : IsDev db S c) (ho : DevOk S) {e : Ev} (ht : e.t.length ≤ 120) :
    FN Tryz.prog 18 [.pointer (some ⟨db, 0, none⟩), .agg ⟨evB e⟩] [c] (fun u h => ∃ c' row, IsDev db (offerD S e).2 c' ∧ IsSl 3 1 u (ints (offerD S e).1) row ∧ h = [row, c']) := by
  have hlS := ho.len
  refine FN.intro 47 [(0, .pointer (some ⟨db, 0, none⟩)), (1, .agg ⟨evB e⟩)] Tryz.func18 rfl (enters Tryz.func18 (by kernel_rfl) rfl) Tryz.ntmps18 rfl rfl ?_
  refine WP.seq <| WP.region <| vn (S1.box rfl rfl) rfl fun b3 => v0 (S0.assign rfl) rfl <| vE <| WP.seq <| WP.seq <| WP.region <| v0 (S0.loadAL rfl) rfl <| ?_  -- op t10 := call F44{rivulet/event.Right}(t9)
  refine vcd (S1.callF rfl (evRight_spec (x := e) ht) take0) rfl ?_
  refine v0 (S0.not rfl) rfl <| v0 (S0.move rfl) rfl <| ?_  -- guard t12 (wants False) at t13 := fieldAddr 31 t3 4 [if #3=False]
  skip
  cases hr : rightE e with
  | false =>
    skip
    refine csTh (t := 12) rfl (rfl) ?_
    refine gF rfl rfl <| gF rfl rfl <| gF rfl rfl <| v0 (S0.pickT rfl rfl) rfl <| vE <| WP.condT rfl <| WP.seq <| WP.region <| v0 (S0.assign rfl) rfl <| vE <| WP.ret <| ?_  -- ret
    refine Leaves.drop (h' := [[], c]) (k := [[(b3, .cells ⟨evB e⟩ 31 (0, 0))]]) (pm fun a_ => by (try simp only [List.flatten_append, List.flatten_cons, List.flatten_nil, List.append_nil, List.cons_append, List.nil_append, List.append_assoc, nOf_app, nOf_cons, nOf_nil, Nat.add_zero, Nat.zero_add, List.map_append, List.map_cons, List.map_nil, cel, sv]); first | done | omega) ?_
    refine r1 rfl rfl ?_
    have ej : offerD S e = ([], S) := by unfold offerD; rw [if_neg (by simp [hr])]
    rw [ej]; exact ⟨c, [], h, IsSl.nil, rfl⟩
  | true =>
    skip
    have hb := rightE_bd hr
    refine csFh (t := 12) rfl (rfl) ?_
    refine gT rfl <| v0 (S0.fieldAddr rfl) rfl <| gT rfl <| v0 (S0.load rfl rfl) rfl <| gT rfl <| v0 (S0.cmp rfl rfl rfl) rfl <| v0 (S0.pickF rfl rfl) rfl <| vE <| ?_  -- cond
    first | refine WP.condP rfl (fun h1 => ?_) (fun h1 => ?_) | refine WP.condN rfl (fun h1 => ?_) (fun h1 => ?_) | refine WP.cond rfl (fun h1 => ?_) (fun h1 => ?_)
    · skip
      refine WP.seq <| WP.region <| v0 (S0.assign rfl) rfl <| vE <| WP.ret <| ?_  -- ret
      refine Leaves.drop (h' := [[], c]) (k := [[(b3, .cells ⟨evB e⟩ 31 (0, 0))]]) (pm fun a_ => by (try simp only [List.flatten_append, List.flatten_cons, List.flatten_nil, List.append_nil, List.cons_append, List.nil_append, List.append_assoc, nOf_app, nOf_cons, nOf_nil, Nat.add_zero, Nat.zero_add, List.map_append, List.map_cons, List.map_nil, cel, sv]); first | done | omega) ?_
      refine r1 rfl rfl ?_
      have ej : offerD S e = ([], S) := by unfold offerD; rw [if_neg (by omega)]
      rw [ej]; exact ⟨c, [], h, IsSl.nil, rfl⟩
    · skip
      have ej : offerD S e = ((S.filter fun x => takesD x e).map (·.i), S.map fun x => gotD x e) := by unfold offerD; rw [if_pos ⟨hr, by omega⟩]
      refine WP.skip <| WP.seq <| WP.region <| v0 (S0.assign rfl) rfl <| vE <| WP.seq <| WP.seq <| WP.region <| v0 (S0.move rfl) rfl <| ?_  -- op t18 := call F33{(*rivulet/device.Devices).Ids}(t17)
      refine vc (S1.callF rfl (ids_spec h ho) (take1 (atS at0) take0)) rfl ?_
      rintro iv _ ⟨idr, his, rfl⟩
      refine app ?_
      obtain ⟨D0, m, cm, hw0, hm0, rfl⟩ := h
      obtain ⟨a, cap, rfl, hcap, hrow⟩ := his.intsE
      have hIL : (S.map (·.i)).length = S.length := List.length_map _
      refine WO.perm (h' := [idr, [], [(b3, .cells ⟨evB e⟩ 31 (0, 0))], [(db, cel [.map (some m)] 68), (m, mapO (Value.int .i64) (dml D0) cm)], dblks 72 D0]) (k := []) (pm fun a_ => by (try simp only [List.flatten_append, List.flatten_cons, List.flatten_nil, List.append_nil, List.cons_append, List.nil_append, List.append_assoc, nOf_app, nOf_cons, nOf_nil, Nat.add_zero, Nat.zero_add, List.map_append, List.map_cons, List.map_nil, cel, sv]); first | done | omega) ?_
      refine v0 (S0.lenSl rfl) rfl <| v0 (S0.move rfl) rfl <| vE <| WP.block <| ?_  -- Code.loop
      refine WP.loop (fun s : Nat × DL × Value × List Blk => s.1 ≤ S.length ∧ WfM (dml s.2.1) cm ∧ Mat 9 s.2.1 (gotK S e s.1) ∧ IsSl 3 1 s.2.2.1 (ints (((S.take s.1).filter fun x => takesD x e).map (·.i))) s.2.2.2) (fun s : Nat × DL × Value × List Blk => [(0, .pointer (some ⟨db, 0, none⟩)), (3, .pointer (some ⟨b3, 0, none⟩)), (5, s.2.2.1), (18, .slice a (S.map (·.i)).length cap), (19, .int .i64 ((S.map (·.i)).length : Int)), (20, .int .i64 (s.1 : Int))]) (fun s : Nat × DL × Value × List Blk => [idr, s.2.2.2, [(b3, .cells ⟨evB e⟩ 31 (0, 0))], [(db, cel [.map (some m)] 68), (m, mapO (Value.int .i64) (dml s.2.1) cm)], dblks 72 s.2.1]) (fun s : Nat × DL × Value × List Blk => S.length - s.1) ((0, D0, .slice none 0 0, [])) (⟨Nat.zero_le _, hw0, hm0, IsSl.nil⟩) ⟨rfl, rfl, rfl, rfl, rfl, rfl, trivial⟩ ⟨_, (take1 at0 (take1 at0 (take1 at0 (take1 at0 (take1 at0 take0)))))⟩ (fun s hinv => ?_) 
      obtain ⟨k, D, ov, orow⟩ := s
      obtain ⟨hk, hw, hm, hos⟩ := hinv
      dsimp only at hk hw hm hos ⊢
      refine WP.seq <| WP.region <| v0 (S0.cmp rfl rfl rfl) rfl <| vE <| WP.seq <| ?_  -- cond
      first | refine WP.condP rfl (fun h2 => ?_) (fun h2 => ?_) | refine WP.condN rfl (fun h2 => ?_) (fun h2 => ?_) | refine WP.cond rfl (fun h2 => ?_) (fun h2 => ?_)
      · skip
        have hlt : k < S.length := by omega
        have hy : S[k]? = some S[k] := by simp [hlt]
        have hyS := List.getElem_mem hlt
        generalize S[k] = y at hy hyS
        have hoy := ho.all y hyS
        obtain ⟨hg1, hg2⟩ := gotK_at (e := e) hy
        have hasc : (gotK S e k).Pairwise fun x y => x.i < y.i := asc_ids.2 (by rw [gotK_ids]; exact asc_ids.1 ho.asc)
        have hfy : findD (gotK S e k) y.i = some y := find_of hasc (by rw [hg1]; simp)
        have hiy : (S.map (·.i))[k]? = some y.i := by simp [hy]
        have hset : gotK S e (k + 1) = setD (gotK S e k) (gotD y e) := by rw [hg1] at hasc ⊢; rw [hg2, set_at (gotD_i y e) hasc]
        have htake : (S.take (k + 1)).filter (fun x => takesD x e) = (S.take k).filter (fun x => takesD x e) ++ if takesD y e = true then [y] else [] := by
          rw [List.take_add_one, hy, List.filter_append]
          congr 1
          by_cases htk : takesD y e = true <;> simp [htk]
        have hfl := List.length_filter_le (fun x => takesD x e) (S.take k)
        have htl : (S.take k).length ≤ 16 := by rw [List.length_take]; omega
        obtain ⟨x, hR, hx⟩ := hm.some hfy
        obtain ⟨C, hc1, -, hc3⟩ := dblks_split 72 hR
        rcases hrow with ⟨e1, -⟩ | ⟨b1, sp1, rfl, rfl, hsp1⟩
        · have := congrArg List.length e1; simp at this; rw [this] at hlt; simp at hlt
        refine WP.skip <| WP.seq <| WP.block <| WP.seq <| WP.region <| ?_  -- op t22 := indexAddr 38 t18 t20
        refine WO.perm (h' := [[(b1, .cells ⟨ints (S.map (·.i)) ++ sp1⟩ 3 (0, 0))], orow, [(b3, .cells ⟨evB e⟩ 31 (0, 0))], [(db, cel [.map (some m)] 68), (m, mapO (Value.int .i64) (dml D) cm)], [(x.b, .cells ⟨[x.v, .map (some x.mm)]⟩ 72 (0, 0))], [(x.mm, mapO (Value.int .i64) x.A x.ck)], x.row, C]) (k := []) (pm fun a_ => by have h0_ := pm_of (hc1) a_; (try simp only [List.flatten_append, List.flatten_cons, List.flatten_nil, List.append_nil, List.cons_append, List.nil_append, List.append_assoc, nOf_app, nOf_cons, nOf_nil, Nat.add_zero, Nat.zero_add, List.map_append, List.map_cons, List.map_nil, cel, sv, Rc.blks] at h0_); (try simp only [List.flatten_append, List.flatten_cons, List.flatten_nil, List.append_nil, List.cons_append, List.nil_append, List.append_assoc, nOf_app, nOf_cons, nOf_nil, Nat.add_zero, Nat.zero_add, List.map_append, List.map_cons, List.map_nil, cel, sv, Rc.blks]); first | done | omega) ?_
        refine v0 (S0.index1 rfl rfl (by omega)) rfl <| ?_
        refine v0 (S0.load rfl (ints_get hiy)) rfl <| ?_
        refine v0 (S0.assign rfl) rfl <| vE <| WP.seq <| WP.region <| v0 (S0.move rfl) rfl <| v0 (S0.nilCheck rfl) rfl <| v0 (S0.fieldAddr rfl) rfl <| v0 (S0.load rfl rfl) rfl <| v0 (S0.move rfl) rfl <| ?_  -- op t29 := lookup 66 t27 t28 false
        refine v0 (S0.lookupS (ek := Value.int .i64) (k := y.i) (v := .pointer (some ⟨x.b, 0, none⟩)) rfl rfl (by rw [dml_get, hR]; rfl)) rfl <| ?_
        refine v0 (S0.assign rfl) rfl <| vE <| WP.seq <| WP.region <| v0 (S0.move rfl) rfl <| v0 (S0.loadAL rfl) rfl <| ?_  -- op t32 := call F45{(*rivulet/device.one).takes}(t30, t31)
        refine vcd (S1.callF rfl (takes_spec hx hoy ht) (take1 (atS (atS (atS (atS at0)))) (take1 (atS (atS (atS (atS at0)))) (take1 (atS (atS (atS (atS at0)))) take0)))) rfl ?_
        refine vE <| ?_  -- cond
        skip
        cases htk : takesD y e with
        | true =>
          skip
          have hgd : gotD y e = ⟨y.i, y.F, setMk y.M (e.o, e.s)⟩ := by unfold gotD; rw [if_pos htk]
          rw [htk, if_pos rfl] at htake
          refine WP.condTh rfl (rfl) ?_
          skip
          refine WP.seq <| WP.drawP [(0, none), (1, none), (2, none), (3, none), (4, none), (5, none), (6, none), (7, none), (8, none)] mixed (by kernel_rfl) (by kernel_rfl) (by kernel_rfl) (take1 at0 (take1 (atS (atS (atS (atS at0)))) take0)) <| w0 rfl rfl rfl (S0.move rfl) rfl <| w0 rfl rfl rfl (S0.nilCheck rfl) rfl <| w0 rfl rfl rfl (S0.fieldAddr rfl) rfl <| w0 rfl rfl rfl (S0.load rfl rfl) rfl <| w0 rfl rfl rfl (S0.fieldAddr rfl) rfl <| w0 rfl rfl rfl (S0.load rfl rfl) rfl <| w0 rfl rfl rfl (S0.fieldAddr rfl) rfl <| w0 rfl rfl rfl (S0.load rfl rfl) rfl <| ?_  -- op mapUpdate 70 t36 t38 t40
          refine ws rfl rfl rfl rfl (S1.mapUpdate (ek := Value.int .i64) (k := e.o) rfl rfl rfl) <| ?_
          refine wE <| WP.region <| v0 (S0.move rfl) rfl <| v0 (S0.move rfl) rfl <| vnv (S1.buildSlice rfl (qs := [(0, _)]) rfl rfl) rfl fun b43 => ?_  -- op t44 := append(t41, t43) :[38, 38]
          refine ve (S1.appendL rfl hos rfl rfl (atS (atS (atS (atS (atS (atS at0)))))) rfl rfl (by rw [ints_len]; simp; omega)) rfl ?_
          rintro v2 _ ⟨row2, hs2, rfl⟩
          have hs3 : IsSl 3 1 v2 (ints (((S.take (k + 1)).filter fun x => takesD x e).map (·.i))) row2 := by rw [htake]; simpa [ints] using hs2
          have hds : dml (setR D y.i { x with A := putM x.A x.ck e.o (.int .i64 e.s), ck := clkM x.A x.ck e.o }) = dml D := dml_set hR rfl
          have hc4 := hc3 { x with A := putM x.A x.ck e.o (.int .i64 e.s), ck := clkM x.A x.ck e.o }
          have hm2 : Mat 9 (setR D y.i { x with A := putM x.A x.ck e.o (.int .i64 e.s), ck := clkM x.A x.ck e.o }) (gotK S e (k + 1)) := by
            refine hm.step y.i (getR_set hR) (fun j => ?_) (b := some (gotD y e)) (by rw [hgd]; exact hx.put (e.o, e.s))
            have := find_set (S := gotK S e k) (y := gotD y e) (by rw [gotD_i, hfy]; simp) j
            rw [hset, this, gotD_i]
          refine v0 (S0.assign rfl) rfl <| vE <| WP.region <| v0 (S0.ari rfl rfl rfl (wrap_i64 (by omega))) rfl <| v0 (S0.move rfl) rfl <| vE <| ?_  -- roundend
          exact ⟨(k + 1, setR D y.i { x with A := putM x.A x.ck e.o (.int .i64 e.s), ck := clkM x.A x.ck e.o }, v2, row2), (by first | exact ⟨hlt, by rw [hds]; exact hw, hm2, hs3⟩ | (dsimp only; exact ⟨hlt, by rw [hds]; exact hw, hm2, hs3⟩)), (show S.length - (k + 1) < S.length - k by omega), ⟨⟨rfl, rfl, rfl, rfl, rfl, rfl, trivial⟩, rfl, rfl⟩, ⟨[[(b43, cel [Value.int .i64 y.i] 3)]], (pm fun a_ => by have h0_ := pm_of (hc4) a_; (try simp only [List.flatten_append, List.flatten_cons, List.flatten_nil, List.append_nil, List.cons_append, List.nil_append, List.append_assoc, nOf_app, nOf_cons, nOf_nil, Nat.add_zero, Nat.zero_add, List.map_append, List.map_cons, List.map_nil, cel, sv, Rc.blks, hds] at h0_); (try simp only [List.flatten_append, List.flatten_cons, List.flatten_nil, List.append_nil, List.cons_append, List.nil_append, List.append_assoc, nOf_app, nOf_cons, nOf_nil, Nat.add_zero, Nat.zero_add, List.map_append, List.map_cons, List.map_nil, cel, sv, Rc.blks, hds]); first | done | omega)⟩⟩
        | false =>
          skip
          have hgd : gotD y e = y := by unfold gotD; rw [if_neg (by simp [htk])]
          rw [htk, if_neg (by simp), List.append_nil] at htake
          refine WP.condFh rfl (rfl) ?_
          refine WP.skip <| WP.region <| v0 (S0.ari rfl rfl rfl (wrap_i64 (by omega))) rfl <| v0 (S0.move rfl) rfl <| vE <| ?_  -- roundend
          exact ⟨(k + 1, D, ov, orow), (by first | exact ⟨hlt, hw, by rw [hg2, hgd, ← hg1]; exact hm, by rw [htake]; exact hos⟩ | (dsimp only; exact ⟨hlt, hw, by rw [hg2, hgd, ← hg1]; exact hm, by rw [htake]; exact hos⟩)), (show S.length - (k + 1) < S.length - k by omega), ⟨⟨rfl, rfl, rfl, rfl, rfl, rfl, trivial⟩, rfl, rfl⟩, ⟨[], (pm fun a_ => by have h0_ := pm_of (hc1) a_; (try simp only [List.flatten_append, List.flatten_cons, List.flatten_nil, List.append_nil, List.cons_append, List.nil_append, List.append_assoc, nOf_app, nOf_cons, nOf_nil, Nat.add_zero, Nat.zero_add, List.map_append, List.map_cons, List.map_nil, cel, sv, Rc.blks] at h0_); (try simp only [List.flatten_append, List.flatten_cons, List.flatten_nil, List.append_nil, List.cons_append, List.nil_append, List.append_assoc, nOf_app, nOf_cons, nOf_nil, Nat.add_zero, Nat.zero_add, List.map_append, List.map_cons, List.map_nil, cel, sv, Rc.blks]); first | done | omega)⟩⟩
      · skip
        have hk2 : k = S.length := by omega
        subst hk2
        rw [List.take_length] at hos
        have hgk : gotK S e S.length = S.map fun x => gotD x e := by unfold gotK; simp
        rw [hgk] at hm
        refine WP.exit <| WP.seq <| WP.region <| v0 (S0.move rfl) rfl <| v0 (S0.assign rfl) rfl <| vE <| WP.ret <| ?_  -- ret
        refine Leaves.drop (h' := [orow, (db, cel [.map (some m)] 68) :: (m, mapO (Value.int .i64) (dml D) cm) :: dblks 72 D]) (k := [idr, [(b3, .cells ⟨evB e⟩ 31 (0, 0))]]) (pm fun a_ => by (try simp only [List.flatten_append, List.flatten_cons, List.flatten_nil, List.append_nil, List.cons_append, List.nil_append, List.append_assoc, nOf_app, nOf_cons, nOf_nil, Nat.add_zero, Nat.zero_add, List.map_append, List.map_cons, List.map_nil, cel, sv]); first | done | omega) ?_
        refine r1 rfl rfl ?_
        rw [ej]
        exact ⟨_, orow, ⟨D, m, cm, hw, hm, rfl⟩, hos, rfl⟩
end Go.Proofs.YtanecnnfpdhadaaGreatDoor
/- D7 -/
namespace Go.Proofs.YtanecnnfpdhadaaGreatDoor
open Go

theorem save_spec {db : Nat} {S : DS} {c : List Blk} (h : IsDev db S c) (ho : DevOk S) :
    FN Tryz.prog 21 [.pointer (some ⟨db, 0, none⟩)] [c] (is (sv (saveD S)) [c]) := by
  have hh := h
  obtain ⟨D, m, cm, hw, hm, hc⟩ := h
  have hlen := hm.len hw ho.asc
  have hsz : (⟨(dml D).map (entM (Value.int .i64))⟩ : Array MapEntry).size = S.length := by simpa using hlen
  have hlS := ho.len
  have hpl := putV_le S.length
  have i1 : HasC c db (cel [.map (some m)] 68) := ⟨by rw [hc]; simp⟩
  have i2 : HasC c m (mapO (Value.int .i64) (dml D) cm) := ⟨by rw [hc]; simp⟩
  refine FN.intro 67 [(0, .pointer (some ⟨db, 0, none⟩))] Tryz.func21 rfl (enters Tryz.func21 (by kernel_rfl) rfl) Tryz.ntmps21 rfl rfl ?_
  refine WP.seq <| WP.region <| v0 (S0.assign rfl) rfl <| vE <| WP.seq <| WP.region <| v0 (S0.move rfl) rfl <| v0 (S0.nilCheck rfl) rfl <| v0 (S0.fieldAddr rfl) rfl <| v0 (S0.load rfl rfl) rfl <| v0 (S0.lenM rfl) rfl <| v0 (S0.convI rfl (wrap_u64 (by omega))) rfl <| ?_  -- op t14 := call F52{rivulet/varint.Put}(t13)
  rw [hsz]
  refine vcd (S1.callF rfl (put_spec (n := S.length) (by omega)) take0) rfl ?_
  refine v0 (S0.assign rfl) rfl <| vE <| WP.seq <| WP.seq <| WP.region <| v0 (S0.move rfl) rfl <| ?_  -- op t16 := call F33{(*rivulet/device.Devices).Ids}(t15)
  refine vc (S1.callF rfl (ids_spec hh ho) (take1 at0 take0)) rfl ?_
  rintro iv _ ⟨idr, his, rfl⟩
  refine app ?_
  obtain ⟨a, cap, rfl, hcap, hrow⟩ := his.intsE
  have hIL : (S.map (·.i)).length = S.length := List.length_map _
  refine v0 (S0.lenSl rfl) rfl <| v0 (S0.move rfl) rfl <| vE <| WP.block <| ?_  -- Code.loop
  rw [show putV S.length = putV S.length ++ (S.take 0).flatMap devB by simp]
  refine WP.loop (fun k : Nat => k ≤ S.length) (fun k : Nat => [(0, .pointer (some ⟨db, 0, none⟩)), (3, sv (putV S.length ++ (S.take k).flatMap devB)), (16, .slice a (S.map (·.i)).length cap), (17, .int .i64 ((S.map (·.i)).length : Int)), (18, .int .i64 (k : Int))]) (fun k : Nat => [idr, c]) (fun k : Nat => S.length - k) (0) (Nat.zero_le _) ⟨rfl, rfl, rfl, rfl, rfl, trivial⟩ ⟨_, (take1 at0 (take1 at0 take0))⟩ (fun k hinv => ?_) 
  have hpre := devs_le ho k
  refine WP.seq <| WP.region <| v0 (S0.cmp rfl rfl rfl) rfl <| vE <| WP.seq <| ?_  -- cond
  first | refine WP.condP rfl (fun h1 => ?_) (fun h1 => ?_) | refine WP.condN rfl (fun h1 => ?_) (fun h1 => ?_) | refine WP.cond rfl (fun h1 => ?_) (fun h1 => ?_)
  · skip
    have hlt : k < S.length := by omega
    have hy : S[k]? = some S[k] := by simp [hlt]
    have hyS := List.getElem_mem hlt
    generalize S[k] = y at hy hyS
    have hoy := ho.all y hyS
    have hfy := find_of ho.asc hyS
    have hiy : (S.map (·.i))[k]? = some y.i := by simp [hy]
    obtain ⟨n, hn⟩ : ∃ n : Nat, y.i = (n : Int) := ⟨y.i.toNat, by have := hoy.id; omega⟩
    have hn2 : n ≤ 1099511627776 := by have := hoy.id; omega
    have hdv : devB y = (putV n ++ putV y.F.length) ++ (y.F.flatMap textB ++ marksB y.M) := by unfold devB; rw [hn, Int.toNat_natCast]
    have hmk : mrkD S y.i = y.M := by unfold mrkD; rw [hfy]
    have hlF := hoy.lF
    obtain ⟨-, -, hlM⟩ := sortedM_iff.1 hoy.ms
    obtain ⟨x, hR, hx⟩ := hm.some hfy
    obtain ⟨i3, i4, hxr⟩ := rc_mem (c := c) hR (fun z hz => by rw [hc]; simp [hz])
    obtain ⟨xb, xmm, xv, xrow, xA, xck⟩ := x
    obtain ⟨hsl, hwf, hms⟩ := hx
    dsimp only at hsl hwf hms i3 i4 hxr
    obtain ⟨fa, fcap, rfl, hfcap, hfrow⟩ := hsl.strsE
    rcases hrow with ⟨e1, -⟩ | ⟨b1, sp1, rfl, rfl, hsp1⟩
    · have := congrArg List.length e1; simp at this; rw [this] at hlt; simp at hlt
    have hp1 := putV_le n
    have hp2 := putV_le y.F.length
    rw [hn] at hiy hfy hR hmk
    refine WP.skip <| WP.seq <| WP.block <| WP.seq <| WP.region <| ?_  -- op t20 := indexAddr 38 t16 t18
    refine v0 (S0.index1 rfl rfl (by omega)) rfl <| ?_
    refine v0 (S0.load rfl (ints_get hiy)) rfl <| ?_
    skip
    refine v0 (S0.assign rfl) rfl <| vE <| WP.seq <| WP.drawP [(0, none), (1, none), (2, none), (4, none), (5, none), (6, none), (7, none), (8, none), (9, none), (10, none), (11, none), (12, none), (13, none), (14, none), (3, none), (15, none), (16, none), (17, none), (18, none)] mixed (by kernel_rfl) (by kernel_rfl) (by kernel_rfl) (take1 at0 (take1 at0 take0)) <| w0 rfl rfl rfl (S0.move rfl) rfl <| w0 rfl rfl rfl (S0.move rfl) rfl <| w0 rfl rfl rfl (S0.convI rfl (wrap_u64 (by omega))) rfl <| w0 rfl rfl rfl (S0.move rfl) rfl <| w0 rfl rfl rfl (S0.nilCheck rfl) rfl <| w0 rfl rfl rfl (S0.fieldAddr rfl) rfl <| w0 rfl rfl rfl (S0.load rfl rfl) rfl <| w0 rfl rfl rfl (S0.move rfl) rfl <| ?_  -- op t31 := lookup 66 t29 t30 false
    refine w0 rfl rfl rfl (S0.lookupS (ek := Value.int .i64) (k := (n : Int)) (v := .pointer (some ⟨xb, 0, none⟩)) rfl rfl (by rw [dml_get, hR]; rfl)) rfl <| ?_
    refine w0 rfl rfl rfl (S0.nilCheck rfl) rfl <| w0 rfl rfl rfl (S0.fieldAddr rfl) rfl <| w0 rfl rfl rfl (S0.load rfl rfl) rfl <| w0 rfl rfl rfl (S0.lenSl rfl) rfl <| w0 rfl rfl rfl (S0.convI rfl (wrap_u64 (by omega))) rfl <| ?_  -- op t25 := call F52{rivulet/varint.Put}(t24)
    refine wcd rfl rfl rfl rfl (S1.callF rfl (put_spec (n := n) (by omega)) take0) rfl ?_
    -- (nothing to walk: op t37 := call F52{rivulet/varint.Put}(t36))
    refine wcd rfl rfl rfl rfl (S1.callF rfl (put_spec (n := y.F.length) (by omega)) take0) rfl ?_
    -- (nothing to walk: op t38 := add t25 t37 :9)
    refine w0 rfl rfl rfl (S0.addS rfl rfl (by omega)) rfl <| ?_
    refine w0 rfl rfl rfl (S0.addS rfl rfl (by simp only [List.length_append]; omega)) rfl <| ?_
    refine w0 rfl rfl rfl (S0.assign rfl) rfl <| wE <| WP.seq <| WP.seq <| WP.region <| v0 (S0.move rfl) rfl <| v0 (S0.nilCheck rfl) rfl <| v0 (S0.fieldAddr rfl) rfl <| v0 (S0.load rfl rfl) rfl <| v0 (S0.move rfl) rfl <| ?_  -- op t45 := lookup 66 t43 t44 false
    refine v0 (S0.lookupS (ek := Value.int .i64) (k := (n : Int)) (v := .pointer (some ⟨xb, 0, none⟩)) rfl rfl (by rw [dml_get, hR]; rfl)) rfl <| ?_
    refine v0 (S0.nilCheck rfl) rfl <| v0 (S0.fieldAddr rfl) rfl <| v0 (S0.load rfl rfl) rfl <| v0 (S0.lenSl rfl) rfl <| v0 (S0.move rfl) rfl <| vE <| WP.block <| ?_  -- Code.loop
    rw [show putV S.length ++ (S.take k).flatMap devB ++ (putV n ++ putV y.F.length) = putV S.length ++ (S.take k).flatMap devB ++ (putV n ++ putV y.F.length) ++ (y.F.take 0).flatMap textB by simp]
    refine WP.loop (fun j : Nat => j ≤ y.F.length) (fun j : Nat => [(0, .pointer (some ⟨db, 0, none⟩)), (3, sv (putV S.length ++ (S.take k).flatMap devB ++ (putV n ++ putV y.F.length) ++ (y.F.take j).flatMap textB)), (5, .int .i64 (n : Int)), (16, .slice (some ⟨b1, 0, none⟩) (S.map (·.i)).length cap), (17, .int .i64 ((S.map (·.i)).length : Int)), (18, .int .i64 (k : Int)), (48, .slice fa y.F.length fcap), (49, .int .i64 (y.F.length : Int)), (50, .int .i64 (j : Int))]) (fun j : Nat => [[(b1, .cells ⟨ints (S.map (·.i)) ++ sp1⟩ 3 (0, 0))], c]) (fun j : Nat => y.F.length - j) (0) (Nat.zero_le _) ⟨rfl, rfl, rfl, rfl, rfl, rfl, rfl, rfl, rfl, trivial⟩ ⟨_, (take1 at0 (take1 at0 take0))⟩ (fun j hinv => ?_) 
    have htx := texts_le hoy j
    refine WP.seq <| WP.region <| v0 (S0.cmp rfl rfl rfl) rfl <| vE <| WP.seq <| ?_  -- cond
    first | refine WP.condP rfl (fun h2 => ?_) (fun h2 => ?_) | refine WP.condN rfl (fun h2 => ?_) (fun h2 => ?_) | refine WP.cond rfl (fun h2 => ?_) (fun h2 => ?_)
    · skip
      have hlt2 : j < y.F.length := by omega
      have hf : y.F[j]? = some y.F[j] := by simp [hlt2]
      have hff := hoy.fF _ (List.getElem_mem hlt2)
      generalize y.F[j] = f at hf hff
      have hfl := filt_len hff
      have hpf := putV_le f.length
      rcases hfrow with ⟨e1, -⟩ | ⟨b2, sp2, rfl, rfl, hsp2⟩
      · have := congrArg List.length e1; simp at this; rw [this] at hlt2; simp at hlt2
      have i5 : HasC c b2 (.cells ⟨strs y.F ++ sp2⟩ 9 (0, 0)) := ⟨hxr _ (by simp)⟩
      refine WP.skip <| WP.seq <| WP.block <| WP.seq <| WP.region <| ?_  -- op t52 := indexAddr 51 t48 t50
      refine v0 (S0.index1 rfl rfl (by omega)) rfl <| ?_
      refine v0 (S0.load rfl (strs_get hf)) rfl <| ?_
      refine v0 (S0.assign rfl) rfl <| vE <| WP.region <| v0 (S0.move rfl) rfl <| v0 (S0.move rfl) rfl <| ?_  -- op t56 := call F53{rivulet/varint.Text}(t55)
      refine vcd (S1.callF rfl (text_spec (s := f) (by omega)) take0) rfl ?_
      -- (nothing to walk: op t57 := add t54 t56 :9)
      refine v0 (S0.addS rfl rfl (by simp only [List.length_append]; omega)) rfl <| ?_
      refine v0 (S0.assign rfl) rfl <| vE <| WP.region <| v0 (S0.ari rfl rfl rfl (wrap_i64 (by omega))) rfl <| v0 (S0.move rfl) rfl <| vE <| ?_  -- roundend
      have ht : (y.F.take (j + 1)).flatMap textB = (y.F.take j).flatMap textB ++ (putV f.length ++ f) := by rw [List.take_add_one, hf]; simp [textB]
      rw [List.append_assoc _ ((y.F.take j).flatMap textB), ← ht]
      exact ⟨j + 1, (by first | exact hlt2 | (dsimp only; exact hlt2)), (by omega), ⟨⟨rfl, rfl, rfl, rfl, rfl, rfl, rfl, rfl, rfl, trivial⟩, rfl, rfl⟩, ⟨_, (take1 at0 (take1 at0 take0))⟩⟩
    · skip
      have hj2 : j = y.F.length := by omega
      subst hj2
      rw [List.take_length] at htx ⊢
      refine WP.exit <| WP.region <| v0 (S0.move rfl) rfl <| v0 (S0.move rfl) rfl <| v0 (S0.move rfl) rfl <| ?_  -- op t62 := call F25{(*rivulet/device.Devices).Marks}(t60, t61)
      rw [← hn] at hmk
      rw [← hn]
      refine vc (S1.callF rfl (mrks_spec hh ho y.i) (take1 (atS at0) take0)) rfl ?_
      rintro mv _ ⟨mrow, hmrow, rfl⟩
      refine app ?_
      rw [hmk] at hmrow
      -- (nothing to walk: op t63 := call F54{rivulet/event.Marks}(t62))
      refine vcd (S1.callF rfl (marks_spec hmrow (by omega)) (take1 at0 take0)) rfl ?_
      have hml := marksB_le y.M
      -- (nothing to walk: op t64 := add t59 t63 :9)
      refine v0 (S0.addS rfl rfl (by simp only [List.length_append]; omega)) rfl <| ?_
      refine v0 (S0.assign rfl) rfl <| vE <| WP.region <| v0 (S0.ari rfl rfl rfl (wrap_i64 (by omega))) rfl <| v0 (S0.move rfl) rfl <| vE <| ?_  -- roundend
      have ht : (S.take (k + 1)).flatMap devB = (S.take k).flatMap devB ++ devB y := by rw [List.take_add_one, hy]; simp
      have e9 : putV S.length ++ (S.take k).flatMap devB ++ (putV n ++ putV y.F.length) ++ y.F.flatMap textB ++ marksB y.M = putV S.length ++ (S.take (k + 1)).flatMap devB := by rw [ht, hdv]; simp
      rw [e9]
      exact ⟨k + 1, (by first | exact hlt | (dsimp only; exact hlt)), (by omega), ⟨⟨rfl, rfl, rfl, rfl, rfl, trivial⟩, rfl, rfl⟩, ⟨_, (take1 (atS (atS at0)) (take1 (atS at0) take0))⟩⟩
  · skip
    have hk2 : k = S.length := by omega
    subst hk2
    refine WP.exit <| WP.seq <| WP.region <| v0 (S0.move rfl) rfl <| v0 (S0.assign rfl) rfl <| vE <| WP.ret <| ?_  -- ret
    refine Leaves.drop (take1 (atS at0) take0) ?_
    refine r1 rfl rfl ⟨?_, rfl⟩
    rw [List.take_length]; rfl
end Go.Proofs.YtanecnnfpdhadaaGreatDoor
/- D8 -/
namespace Go.Proofs.YtanecnnfpdhadaaGreatDoor
open Go

theorem set_set (S : DS) {a b : Dv} (h : a.i = b.i) : setD (setD S a) b = setD S b := by
  unfold setD
  rw [List.map_map]
  refine List.map_congr_left fun x _ => ?_
  simp only [Function.comp_def]
  by_cases e : x.i = b.i
  · rw [if_pos (by omega : x.i = a.i), if_pos h, if_pos e]
  · rw [if_neg (by omega : ¬ x.i = a.i), if_neg e]
theorem setMk_end {M : List MkT} {x : MkT} (h : ∀ z ∈ M, z.1 < x.1) : setMk M x = M ++ [x] := by
  unfold setMk
  have e1 : M.filter (fun z => decide (z.1 < x.1)) = M := List.filter_eq_self.2 fun z hz => by have := h z hz; simp [this]
  have e2 : M.filter (fun z => decide (x.1 < z.1)) = [] := List.filter_eq_nil_iff.2 fun z hz => by have := h z hz; simp; omega
  rw [e1, e2]
theorem ris_before {L : List MkT} (h : RisM L) {k : Nat} {x : MkT} (hx : L[k]? = some x) : ∀ z ∈ L.take k, z.1 < x.1 := by
  intro z hz
  obtain ⟨hk, rfl⟩ := List.getElem?_eq_some_iff.1 hx
  obtain ⟨j, hj, rfl⟩ := List.getElem_of_mem hz
  have hj2 : j < k := by rw [List.length_take] at hj; omega
  rw [List.getElem_take]
  exact List.pairwise_iff_getElem.1 h j k (by omega) hk hj2
theorem dev_swap {T : TypeId} {D : DL} {S : DS} {i : Int} {x x' : Rc} {y1 y2 : Dv} (hm : Mat T D (setD S y1)) (hR : getR D i = some x) (h1 : y1.i = i) (h2 : y2.i = i) (hS : findD S i ≠ none) (hx : x'.is T y2) : Mat T (setR D i x') (setD S y2) := by
  refine hm.step i (getR_set hR) (fun j => ?_) (b := some y2) hx
  rw [find_set (by rw [h2]; exact hS), find_set (by rw [h1]; exact hS), h1, h2]
  by_cases e : j = i <;> simp [e]
theorem read_spec {db : Nat} {S : DS} {c : List Blk} (h : IsDev db S c) (ho : DevOk S) {s : Str} {a : Nat} (hs : s.length ≤ 1000000) (ha : a ≤ s.length) :
    FX Tryz.prog 50 [.pointer (some ⟨db, 0, none⟩), sv s, .int .i64 (a : Int)] [c]
      (fun u h => ∃ S' b c' w, readD s S a = some (S', b) ∧ b ≤ s.length ∧ DevOk S' ∧ IsDev db S' c' ∧ u = .tuple ⟨[w, .int .i64 (b : Int)]⟩ ∧ h = [c']) (fun u _ => readD s S a = none ∧ u = errF) := by
  refine FX.intro 88 [(0, .pointer (some ⟨db, 0, none⟩)), (1, sv s), (2, .int .i64 (a : Int))] Tryz.func50 rfl (enters Tryz.func50 (by kernel_rfl) rfl) Tryz.ntmps50 rfl rfl ?_
  refine WP.seq <| WP.region <| v0 (S0.assign rfl) rfl <| v0 (S0.assign rfl) rfl <| vE <| WP.seq <| WP.region <| v0 (S0.move rfl) rfl <| v0 (S0.move rfl) rfl <| ?_  -- op t20 := call F49{rivulet/device.num}(t18, t19, 1099511627776:i64)
  refine vcX rfl (numX_spec (top := 1099511627776) hs ha (by omega)) take0 rfl ?_ ?_
  · rintro _ _ ⟨hn, rfl, rfl⟩; exact ⟨rfl, _, rfl, by unfold readD; rw [hn], rfl⟩
  rintro _ _ ⟨id, a1, hn, rfl, rfl⟩
  refine app ?_
  obtain ⟨ha1, hid⟩ := numD_le hn
  have er : readD s S a = if (joinD S id).1 = 0 then filtsD s id (joinD S id).2 a1 else none := by unfold readD; rw [hn]
  refine v0 (S0.move rfl) rfl <| v0 (S0.extract rfl rfl) rfl <| v0 (S0.extract rfl rfl) rfl <| v0 (S0.assign rfl) rfl <| v0 (S0.assign rfl) rfl <| vE <| WP.seq <| WP.region <| v0 (S0.move rfl) rfl <| v0 (S0.move rfl) rfl <| ?_  -- op t25 := call F11{(*rivulet/device.Devices).Join}(t23, t24)
  refine vc (S1.callF rfl (join_spec h ho (id : Int)) (take1 at0 take0)) rfl ?_
  rintro _ _ ⟨c1, hd1, rfl, rfl⟩
  refine app ?_
  refine v0 (S0.cmp rfl rfl rfl) rfl <| ?_  -- op t27 := call F51{rivulet/device.must}(t26)
  refine vcX rfl (must_spec _) take0 rfl ?_ ?_
  · rintro _ _ ⟨hb, rfl, rfl⟩; exact ⟨rfl, _, rfl, by rw [er, if_neg (by simpa using hb)], rfl⟩
  rintro _ _ ⟨hb, rfl, rfl⟩
  refine app ?_
  have hj0 : (joinD S id).1 = 0 := by simpa using hb
  rw [if_pos hj0] at er
  have hjn : findD (joinD S id).2 id = some ⟨id, [], []⟩ := by
    unfold joinD at hj0 ⊢
    by_cases h1 : (id : Int) < 0 ∨ 1099511627776 < (id : Int)
    · rw [if_pos h1] at hj0; cases hj0
    · rw [if_neg h1] at hj0 ⊢
      by_cases h2 : (findD S id).isSome = true
      · rw [if_pos h2] at hj0; cases hj0
      · rw [if_neg h2] at hj0 ⊢
        by_cases h3 : 16 ≤ S.length
        · rw [if_pos h3] at hj0; cases hj0
        · rw [if_neg h3]
          show findD (insD S ⟨id, [], []⟩) id = _
          rw [find_ins (y := ⟨id, [], []⟩) (by simpa using h2)]; simp
  have ho1 := ho.join (id : Int)
  generalize (joinD S id).2 = SA at er hjn ho1 hd1
  refine vE <| WP.seq <| WP.region <| v0 (S0.move rfl) rfl <| v0 (S0.move rfl) rfl <| ?_  -- op t31 := call F49{rivulet/device.num}(t29, t30, 8:i64)
  refine vcX rfl (numX_spec (top := 8) hs ha1 (by omega)) take0 rfl ?_ ?_
  · rintro _ _ ⟨hn2, rfl, rfl⟩; exact ⟨rfl, _, rfl, by rw [er]; unfold filtsD; rw [hn2], rfl⟩
  rintro _ _ ⟨many, a2, hn2, rfl, rfl⟩
  refine app ?_
  obtain ⟨ha2, hmany⟩ := numD_le hn2
  have er2 : readD s S a = match asksD s id many SA a2 with | none => none | some (S2, a3) => marksD s id S2 a3 := by rw [er]; unfold filtsD; rw [hn2]; rfl
  clear er
  refine v0 (S0.move rfl) rfl <| v0 (S0.extract rfl rfl) rfl <| v0 (S0.extract rfl rfl) rfl <| v0 (S0.assign rfl) rfl <| v0 (S0.assign rfl) rfl <| vE <| WP.seq <| WP.seq <| WP.region <| v0 (S0.move rfl) rfl <| v0 (S0.move rfl) rfl <| vE <| WP.block <| ?_  -- Code.loop
  refine WP.loop (fun st : Nat × DS × List Blk × Nat => st.1 ≤ many ∧ IsDev db st.2.1 st.2.2.1 ∧ DevOk st.2.1 ∧ st.2.2.2 ≤ s.length ∧ (∃ F, findD st.2.1 id = some ⟨id, F, []⟩) ∧ asksD s id many SA a2 = asksD s id (many - st.1) st.2.1 st.2.2.2) (fun st : Nat × DS × List Blk × Nat => [(0, .pointer (some ⟨db, 0, none⟩)), (1, sv s), (2, .int .i64 (st.2.2.2 : Int)), (8, .int .i64 (id : Int)), (34, .int .i64 (many : Int)), (35, .int .i64 (st.1 : Int))]) (fun st : Nat × DS × List Blk × Nat => [st.2.2.1]) (fun st : Nat × DS × List Blk × Nat => many - st.1) ((0, SA, c1, a2)) (⟨Nat.zero_le _, hd1, ho1, ha2, ⟨[], hjn⟩, rfl⟩) ⟨rfl, rfl, rfl, rfl, rfl, rfl, trivial⟩ ⟨_, (take1 at0 take0)⟩ (fun st hinv => ?_) 
  obtain ⟨j, S2, c2, a3⟩ := st
  obtain ⟨hj, hd2, ho2, ha3, ⟨F, hF⟩, has⟩ := hinv
  dsimp only at hj hd2 ho2 ha3 hF has ⊢
  refine WP.seq <| WP.region <| v0 (S0.cmp rfl rfl rfl) rfl <| vE <| WP.seq <| ?_  -- cond
  first | refine WP.condP rfl (fun h1 => ?_) (fun h1 => ?_) | refine WP.condN rfl (fun h1 => ?_) (fun h1 => ?_) | refine WP.cond rfl (fun h1 => ?_) (fun h1 => ?_)
  · skip
    have hlt : j < many := by omega
    rw [show many - j = (many - (j + 1)) + 1 by omega, asksD] at has
    refine WP.skip <| WP.seq <| WP.block <| WP.seq <| WP.region <| v0 (S0.move rfl) rfl <| v0 (S0.move rfl) rfl <| ?_  -- op t40 := call F78{rivulet/varint.Cut}(t38, t39)
    refine vcd (S1.callF rfl (cut_spec0 hs (by omega)) take0) rfl ?_
    refine v0 (S0.move rfl) rfl <| v0 (S0.extract rfl rfl) rfl <| v0 (S0.extract rfl rfl) rfl <| v0 (S0.extract rfl rfl) rfl <| v0 (S0.assign rfl) rfl <| v0 (S0.assign rfl) rfl <| v0 (S0.assign rfl) rfl <| vE <| WP.seq <| WP.region <| v0 (S0.move rfl) rfl <| v0 (S0.cmp rfl rfl rfl) rfl <| v0 (S0.move rfl) rfl <| ?_  -- guard t46 (wants True) at t47 := move t0 [if #2=True]
    first | refine csP (t := 46) rfl (fun h2 => ?_) (fun h2 => ?_) | refine csN (t := 46) rfl (fun h2 => ?_) (fun h2 => ?_) | refine cs (t := 46) rfl (fun h2 => ?_) (fun h2 => ?_)
    · skip
      obtain ⟨hc1, hc2, hc3⟩ := cutV_le h2
      generalize (cutV s a3).2.1.toNat = p at hc1 hc3 has
      rw [hc3]
      refine gT rfl <| v0 (S0.move rfl) rfl <| gT rfl <| v0 (S0.move rfl) rfl <| gT rfl <| v0 (S0.move rfl) rfl <| ?_  -- op t50 := call F15{(*rivulet/device.Devices).Ask}(t47, t48, t49, true) [if #2=True]
      refine gT rfl <| vc (S1.callF rfl (ask_spec hd2 ho2 (id : Int) (f := (cutV s a3).1) (by omega) true) (take1 at0 take0)) rfl ?_
      rintro _ _ ⟨c3, hd3, rfl, rfl⟩
      refine app ?_
      have ho3 := ho2.ask (id : Int) (cutV s a3).1 true
      refine gT rfl <| v0 (S0.cmp rfl rfl rfl) rfl <| v0 (S0.pickT rfl rfl) rfl <| ?_  -- op t53 := call F51{rivulet/device.must}(t52)
      refine vcX rfl (must_spec _) take0 rfl ?_ ?_
      · rintro _ _ ⟨hb, rfl, rfl⟩; exact ⟨rfl, _, rfl, by rw [er2, has, if_neg (fun e => by simp [e.2] at hb)], rfl⟩
      rintro _ _ ⟨hb, rfl, rfl⟩
      refine app ?_
      have hb0 : (askD S2 id (cutV s a3).1 true).1 = 0 := by simpa using hb
      rw [if_pos ⟨h2, hb0⟩] at has
      have hF2 : ∃ F, findD (askD S2 id (cutV s a3).1 true).2 id = some ⟨id, F, []⟩ := by
        unfold askD; rw [hF]
        exact ⟨_, by rw [find_set (by simp only; rw [hF]; simp)]; simp; rfl⟩
      refine vE <| WP.region <| v0 (S0.move rfl) rfl <| v0 (S0.assign rfl) rfl <| vE <| WP.region <| v0 (S0.ari rfl rfl rfl (wrap_i64 (by omega))) rfl <| v0 (S0.move rfl) rfl <| vE <| ?_  -- roundend
      exact ⟨(j + 1, (askD S2 id (cutV s a3).1 true).2, c3, p), (by first | exact ⟨hlt, hd3, ho3, hc1, hF2, has⟩ | (dsimp only; exact ⟨hlt, hd3, ho3, hc1, hF2, has⟩)), (show many - (j + 1) < many - j by omega), ⟨⟨rfl, rfl, rfl, rfl, rfl, rfl, trivial⟩, rfl, rfl⟩, ⟨_, (take1 at0 take0)⟩⟩
    · skip
      refine gF rfl rfl <| gF rfl rfl <| gF rfl rfl <| gF rfl rfl <| gF rfl rfl <| v0 (S0.pickF rfl rfl) rfl <| ?_  -- op t53 := call F51{rivulet/device.must}(t52)
      refine vcX rfl (must_spec _) take0 rfl ?_ ?_
      · rintro _ _ ⟨hb, rfl, rfl⟩; exact ⟨rfl, _, rfl, by rw [er2, has, if_neg (fun e => h2 e.1)], rfl⟩
      rintro _ _ ⟨hb, rfl, rfl⟩
      refine app ?_
      cases hb
  · skip
    have hj2 : j = many := by omega
    subst hj2
    rw [Nat.sub_self, asksD] at has
    have er3 : readD s S a = marksD s id S2 a3 := by rw [er2, has]
    clear er2
    have hfn : findD S2 id ≠ none := by rw [hF]; simp
    refine WP.exit <| WP.seq <| WP.region <| v0 (S0.move rfl) rfl <| v0 (S0.move rfl) rfl <| ?_  -- op t59 := call F79{rivulet/event.Cut}(t57, t58)
    refine vc (S1.callF rfl (mcut_spec hs ha3) take0) rfl ?_
    rintro _ _ ⟨mv, mrow, rfl, hsM, rfl⟩
    refine app ?_
    refine v0 (S0.move rfl) rfl <| v0 (S0.extract rfl rfl) rfl <| v0 (S0.extract rfl rfl) rfl <| v0 (S0.extract rfl rfl) rfl <| v0 (S0.assign rfl) rfl <| v0 (S0.assign rfl) rfl <| v0 (S0.assign rfl) rfl <| vE <| WP.seq <| WP.region <| v0 (S0.move rfl) rfl <| v0 (S0.cmp rfl rfl rfl) rfl <| ?_  -- op t65 := call F51{rivulet/device.must}(t64)
    refine vcX rfl (must_spec _) take0 rfl ?_ ?_
    · rintro _ _ ⟨hb, rfl, rfl⟩; exact ⟨rfl, _, rfl, by rw [er3]; unfold marksD; rw [if_neg (by simpa using hb)], rfl⟩
    rintro _ _ ⟨hb, rfl, rfl⟩
    refine app ?_
    have hb0 : (cutM s a3).2.2 = 0 := by simpa using hb
    obtain ⟨hp, hsort, hp3⟩ := cutM_le ha3 hb0
    obtain ⟨hris, hmb, hlM⟩ := sortedM_iff.1 hsort
    have er4 : readD s S a = some (setD S2 ⟨id, F, (cutM s a3).1⟩, (cutM s a3).2.1.toNat) := by
      rw [er3]; unfold marksD setMs; rw [if_pos hb0, hF]
    generalize (cutM s a3).1 = L at hsM hsort hris hmb hlM er4
    generalize (cutM s a3).2.1.toNat = p at hp hp3 er4
    rw [hp3]
    obtain ⟨ma, mcap, rfl, hmcap, hmrow⟩ := IsSl.elems (k := 1) enM_len hsM
    have hoF := ho2.all _ (find_mem hF).1
    have hd0 : IsDev db (setD S2 ⟨id, F, L.take 0⟩) c2 := by
      rw [List.take_zero, set_same ho2.asc (find_mem hF).1]; exact hd2
    refine vE <| WP.seq <| WP.seq <| WP.region <| v0 (S0.move rfl) rfl <| v0 (S0.lenSl rfl) rfl <| v0 (S0.move rfl) rfl <| vE <| WP.block <| ?_  -- Code.loop
    refine WP.loop (fun st : Nat × List Blk => st.1 ≤ L.length ∧ IsDev db (setD S2 ⟨id, F, L.take st.1⟩) st.2) (fun st : Nat × List Blk => [(0, .pointer (some ⟨db, 0, none⟩)), (2, .int .i64 (p : Int)), (8, .int .i64 (id : Int)), (66, .slice ma L.length mcap), (67, .int .i64 (L.length : Int)), (68, .int .i64 (st.1 : Int))]) (fun st : Nat × List Blk => [mrow, st.2]) (fun st : Nat × List Blk => L.length - st.1) ((0, c2)) (⟨Nat.zero_le _, hd0⟩) ⟨rfl, rfl, rfl, rfl, rfl, rfl, trivial⟩ ⟨_, (take1 at0 (take1 at0 take0))⟩ (fun st hinv => ?_) 
    obtain ⟨k, c4⟩ := st
    obtain ⟨hk, hd4⟩ := hinv
    dsimp only at hk hd4 ⊢
    refine WP.seq <| WP.region <| v0 (S0.cmp rfl rfl rfl) rfl <| vE <| WP.seq <| ?_  -- cond
    first | refine WP.condP rfl (fun h3 => ?_) (fun h3 => ?_) | refine WP.condN rfl (fun h3 => ?_) (fun h3 => ?_) | refine WP.cond rfl (fun h3 => ?_) (fun h3 => ?_)
    · skip
      have hlt : k < L.length := by omega
      rcases hmrow with ⟨e, -⟩ | ⟨b1, sp1, rfl, rfl, hsp1⟩
      · rw [e] at hlt; simp at hlt
      have hx : L[k]? = some L[k] := by simp [hlt]
      generalize L[k] = x at hx
      have hbef := ris_before hris hx
      have htk : L.take (k + 1) = L.take k ++ [x] := by rw [List.take_add_one, hx]; rfl
      obtain ⟨D, m, cm, hw, hm, rfl⟩ := hd4
      have hfi : findD (setD S2 ⟨id, F, L.take k⟩) id = some ⟨id, F, L.take k⟩ := by rw [find_set (by simp only; exact hfn)]; simp
      obtain ⟨r, hR, hr⟩ := hm.some hfi
      obtain ⟨C, hc1, -, hc3⟩ := dblks_split 72 hR
      have hput := hr.put x
      simp only [setMk_end hbef, ← htk] at hput
      have hds : dml (setR D id { r with A := putM r.A r.ck x.1 (.int .i64 x.2), ck := clkM r.A r.ck x.1 }) = dml D := dml_set hR rfl
      have hc4 := hc3 { r with A := putM r.A r.ck x.1 (.int .i64 x.2), ck := clkM r.A r.ck x.1 }
      have hm2 := dev_swap hm hR rfl rfl hfn hput
      refine WP.skip <| WP.seq <| WP.block <| WP.seq <| WP.region <| ?_  -- op t70 := indexAddr 49 t66 t68
      refine WO.perm (h' := [[(b1, .cells ⟨L.flatMap enM ++ sp1⟩ 54 (0, 0))], [(db, cel [.map (some m)] 68), (m, mapO (Value.int .i64) (dml D) cm)], [(r.b, .cells ⟨[r.v, .map (some r.mm)]⟩ 72 (0, 0))], [(r.mm, mapO (Value.int .i64) r.A r.ck)], r.row, C]) (k := []) (pm fun a_ => by have h0_ := pm_of (hc1) a_; (try simp only [List.flatten_append, List.flatten_cons, List.flatten_nil, List.append_nil, List.cons_append, List.nil_append, List.append_assoc, nOf_app, nOf_cons, nOf_nil, Nat.add_zero, Nat.zero_add, List.map_append, List.map_cons, List.map_nil, cel, sv, Rc.blks] at h0_); (try simp only [List.flatten_append, List.flatten_cons, List.flatten_nil, List.append_nil, List.cons_append, List.nil_append, List.append_assoc, nOf_app, nOf_cons, nOf_nil, Nat.add_zero, Nat.zero_add, List.map_append, List.map_cons, List.map_nil, cel, sv, Rc.blks]); first | done | omega) ?_
      refine v0 (S0.indexN (k := 2) rfl rfl hlt) rfl <| ?_
      refine v0 (S0.loadA rfl (flat_take enM_len sp1 L k x hx) rfl) rfl <| ?_
      skip
      refine vn (S1.alloc) rfl fun b16 => vs (S1.storeA rfl rfl rfl) <| vE <| WP.drawP [(0, none), (1, none), (2, none), (3, none), (4, none), (5, none), (6, none), (7, none), (8, none), (9, none), (10, none), (11, none), (12, none), (13, none)] mixed (by kernel_rfl) (by kernel_rfl) (by kernel_rfl) (take1 at0 (take1 (atS at0) (take1 (atS at0) take0))) <| w0 rfl rfl rfl (S0.move rfl) rfl <| w0 rfl rfl rfl (S0.nilCheck rfl) rfl <| w0 rfl rfl rfl (S0.fieldAddr rfl) rfl <| w0 rfl rfl rfl (S0.load rfl rfl) rfl <| w0 rfl rfl rfl (S0.move rfl) rfl <| ?_  -- op t77 := lookup 66 t75 t76 false
      refine w0 rfl rfl rfl (S0.lookupS (ek := Value.int .i64) (k := (id : Int)) (v := .pointer (some ⟨r.b, 0, none⟩)) rfl rfl (by rw [dml_get, hR]; rfl)) rfl <| ?_
      refine w0 rfl rfl rfl (S0.nilCheck rfl) rfl <| w0 rfl rfl rfl (S0.fieldAddr rfl) rfl <| w0 rfl rfl rfl (S0.load rfl rfl) rfl <| w0 rfl rfl rfl (S0.fieldAddr rfl) rfl <| w0 rfl rfl rfl (S0.load rfl rfl) rfl <| w0 rfl rfl rfl (S0.fieldAddr rfl) rfl <| w0 rfl rfl rfl (S0.load rfl rfl) rfl <| ?_  -- op mapUpdate 70 t80 t82 t84
      refine ws rfl rfl rfl rfl (S1.mapUpdate (ek := Value.int .i64) (k := x.1) rfl rfl rfl) <| ?_
      refine wE <| WP.region <| v0 (S0.ari rfl rfl rfl (wrap_i64 (by omega))) rfl <| v0 (S0.move rfl) rfl <| vE <| ?_  -- roundend
      exact ⟨(k + 1, (db, cel [.map (some m)] 68) :: (m, mapO (Value.int .i64) (dml (setR D id { r with A := putM r.A r.ck x.1 (.int .i64 x.2), ck := clkM r.A r.ck x.1 })) cm) :: dblks 72 (setR D id { r with A := putM r.A r.ck x.1 (.int .i64 x.2), ck := clkM r.A r.ck x.1 })), (by first | exact ⟨hlt, ⟨_, m, cm, by rw [hds]; exact hw, hm2, rfl⟩⟩ | (dsimp only; exact ⟨hlt, ⟨_, m, cm, by rw [hds]; exact hw, hm2, rfl⟩⟩)), (show L.length - (k + 1) < L.length - k by omega), ⟨⟨rfl, rfl, rfl, rfl, rfl, rfl, trivial⟩, rfl, rfl⟩, ⟨[[(b16, .cells ⟨[.int .i64 x.1, .int .i64 x.2]⟩ 54 (0, 0))]], (pm fun a_ => by have h0_ := pm_of (hc4) a_; (try simp only [List.flatten_append, List.flatten_cons, List.flatten_nil, List.append_nil, List.cons_append, List.nil_append, List.append_assoc, nOf_app, nOf_cons, nOf_nil, Nat.add_zero, Nat.zero_add, List.map_append, List.map_cons, List.map_nil, cel, sv, Rc.blks, hds, enM] at h0_); (try simp only [List.flatten_append, List.flatten_cons, List.flatten_nil, List.append_nil, List.cons_append, List.nil_append, List.append_assoc, nOf_app, nOf_cons, nOf_nil, Nat.add_zero, Nat.zero_add, List.map_append, List.map_cons, List.map_nil, cel, sv, Rc.blks, hds, enM]); first | done | omega)⟩⟩
    · skip
      have hk2 : k = L.length := by omega
      subst hk2
      rw [List.take_length] at hd4
      refine WP.exit <| WP.seq <| WP.region <| v0 (S0.move rfl) rfl <| v0 (S0.move rfl) rfl <| v0 (S0.assign rfl) rfl <| v0 (S0.assign rfl) rfl <| vE <| WP.ret <| ?_  -- ret
      refine Leaves.drop (take1 (atS at0) take0) ?_
      refine r2 rfl rfl rfl ?_
      exact ⟨_, p, c4, _, er4, hp, ho2.set ⟨hoF.id, hoF.sF, hoF.fF, hoF.lF, hsort⟩, hd4, rfl, rfl⟩
end Go.Proofs.YtanecnnfpdhadaaGreatDoor
/- D9 -/
namespace Go.Proofs.YtanecnnfpdhadaaGreatDoor
open Go

section
variable {P : Program} {f : Fr} {d : Option Tmp} {ty : TypeId} {p : String} {af : Array Edge} {gd : Option (Nat × Bool)}
theorem run_equalInI0 {T : TypeId} {ms} (hu : P.underlying T = some (.interface ms)) (n : Nat) (w : World) : (Op.equalIn (n + 1) T .nilIface .nilIface).run P w = .ok true w := by
  simp only [Op.equalIn, Sem.run_bind, run_underlying hu, Result.andThen_ok, Sem.run_pure]
theorem run_equalInI1 {T : TypeId} {ms} (hu : P.underlying T = some (.interface ms)) (t : TypeId) (u : Value) (n : Nat) (w : World) : (Op.equalIn (n + 1) T (.iface t u) .nilIface).run P w = .ok false w := by
  simp only [Op.equalIn, Sem.run_bind, run_underlying hu, Result.andThen_ok, Sem.run_pure]
/-- an interface's value that is not nil -/
theorem S0.neqNilI {T U : TypeId} {SL : List Blk} {x : Operand} {v : Value} {q : Bool} {ms} (hu : P.underlying T = some (.interface ms)) (hx : ev f x = some v) (hv : (v = .nilIface ∧ q = false) ∨ (∃ t u, v = .iface t u) ∧ q = true) : S0 P f SL ⟨d, .binOp .neq T x (.const .nilIface) U, ty, p, af, gd⟩ (.bool q) :=
  S0.pure (by intro c; simp) (by intro c; simp) fun ρ w k' => by
    have hy : ρ (.const .nilIface) = .nilIface := k' (.const .nilIface) .nilIface rfl
    rcases hv with ⟨rfl, rfl⟩ | ⟨⟨t, u, rfl⟩, rfl⟩
    · have e1 : (Op.equal T .nilIface .nilIface).run P w = .ok true w := run_equalInI0 hu 9999 w
      simp [execOp, k' _ _ hx, hy, eqGuard, binOp, e1]
    · have e1 : (Op.equal T (.iface t u) .nilIface).run P w = .ok false w := run_equalInI1 hu t u 9999 w
      simp [execOp, k' _ _ hx, hy, eqGuard, binOp, e1]
end
abbrev out2 (b2 b3 : Nat) (v : Value) (e : Int) : Hp := [[(b2, cel [v] 24)], [(b3, cel [.int .i64 e] 34)]]
theorem load1_held {b2 b3 : Nat} {v : Value} {e : Int} : DC Tryz.prog 48 [ptrB b2, ptrB b3] (held errF false) (held errF true) (out2 b2 b3 v e) (out2 b2 b3 (.pointer none) 4) := by
  refine DC.recover Tryz.func48 rfl rfl (Rec.held errF) rfl rfl rfl ?_
  show WP _ _ _ _ ⟨6, [(2, errF), (3, errF), (0, ptrB b2), (1, ptrB b3)], []⟩ _
  refine WP.seq <| WP.region <| v0 (S0.move rfl) rfl <| ?_  -- op t5 := neq t4 Value.nilIface :20
  refine v0 (S0.neqNilI Tryz.underlying20 rfl (.inr ⟨⟨_, _, rfl⟩, rfl⟩)) rfl <| ?_
  refine vE <| ?_  -- cond
  refine WP.condTh rfl (rfl) ?_
  refine WP.region <| vs (S1.store rfl rfl (by first | rfl | exact IsSl.cv (by assumption))) <| vs (S1.store rfl rfl (by first | rfl | exact IsSl.cv (by assumption))) <| vE <| ?_  -- fnend
  exact ⟨.inl rfl, rfl, List.Perm.refl _⟩
theorem load1_ret {b2 b3 : Nat} {v : Value} {e : Int} : DC Tryz.prog 48 [ptrB b2, ptrB b3] .returning .returning (out2 b2 b3 v e) (out2 b2 b3 v e) := by
  refine DC.recover Tryz.func48 rfl rfl (Rec.ret) rfl rfl rfl ?_
  show WP _ _ _ _ ⟨6, [(2, .nilIface), (3, .nilIface), (0, ptrB b2), (1, ptrB b3)], []⟩ _
  refine WP.seq <| WP.region <| v0 (S0.move rfl) rfl <| ?_  -- op t5 := neq t4 Value.nilIface :20
  refine v0 (S0.neqNilI Tryz.underlying20 rfl (.inl ⟨rfl, rfl⟩)) rfl <| ?_
  refine vE <| ?_  -- cond
  refine WP.condFh rfl (rfl) ?_
  refine WP.skip <| ?_  -- fnend
  exact ⟨.inl rfl, rfl, List.Perm.refl _⟩
abbrev dcl (b2 b3 : Nat) : List Deferred := [{ target := .fn (.func 48) ⟨[ptrB b2, ptrB b3]⟩, args := ⟨[]⟩ }]
theorem load_pan {fn : Func} {post : Value → Hp → Prop} {n : Nat} {sl : List (Nat × Value)} {h hr : Hp} {b2 b3 : Nat} {v0 : Value} {e0 : Int} (hres : fn.results.toList = [.cell 2 24, .cell 3 34]) (h2 : look 2 sl = some (ptrB b2)) (h3 : look 3 sl = some (ptrB b3))
    (hp : h.flatten.Perm ((out2 b2 b3 v0 e0).flatten ++ hr.flatten)) (hpost : ∀ j : List Blk, post (.tuple ⟨[.pointer none, .int .i64 4]⟩) [j]) : ∃ caps, RetR Tryz.prog fn 48 caps post (.panic [{ v := errF, recovered := false }]) ⟨n, sl, dcl b2 b3⟩ h := by
  refine ⟨[ptrB b2, ptrB b3], rfl, errF, out2 b2 b3 v0 e0, out2 b2 b3 (.pointer none) 4, hr, rfl, hp, load1_held, ?_⟩
  refine Leaves.drop (h' := [(out2 b2 b3 (.pointer none) 4).flatten]) (k := hr) (by simp) ?_
  exact rc2 hres h2 (load_sca (l := [.pointer none]) (U := 24) (fz := (0, 0)) (by simp) rfl) h3 (load_sca (l := [.int .i64 4]) (U := 34) (fz := (0, 0)) (by simp) rfl) (hpost _)
theorem load_ret {fn : Func} {post : Value → Hp → Prop} {n : Nat} {sl : List (Nat × Value)} {h : Hp} {c : List Blk} {b2 b3 db : Nat} (hres : fn.results.toList = [.cell 2 24, .cell 3 34]) (h2 : look 2 sl = some (ptrB b2)) (h3 : look 3 sl = some (ptrB b3))
    (hp : h.flatten.Perm ((out2 b2 b3 (ptrB db) 0).flatten ++ [c].flatten)) (hpost : ∀ j : List Blk, post (.tuple ⟨[ptrB db, .int .i64 0]⟩) [c, j]) : ∃ caps, RetR Tryz.prog fn 48 caps post .ret ⟨n, sl, dcl b2 b3⟩ h := by
  refine ⟨[ptrB b2, ptrB b3], rfl, out2 b2 b3 (ptrB db) 0, out2 b2 b3 (ptrB db) 0, [c], hp, load1_ret, ?_⟩
  refine Leaves.drop (h' := [c, (out2 b2 b3 (ptrB db) 0).flatten]) (k := []) (pm fun a_ => by (try simp only [List.flatten_append, List.flatten_cons, List.flatten_nil, List.append_nil, List.cons_append, List.nil_append, List.append_assoc, nOf_app, nOf_cons, nOf_nil, Nat.add_zero, Nat.zero_add, List.map_append, List.map_cons, List.map_nil, cel, sv]); first | done | omega) ?_
  exact rc2 hres h2 (load_sca (l := [ptrB db]) (U := 24) (fz := (0, 0)) (by simp) rfl) h3 (load_sca (l := [.int .i64 0]) (U := 34) (fz := (0, 0)) (by simp) rfl) (hpost _)
theorem load_spec {s : Str} (hs : s.length ≤ 1000000) : FN Tryz.prog 20 [sv s] [] (fun u h => (∃ S db c j, loadD s = some S ∧ DevOk S ∧ IsDev db S c ∧ u = .tuple ⟨[.pointer (some ⟨db, 0, none⟩), .int .i64 0]⟩ ∧ h = [c, j]) ∨ (∃ j, loadD s = none ∧ u = .tuple ⟨[.pointer none, .int .i64 4]⟩ ∧ h = [j])) := by
  refine FN.introR (caps := []) (k := 48) 31 [(0, sv s)] Tryz.func20 rfl (enters Tryz.func20 (by kernel_rfl) rfl) (enters Tryz.func48 (by kernel_rfl) rfl) Tryz.ntmps20 rfl rfl ?_
  refine WP.seq <| WP.region <| vn (S1.alloc) rfl fun b2 => vn (S1.alloc) rfl fun b3 => vE <| WP.seq <| WP.region <| v0 (S0.makeFunc rfl rfl) rfl <| ?_  -- op defer tmp', 7)), 'args': [], 'argTypes': []}
  refine WO.defer rfl rfl ?_
  refine vE <| WP.seq <| WP.region <| ?_  -- op t8 := call F10{rivulet/device.New}()
  refine vc (S1.callF rfl (new_spec) take0) rfl ?_
  rintro _ _ ⟨db, c0, rfl, hd0, rfl⟩
  refine app ?_
  refine v0 (S0.assign rfl) rfl <| vE <| WP.seq <| WP.region <| v0 (S0.move rfl) rfl <| ?_  -- op t11 := call F49{rivulet/device.num}(t10, 0:i64, 16:i64)
  refine vcX rfl (numX_spec (s := s) (a := 0) (top := 16) hs (Nat.zero_le _) (by omega)) take0 rfl ?_ ?_
  · rintro _ _ ⟨hn, rfl, rfl⟩; exact load_pan (v0 := .pointer none) (e0 := 0) (hr := [c0]) rfl rfl rfl (pm fun a_ => by (try simp only [List.flatten_append, List.flatten_cons, List.flatten_nil, List.append_nil, List.cons_append, List.nil_append, List.append_assoc, nOf_app, nOf_cons, nOf_nil, Nat.add_zero, Nat.zero_add, List.map_append, List.map_cons, List.map_nil, cel, sv]); first | done | omega) (fun j => .inr ⟨j, by unfold loadD; rw [hn], rfl, rfl⟩)
  rintro _ _ ⟨many, a1, hn, rfl, rfl⟩
  refine app ?_
  obtain ⟨ha1, hmany⟩ := numD_le hn
  have er : loadD s = match readsD s many [] a1 with | none => none | some S => if saveD S = s then some S else none := by unfold loadD; rw [hn]; rfl
  refine v0 (S0.move rfl) rfl <| v0 (S0.extract rfl rfl) rfl <| v0 (S0.extract rfl rfl) rfl <| v0 (S0.assign rfl) rfl <| v0 (S0.assign rfl) rfl <| vE <| WP.seq <| WP.seq <| WP.region <| v0 (S0.move rfl) rfl <| v0 (S0.move rfl) rfl <| vE <| WP.block <| ?_  -- Code.loop
  refine WP.loop (fun st : Nat × DS × List Blk × Nat => st.1 ≤ many ∧ IsDev db st.2.1 st.2.2.1 ∧ DevOk st.2.1 ∧ st.2.2.2 ≤ s.length ∧ readsD s many [] a1 = readsD s (many - st.1) st.2.1 st.2.2.2) (fun st : Nat × DS × List Blk × Nat => [(0, sv s), (2, ptrB b2), (3, ptrB b3), (4, ptrB db), (6, .int .i64 (st.2.2.2 : Int)), (14, .int .i64 (many : Int)), (15, .int .i64 (st.1 : Int))]) (fun st : Nat × DS × List Blk × Nat => [st.2.2.1, [(b2, cel [.pointer none] 24)], [(b3, cel [.int .i64 0] 34)]]) (fun st : Nat × DS × List Blk × Nat => many - st.1) ((0, [], c0, a1)) (⟨Nat.zero_le _, hd0, DevOk.nil, ha1, rfl⟩) ⟨rfl, rfl, rfl, rfl, rfl, rfl, rfl, trivial⟩ ⟨[], (pm fun a_ => by (try simp only [List.flatten_append, List.flatten_cons, List.flatten_nil, List.append_nil, List.cons_append, List.nil_append, List.append_assoc, nOf_app, nOf_cons, nOf_nil, Nat.add_zero, Nat.zero_add, List.map_append, List.map_cons, List.map_nil, cel, sv]); first | done | omega)⟩ (fun st hinv => ?_) 
  obtain ⟨j, SA, cA, aA⟩ := st
  obtain ⟨hj, hdA, hoA, haA, hrA⟩ := hinv
  dsimp only at hj hdA hoA haA hrA ⊢
  refine WP.seq <| WP.region <| v0 (S0.cmp rfl rfl rfl) rfl <| vE <| WP.seq <| ?_  -- cond
  first | refine WP.condP rfl (fun h1 => ?_) (fun h1 => ?_) | refine WP.condN rfl (fun h1 => ?_) (fun h1 => ?_) | refine WP.cond rfl (fun h1 => ?_) (fun h1 => ?_)
  · skip
    have hlt : j < many := by omega
    rw [show many - j = (many - (j + 1)) + 1 by omega, readsD] at hrA
    refine WP.skip <| WP.seq <| WP.block <| WP.region <| v0 (S0.move rfl) rfl <| v0 (S0.move rfl) rfl <| v0 (S0.move rfl) rfl <| ?_  -- op t21 := call F50{(*rivulet/device.Devices).read}(t18, t19, t20)
    refine vcX rfl (read_spec hdA hoA hs haA) (take1 at0 take0) rfl ?_ ?_
    · rintro _ hq ⟨hn2, rfl⟩; exact load_pan (v0 := .pointer none) (e0 := 0) (hr := hq) rfl rfl rfl (pm fun a_ => by (try simp only [List.flatten_append, List.flatten_cons, List.flatten_nil, List.append_nil, List.cons_append, List.nil_append, List.append_assoc, nOf_app, nOf_cons, nOf_nil, Nat.add_zero, Nat.zero_add, List.map_append, List.map_cons, List.map_nil, cel, sv]); first | done | omega) (fun j => .inr ⟨j, by rw [er, hrA, hn2], rfl, rfl⟩)
    rintro _ _ ⟨SB, aB, cB, w, hn2, haB, hoB, hdB, rfl, rfl⟩
    refine app ?_
    rw [hn2] at hrA
    refine v0 (S0.move rfl) rfl <| v0 (S0.extract rfl rfl) rfl <| v0 (S0.extract rfl rfl) rfl <| v0 (S0.assign rfl) rfl <| vE <| WP.region <| v0 (S0.ari rfl rfl rfl (wrap_i64 (by omega))) rfl <| v0 (S0.move rfl) rfl <| vE <| ?_  -- roundend
    exact ⟨(j + 1, SB, cB, aB), (by first | exact ⟨hlt, hdB, hoB, haB, hrA⟩ | (dsimp only; exact ⟨hlt, hdB, hoB, haB, hrA⟩)), (show many - (j + 1) < many - j by omega), ⟨⟨rfl, rfl, rfl, rfl, rfl, rfl, rfl, trivial⟩, rfl, rfl⟩, ⟨_, (take1 at0 (take1 at0 (take1 at0 take0)))⟩⟩
  · skip
    have hj2 : j = many := by omega
    subst hj2
    rw [Nat.sub_self, readsD] at hrA
    rw [hrA] at er
    refine WP.exit <| WP.seq <| WP.region <| v0 (S0.move rfl) rfl <| ?_  -- op t26 := call F21{(*rivulet/device.Devices).Save}(t25)
    refine vcd (S1.callF rfl (save_spec hdA hoA) (take1 at0 take0)) rfl ?_
    refine v0 (S0.move rfl) rfl <| v0 (S0.cmpS rfl rfl rfl) rfl <| ?_  -- op t29 := call F51{rivulet/device.must}(t28)
    refine vcX rfl (must_spec _) take0 rfl ?_ ?_
    · rintro _ _ ⟨hb, rfl, rfl⟩; exact load_pan (v0 := .pointer none) (e0 := 0) (hr := [cA]) rfl rfl rfl (pm fun a_ => by (try simp only [List.flatten_append, List.flatten_cons, List.flatten_nil, List.append_nil, List.cons_append, List.nil_append, List.append_assoc, nOf_app, nOf_cons, nOf_nil, Nat.add_zero, Nat.zero_add, List.map_append, List.map_cons, List.map_nil, cel, sv]); first | done | omega) (fun j => .inr ⟨j, by rw [er]; exact if_neg (by simpa using hb), rfl, rfl⟩)
    rintro _ _ ⟨hb, rfl, rfl⟩
    refine app ?_
    have hsv : saveD SA = s := by simpa using hb
    refine vE <| WP.seq <| WP.region <| v0 (S0.move rfl) rfl <| vs (S1.store rfl rfl (by first | rfl | exact IsSl.cv (by assumption))) <| vs (S1.store rfl rfl (by first | rfl | exact IsSl.cv (by assumption))) <| vE <| WP.ret <| ?_  -- ret
    exact load_ret (c := cA) rfl rfl rfl (pm fun a_ => by (try simp only [List.flatten_append, List.flatten_cons, List.flatten_nil, List.append_nil, List.cons_append, List.nil_append, List.append_assoc, nOf_app, nOf_cons, nOf_nil, Nat.add_zero, Nat.zero_add, List.map_append, List.map_cons, List.map_nil, cel, sv]); first | done | omega) (fun j => .inl ⟨SA, db, cA, j, by rw [er]; exact if_pos hsv, hoA, hdA, rfl, rfl⟩)
end Go.Proofs.YtanecnnfpdhadaaGreatDoor
/- RdG -/
/-
  'append(x, y...)': y read, elements of whatever kind.
-/
namespace Go.Proofs.YtanecnnfpdhadaaGreatDoor
open Go

theorem rd_all {α : Type} {en : α → List Value} {k : Nat} {L : List Value} (hk : ∀ x, (en x).length = k + 1) : ∀ {R : List α} {o : Nat}, (∀ i x, R[i]? = some x → (L.drop (o + i * (k + 1))).take (k + 1) = en x) → R ≠ [] →
    (L.drop o).take (R.length * (k + 1)) = R.flatMap en ∧ o + R.length * (k + 1) ≤ L.length
  | [], _, _, h => absurd rfl h
  | x :: R, o, h, _ => by
    have h0 := h 0 x rfl
    simp only [Nat.zero_mul, Nat.add_zero] at h0
    have hlen : o + (k + 1) ≤ L.length := by
      have := congrArg List.length h0
      rw [hk, List.length_take, List.length_drop] at this
      omega
    by_cases hR : R = []
    · subst hR
      refine ⟨?_, by simpa using hlen⟩
      simp only [List.length_cons, List.length_nil, List.flatMap_cons, List.flatMap_nil, List.append_nil, Nat.zero_add, Nat.one_mul]
      exact h0
    · obtain ⟨h1, h2⟩ := rd_all hk (R := R) (o := o + (k + 1)) (fun i y hy => by
        have := h (i + 1) y hy
        rw [Nat.succ_mul, Nat.add_comm (i * (k + 1)), ← Nat.add_assoc] at this
        exact this) hR
      refine ⟨?_, ?_⟩
      · rw [List.length_cons, Nat.succ_mul, Nat.add_comm, List.take_add, h0, List.drop_drop, List.flatMap_cons, h1]
      · rw [List.length_cons, Nat.succ_mul]; omega
section
variable {P : Program} {r : Option Nat} {f : Fr} {h : Hp} {d : Option Tmp} {ty : TypeId} {p : String} {af : Array Edge} {gd : Option (Nat × Bool)} {T E T2 E2 : TypeId} {x y : Operand} {k by_ : Nat} {zv v u : Value}
theorem S1.appendR {α : Type} {en : α → List Value} (hk : ∀ x, (en x).length = k + 1) (hcv : ∀ x, (en x).all cellV = true) {R : List α} {l : List Value} {c0 c : List Blk} {hr : Hp} [kk : Und P T (.slice E)] [k2 : Und P T2 (.slice E2)] [ki : Inf P E (k + 1) by_ zv]
    (hx : ev f x = some v) (hs : IsSl E (k + 1) v l c) (hy : ev f y = some u) (hu : Rd (k + 1) en u R c0) (hin : ∀ q ∈ c0, q ∈ h.flatten)
    (hp : h.flatten.Perm (c ++ hr.flatten)) (hz : zv.cells.size = k + 1) (hroom : l.length + R.length * (k + 1) ≤ 1000000000) (hb : by_ ≤ 100000 := by decide) :
    S1 P r ⟨d, .call ⟨.builtin .append, #[x, y], #[T, T2]⟩, ty, p, af, gd⟩ f h (fun v' h' => ∃ c', IsSl E (k + 1) v' (l ++ R.flatMap en) c' ∧ h' = c' :: hr) := by
  have hsl : (R.flatMap en).length = R.length * (k + 1) := flat_len hk R
  have hrm : (l.length + (R.flatMap en).length) * by_ ≤ 140737488355328 ∧ l.length + (R.flatMap en).length < 4611686018427387904 := ⟨by
    rw [hsl]
    have := Nat.mul_le_mul hroom hb
    omega, by omega⟩
  obtain ⟨a, cap, rfl, hcap, hu⟩ := hu
  by_cases hR : R = []
  · subst hR
    simp only [List.flatMap_nil, List.append_nil]
    refine S1.ofRun (by intro c; simp) fun E' R' ρ w k' st => ?_
    have hexec : execOp ρ ⟨d, .call ⟨.builtin .append, #[x, y], #[T, T2]⟩, ty, p, af, gd⟩ = (do pure (.value (← Builtin.append_ #[T, T2] ty #[v, .slice a 0 cap]))) := by
      simp only [execOp, resolve, invoke, builtin]
      simp [k' _ _ hx, k' _ _ hy]
    have hf : (Builtin.firstCells (k + 1) 0 (.slice a 0 cap)).run P w = .ok ⟨[]⟩ w := by
      cases a <;> simp [Builtin.firstCells, loadCells, loadCellsFrom]
    refine ⟨v, _, w, ?_, ⟨c, hs, rfl⟩, by simpa using st.perm (hp.append_right R')⟩
    rw [hexec]
    obtain ⟨ab, n, cp, rfl, hle⟩ : ∃ ab n cp, v = .slice ab n cp ∧ n ≤ cp := by
      cases hs with
      | nil => exact ⟨_, _, _, rfl, Nat.le_refl _⟩
      | row _ _ h3 => exact ⟨_, _, _, rfl, h3⟩
    have := run_append_in (P := P) (ty := ty) (T := T) (T2 := T2) (E := E) (E2 := E2) (k := k + 1) (by_ := by_) (zv := zv) (w := w) (base := ab) (n := n) (c := cp) (m := 0) (ws := []) ⟨a, cap, rfl⟩ hf (by omega) (w' := w) (by cases ab <;> rfl)
    simp [this]
  · rcases hu with e | ⟨b, o, L, U, fz, rfl, hm, hel⟩
    · exact absurd e hR
    obtain ⟨h1, h2⟩ := rd_all hk hel hR
    have h3 := S1.append (P := P) (r := r) (d := d) (ty := ty) (p := p) (af := af) (gd := gd) (T := T) (T2 := T2) (E2 := E2) (kk := kk) (k2 := k2) (ki := ki) hx hs hy (ws := R.flatMap en) (m := R.length) (.inr ⟨b, o, cap, L, U, fz, rfl, hin _ hm, h2, h1⟩) hp (flat_cv hcv R) hz hrm
    exact ⟨fun E' R a w next Q hxx st kont => h3.run E' R a w next Q hxx st fun v h' w' hpost st' => by
      obtain ⟨c', h2, -, h3⟩ := hpost
      exact kont v h' w' ⟨c', h2, h3⟩ st'⟩
end
/-- integers that are read -/
abbrev RdI (v : Value) (R : List Int) (c : List Blk) : Prop := Rd 1 (fun x : Int => [Value.int .i64 x]) v R c
theorem IsSl.rdI {E : TypeId} {R : List Int} {v : Value} {row : List Blk} (h : IsSl E 1 v (ints R) row) : RdI v R row := by
  rw [ints_flat] at h
  exact IsSl.rd (k := 0) (fun _ => rfl) h
end Go.Proofs.YtanecnnfpdhadaaGreatDoor
/- Q1 -/
namespace Go.Proofs.YtanecnnfpdhadaaGreatDoor
open Go

/-- the document's devices at block rb -/
def RD (rb : Nat) (Q : List RO) (c : List Blk) : Prop := ∃ (v : Value) (row : List Blk), IsSl 73 1 v (ptrs Q) row ∧ (∀ x ∈ Q, RO.ok 9 54 x) ∧ c = (rb, cel [v] 29) :: (row ++ rblks 76 Q)
def IsRD (rb : Nat) (S : DS) (c : List Blk) : Prop := ∃ Q, RD rb Q c ∧ Q.map (·.y) = S
theorem ro_has {Q : List RO} {x : RO} {c : List Blk} (hx : x ∈ Q) (hc : ∀ z ∈ rblks 76 Q, z ∈ c) : HasC c x.b (.cells ⟨[.int .i64 x.y.i, x.fv, x.mv]⟩ 76 (0, 0)) ∧ (∀ z ∈ x.frow, z ∈ c) ∧ ∀ z ∈ x.mrow, z ∈ c := by
  have h := fun z hz => hc z (ro_mem (T := 76) hx z hz)
  exact ⟨⟨h _ (by simp [RO.blks])⟩, fun z hz => h z (by simp [RO.blks, hz]), fun z hz => h z (by simp [RO.blks, hz])⟩
def ptrQ (Q : List RO) (i : Int) : Value := match findQ Q i with | some x => x.ptr | none => .pointer none
theorem findQ_take {Q : List RO} {i : Int} {k : Nat} {x : RO} (hno : ∀ (j : Nat) (y : RO), j < k → Q[j]? = some y → y.y.i ≠ i) (hx : Q[k]? = some x) (he : x.y.i = i) : findQ Q i = some x := by
  induction Q generalizing k with
  | nil => simp at hx
  | cons z Q ih =>
    cases k with
    | zero => simp at hx; subst hx; simp [findQ, he]
    | succ k =>
      have h0 := hno 0 z (by omega) rfl
      simp only [findQ, if_neg h0]
      exact ih (k := k) (fun j y hj hy => hno (j + 1) y (by omega) (by simpa using hy)) (by simpa using hx)
theorem findQ_no {Q : List RO} {i : Int} (hno : ∀ (j : Nat) (y : RO), Q[j]? = some y → y.y.i ≠ i) : findQ Q i = none := by
  induction Q with
  | nil => rfl
  | cons z Q ih =>
    have h0 := hno 0 z rfl
    simp only [findQ, if_neg h0]
    exact ih fun j y hy => hno (j + 1) y (by simpa using hy)
theorem find_spec {rb : Nat} {Q : List RO} {c : List Blk} (h : RD rb Q c) (i : Int) (hl : Q.length ≤ 1000) :
    FN Tryz.prog 35 [.pointer (some ⟨rb, 0, none⟩), .int .i64 i] [c] (is (ptrQ Q i) [c]) := by
  obtain ⟨v, row, hs, hok, hc⟩ := h
  obtain ⟨a, cap, rfl, hcap, hrow⟩ := hs.ptrsE
  have i1 : HasC c rb (cel [.slice a Q.length cap] 29) := ⟨by rw [hc]; simp⟩
  have hsub : ∀ z ∈ row, z ∈ c := fun z hz => by rw [hc]; simp [hz]
  have hblk : ∀ z ∈ rblks 76 Q, z ∈ c := fun z hz => by rw [hc]; simp [hz]
  refine FN.intro 34 [(0, .pointer (some ⟨rb, 0, none⟩)), (1, .int .i64 i)] Tryz.func35 rfl (enters Tryz.func35 (by kernel_rfl) rfl) Tryz.ntmps35 rfl rfl ?_
  refine WP.seq <| WP.region <| v0 (S0.assign rfl) rfl <| vE <| WP.seq <| WP.seq <| WP.region <| v0 (S0.assign rfl) rfl <| vE <| WP.block <| ?_  -- Code.loop
  refine WP.loop (fun k : Nat => k ≤ Q.length ∧ ∀ j y, j < k → Q[j]? = some y → y.y.i ≠ i) (fun k : Nat => [(0, .pointer (some ⟨rb, 0, none⟩)), (1, .int .i64 i), (5, .int .i64 (k : Int))]) (fun k : Nat => [c]) (fun k : Nat => Q.length - k) (0) (⟨Nat.zero_le _, fun j y hj => by omega⟩) ⟨rfl, rfl, rfl, trivial⟩ ⟨_, (take1 at0 take0)⟩ (fun k hinv => ?_) 
  obtain ⟨hk, hno⟩ := hinv
  refine WP.seq <| WP.seq <| WP.region <| v0 (S0.move rfl) rfl <| v0 (S0.move rfl) rfl <| v0 (S0.nilCheck rfl) rfl <| v0 (S0.fieldAddr rfl) rfl <| v0 (S0.load rfl rfl) rfl <| v0 (S0.lenSl rfl) rfl <| v0 (S0.cmp rfl rfl rfl) rfl <| vE <| ?_  -- cond
  first | refine WP.condP rfl (fun h1 => ?_) (fun h1 => ?_) | refine WP.condN rfl (fun h1 => ?_) (fun h1 => ?_) | refine WP.cond rfl (fun h1 => ?_) (fun h1 => ?_)
  · skip
    have hlt : k < Q.length := by omega
    have hx : Q[k]? = some Q[k] := by simp [hlt]
    have hxm := List.getElem_mem hlt
    generalize Q[k] = x at hx hxm
    obtain ⟨i2, -, -⟩ := ro_has hxm hblk
    rcases hrow with ⟨e, -⟩ | ⟨b1, sp1, rfl, rfl, hsp1⟩
    · rw [e] at hlt; simp at hlt
    have i3 : HasC c b1 (.cells ⟨ptrs Q ++ sp1⟩ 73 (0, 0)) := ⟨hsub _ (by simp)⟩
    refine WP.skip <| WP.seq <| WP.block <| WP.seq <| WP.region <| v0 (S0.move rfl) rfl <| v0 (S0.nilCheck rfl) rfl <| v0 (S0.fieldAddr rfl) rfl <| v0 (S0.load rfl rfl) rfl <| v0 (S0.move rfl) rfl <| ?_  -- op t20 := indexAddr 27 t18 t19
    refine v0 (S0.index1 rfl rfl hlt) rfl <| ?_
    refine v0 (S0.load rfl (ptrs_get hx)) rfl <| ?_
    unfold RO.ptr
    refine v0 (S0.nilCheck rfl) rfl <| v0 (S0.fieldAddr rfl) rfl <| v0 (S0.load rfl rfl) rfl <| v0 (S0.move rfl) rfl <| v0 (S0.cmp rfl rfl rfl) rfl <| vE <| ?_  -- cond
    first | refine WP.condP rfl (fun h2 => ?_) (fun h2 => ?_) | refine WP.condN rfl (fun h2 => ?_) (fun h2 => ?_) | refine WP.cond rfl (fun h2 => ?_) (fun h2 => ?_)
    · skip
      refine WP.seq <| WP.region <| v0 (S0.move rfl) rfl <| v0 (S0.nilCheck rfl) rfl <| v0 (S0.fieldAddr rfl) rfl <| v0 (S0.load rfl rfl) rfl <| v0 (S0.move rfl) rfl <| ?_  -- op t32 := indexAddr 27 t30 t31
      refine v0 (S0.index1 rfl rfl hlt) rfl <| ?_
      refine v0 (S0.load rfl (ptrs_get hx)) rfl <| ?_
      refine v0 (S0.assign rfl) rfl <| vE <| WP.ret <| ?_  -- ret
      refine r1 rfl rfl ⟨?_, rfl⟩
      unfold ptrQ
      rw [findQ_take hno hx h2]
    · skip
      refine WP.skip <| WP.region <| v0 (S0.move rfl) rfl <| v0 (S0.ari rfl rfl rfl (wrap_i64 (by omega))) rfl <| v0 (S0.assign rfl) rfl <| vE <| ?_  -- roundend
      exact ⟨k + 1, (by first | exact ⟨hlt, below_at (p := fun _ (y : RO) => y.y.i ≠ i) hno hx h2⟩ | (dsimp only; exact ⟨hlt, below_at (p := fun _ (y : RO) => y.y.i ≠ i) hno hx h2⟩)), (by omega), ⟨⟨rfl, rfl, rfl, trivial⟩, rfl, rfl⟩, ⟨_, (take1 at0 take0)⟩⟩
  · skip
    refine WP.exit <| WP.seq <| WP.region <| v0 (S0.assign rfl) rfl <| vE <| WP.ret <| ?_  -- ret
    refine r1 rfl rfl ⟨?_, rfl⟩
    unfold ptrQ
    rw [findQ_no fun j y hy => hno j y (by have := (List.getElem?_eq_some_iff.1 hy).1; omega) hy]
theorem rids_spec {rb : Nat} {S : DS} {c : List Blk} (h : IsRD rb S c) (hl : S.length ≤ 1000) :
    FN Tryz.prog 55 [.pointer (some ⟨rb, 0, none⟩)] [c] (fun u h => ∃ row, IsSl 3 1 u (ints (S.map (·.i))) row ∧ h = [row, c]) := by
  obtain ⟨Q, ⟨v, row, hs, hok, hc⟩, rfl⟩ := h
  rw [List.length_map] at hl
  obtain ⟨a, cap, rfl, hcap, hrow⟩ := hs.ptrsE
  have i1 : HasC c rb (cel [.slice a Q.length cap] 29) := ⟨by rw [hc]; simp⟩
  have hsub : ∀ z ∈ row, z ∈ c := fun z hz => by rw [hc]; simp [hz]
  have hblk : ∀ z ∈ rblks 76 Q, z ∈ c := fun z hz => by rw [hc]; simp [hz]
  refine FN.intro 29 [(0, .pointer (some ⟨rb, 0, none⟩))] Tryz.func55 rfl (enters Tryz.func55 (by kernel_rfl) rfl) Tryz.ntmps55 rfl rfl ?_
  refine WP.seq <| WP.region <| v0 (S0.assign rfl) rfl <| vE <| WP.seq <| WP.region <| vnv (S1.buildSlice rfl (qs := []) rfl rfl) rfl fun b5 => v0 (S0.assign rfl) rfl <| vE <| WP.seq <| WP.seq <| WP.region <| v0 (S0.assign rfl) rfl <| vE <| WP.block <| ?_  -- Code.loop
  refine WP.loop (fun st : Nat × Value × List Blk => st.1 ≤ Q.length ∧ IsSl 3 1 st.2.1 (ints ((Q.take st.1).map (·.y.i))) st.2.2) (fun st : Nat × Value × List Blk => [(0, .pointer (some ⟨rb, 0, none⟩)), (3, st.2.1), (4, .int .i64 (st.1 : Int))]) (fun st : Nat × Value × List Blk => [st.2.2, c]) (fun st : Nat × Value × List Blk => Q.length - st.1) ((0, .slice (some ⟨b5, 0, none⟩) 0 0, [(b5, .cells ⟨[]⟩ 3 (0, 0))])) (⟨Nat.zero_le _, IsSl.row (n := 0) (c := 0) (l := []) (sp := []) rfl rfl (Nat.le_refl _)⟩) ⟨rfl, rfl, rfl, trivial⟩ ⟨_, (take1 at0 (take1 at0 take0))⟩ (fun st hinv => ?_) 
  obtain ⟨k, ov, orow⟩ := st
  obtain ⟨hk, hos⟩ := hinv
  dsimp only at hk hos ⊢
  refine WP.seq <| WP.seq <| WP.region <| v0 (S0.move rfl) rfl <| v0 (S0.move rfl) rfl <| v0 (S0.nilCheck rfl) rfl <| v0 (S0.fieldAddr rfl) rfl <| v0 (S0.load rfl rfl) rfl <| v0 (S0.lenSl rfl) rfl <| v0 (S0.cmp rfl rfl rfl) rfl <| vE <| ?_  -- cond
  first | refine WP.condP rfl (fun h1 => ?_) (fun h1 => ?_) | refine WP.condN rfl (fun h1 => ?_) (fun h1 => ?_) | refine WP.cond rfl (fun h1 => ?_) (fun h1 => ?_)
  · skip
    have hlt : k < Q.length := by omega
    have hx : Q[k]? = some Q[k] := by simp [hlt]
    have hxm := List.getElem_mem hlt
    generalize Q[k] = x at hx hxm
    obtain ⟨i2, -, -⟩ := ro_has hxm hblk
    rcases hrow with ⟨e, -⟩ | ⟨b1, sp1, rfl, rfl, hsp1⟩
    · rw [e] at hlt; simp at hlt
    have i3 : HasC c b1 (.cells ⟨ptrs Q ++ sp1⟩ 73 (0, 0)) := ⟨hsub _ (by simp)⟩
    refine WP.skip <| WP.seq <| WP.block <| WP.region <| v0 (S0.move rfl) rfl <| v0 (S0.move rfl) rfl <| v0 (S0.nilCheck rfl) rfl <| v0 (S0.fieldAddr rfl) rfl <| v0 (S0.load rfl rfl) rfl <| v0 (S0.move rfl) rfl <| ?_  -- op t21 := indexAddr 27 t19 t20
    refine v0 (S0.index1 rfl rfl hlt) rfl <| ?_
    refine v0 (S0.load rfl (ptrs_get hx)) rfl <| ?_
    unfold RO.ptr
    refine v0 (S0.nilCheck rfl) rfl <| v0 (S0.fieldAddr rfl) rfl <| v0 (S0.load rfl rfl) rfl <| vnv (S1.buildSlice rfl (qs := [(0, _)]) rfl rfl) rfl fun b26 => ?_  -- op t27 := append(t15, t26) :[38, 38]
    refine ve (S1.appendL rfl hos rfl rfl (atS at0) rfl rfl (by rw [ints_len]; simp; omega)) rfl ?_
    rintro v2 _ ⟨row2, hs2, rfl⟩
    refine v0 (S0.assign rfl) rfl <| vE <| WP.region <| v0 (S0.move rfl) rfl <| v0 (S0.ari rfl rfl rfl (wrap_i64 (by omega))) rfl <| v0 (S0.assign rfl) rfl <| vE <| ?_  -- roundend
    have hs3 : IsSl 3 1 v2 (ints ((Q.take (k + 1)).map (·.y.i))) row2 := by rw [List.take_add_one, hx]; simpa [ints] using hs2
    exact ⟨(k + 1, v2, row2), (by first | exact ⟨hlt, hs3⟩ | (dsimp only; exact ⟨hlt, hs3⟩)), (show Q.length - (k + 1) < Q.length - k by omega), ⟨⟨rfl, rfl, rfl, trivial⟩, rfl, rfl⟩, ⟨_, (take1 at0 (take1 (atS at0) take0))⟩⟩
  · skip
    have e : k = Q.length := by omega
    subst e
    rw [List.take_length] at hos
    refine WP.exit <| WP.seq <| WP.region <| v0 (S0.move rfl) rfl <| v0 (S0.assign rfl) rfl <| vE <| WP.ret <| ?_  -- ret
    refine r1 rfl rfl ?_
    exact ⟨orow, by rw [List.map_map]; exact hos, rfl⟩
end Go.Proofs.YtanecnnfpdhadaaGreatDoor
/- Q2 -/
namespace Go.Proofs.YtanecnnfpdhadaaGreatDoor
open Go

theorem mkO_take {M : List MkT} {o : Int} {k : Nat} {x : MkT} (hno : ∀ (j : Nat) (y : MkT), j < k → M[j]? = some y → y.1 ≠ o) (hx : M[k]? = some x) (he : x.1 = o) : mkO M o = some x.2 := by
  induction M generalizing k with
  | nil => simp at hx
  | cons z M ih =>
    cases k with
    | zero => simp at hx; subst hx; simp [mkO, he]
    | succ k =>
      have h0 := hno 0 z (by omega) rfl
      simp only [mkO, if_neg h0]
      exact ih (k := k) (fun j y hj hy => hno (j + 1) y (by omega) (by simpa using hy)) (by simpa using hx)
theorem mkO_no {M : List MkT} {o : Int} (hno : ∀ (j : Nat) (y : MkT), M[j]? = some y → y.1 ≠ o) : mkO M o = none := by
  induction M with
  | nil => rfl
  | cons z M ih =>
    have h0 := hno 0 z rfl
    simp only [mkO, if_neg h0]
    exact ih fun j y hy => hno (j + 1) y (by simpa using hy)
theorem rmark_spec {x : RO} {c : List Blk} (i2 : HasC c x.b (.cells ⟨[.int .i64 x.y.i, x.fv, x.mv]⟩ 76 (0, 0))) (hok : RO.ok 9 54 x) (hsub : ∀ z ∈ x.mrow, z ∈ c) (hl : x.y.M.length ≤ 1000) (o : Int) :
    FN Tryz.prog 46 [.pointer (some ⟨x.b, 0, none⟩), .int .i64 o] [c] (is (.int .i64 ((mkO x.y.M o).getD 0)) [c]) := by
  obtain ⟨xb, ⟨yi, yF, M⟩, fv, frow, mv, mrow⟩ := x
  have hms := hok.ms
  dsimp only at hms i2 hsub hl ⊢
  obtain ⟨a, cap, rfl, hcap, hrow⟩ := IsSl.elems (k := 1) enM_len hms
  refine FN.intro 33 [(0, .pointer (some ⟨xb, 0, none⟩)), (1, .int .i64 o)] Tryz.func46 rfl (enters Tryz.func46 (by kernel_rfl) rfl) Tryz.ntmps46 rfl rfl ?_
  refine WP.seq <| WP.region <| v0 (S0.assign rfl) rfl <| vE <| WP.seq <| WP.seq <| WP.region <| v0 (S0.assign rfl) rfl <| vE <| WP.block <| ?_  -- Code.loop
  refine WP.loop (fun k : Nat => k ≤ M.length ∧ ∀ (j : Nat) (y : MkT), j < k → M[j]? = some y → y.1 ≠ o) (fun k : Nat => [(0, .pointer (some ⟨xb, 0, none⟩)), (1, .int .i64 o), (5, .int .i64 (k : Int))]) (fun k : Nat => [c]) (fun k : Nat => M.length - k) (0) (⟨Nat.zero_le _, fun j y hj => by omega⟩) ⟨rfl, rfl, rfl, trivial⟩ ⟨_, (take1 at0 take0)⟩ (fun k hinv => ?_) 
  obtain ⟨hk, hno⟩ := hinv
  refine WP.seq <| WP.seq <| WP.region <| v0 (S0.move rfl) rfl <| v0 (S0.move rfl) rfl <| v0 (S0.nilCheck rfl) rfl <| v0 (S0.fieldAddr rfl) rfl <| v0 (S0.load rfl rfl) rfl <| v0 (S0.lenSl rfl) rfl <| v0 (S0.cmp rfl rfl rfl) rfl <| vE <| ?_  -- cond
  first | refine WP.condP rfl (fun h1 => ?_) (fun h1 => ?_) | refine WP.condN rfl (fun h1 => ?_) (fun h1 => ?_) | refine WP.cond rfl (fun h1 => ?_) (fun h1 => ?_)
  · skip
    have hlt : k < M.length := by omega
    rcases hrow with ⟨e, -⟩ | ⟨b1, sp1, rfl, rfl, hsp1⟩
    · rw [e] at hlt; simp at hlt
    have hx : M[k]? = some M[k] := by simp [hlt]
    generalize M[k] = z at hx
    have i3 : HasC c b1 (.cells ⟨M.flatMap enM ++ sp1⟩ 54 (0, 0)) := ⟨hsub _ (by simp)⟩
    have g0 := flat_get enM_len sp1 M k 0 z hx (by decide)
    have g1 := flat_get enM_len sp1 M k 1 z hx (by decide)
    refine WP.skip <| WP.seq <| WP.block <| WP.seq <| WP.region <| v0 (S0.move rfl) rfl <| v0 (S0.nilCheck rfl) rfl <| v0 (S0.fieldAddr rfl) rfl <| v0 (S0.load rfl rfl) rfl <| v0 (S0.move rfl) rfl <| ?_  -- op t20 := indexAddr 49 t18 t19
    refine v0 (S0.indexN (k := 2) rfl rfl hlt) rfl <| ?_
    refine v0 (S0.fieldAddr rfl) rfl <| ?_  -- limit
    refine v0 (S0.load (v := .int .i64 z.1) rfl g0) rfl <| ?_
    refine v0 (S0.move rfl) rfl <| v0 (S0.cmp rfl rfl rfl) rfl <| vE <| ?_  -- cond
    first | refine WP.condP rfl (fun h2 => ?_) (fun h2 => ?_) | refine WP.condN rfl (fun h2 => ?_) (fun h2 => ?_) | refine WP.cond rfl (fun h2 => ?_) (fun h2 => ?_)
    · skip
      refine WP.seq <| WP.region <| v0 (S0.move rfl) rfl <| v0 (S0.nilCheck rfl) rfl <| v0 (S0.fieldAddr rfl) rfl <| v0 (S0.load rfl rfl) rfl <| v0 (S0.move rfl) rfl <| ?_  -- op t30 := indexAddr 49 t28 t29
      refine v0 (S0.indexN (k := 2) rfl rfl hlt) rfl <| ?_
      refine v0 (S0.fieldAddr rfl) rfl <| ?_  -- limit
      refine v0 (S0.load (v := .int .i64 z.2) rfl g1) rfl <| ?_
      refine v0 (S0.assign rfl) rfl <| vE <| WP.ret <| ?_  -- ret
      refine r1 rfl rfl ⟨?_, rfl⟩
      rw [mkO_take hno hx h2]; rfl
    · skip
      refine WP.skip <| WP.region <| v0 (S0.move rfl) rfl <| v0 (S0.ari rfl rfl rfl (wrap_i64 (by omega))) rfl <| v0 (S0.assign rfl) rfl <| vE <| ?_  -- roundend
      exact ⟨k + 1, (by first | exact ⟨hlt, below_at (p := fun _ (y : MkT) => y.1 ≠ o) hno hx h2⟩ | (dsimp only; exact ⟨hlt, below_at (p := fun _ (y : MkT) => y.1 ≠ o) hno hx h2⟩)), (by omega), ⟨⟨rfl, rfl, rfl, trivial⟩, rfl, rfl⟩, ⟨_, (take1 at0 take0)⟩⟩
  · skip
    refine WP.exit <| WP.seq <| WP.region <| v0 (S0.assign rfl) rfl <| vE <| WP.ret <| ?_  -- ret
    refine r1 rfl rfl ⟨?_, rfl⟩
    rw [mkO_no fun j y hy => hno j y (by have := (List.getElem?_eq_some_iff.1 hy).1; omega) hy]; rfl
/-- the marks written so far -/
def mkOut (M : List MkT) (m : MkT) (inb : Bool) : List MkT := if inb = true then setMk M m else M
theorem filt_lt {M : List MkT} {m : MkT} (h : ∀ x ∈ M, x.1 < m.1) : setMk M m = M ++ [m] := setMk_end h
theorem setMk_snoc {M : List MkT} {m x : MkT} (h : m.1 < x.1) : setMk (M ++ [x]) m = setMk M m ++ [x] := by
  unfold setMk
  rw [List.filter_append, List.filter_append]
  have e1 : [x].filter (fun z => decide (z.1 < m.1)) = [] := by simp; omega
  have e2 : [x].filter (fun z => decide (m.1 < z.1)) = [x] := by simp [h]
  rw [e1, e2]; simp
theorem setMk_over {M : List MkT} {m x : MkT} (h : x.1 = m.1) : setMk (M ++ [x]) m = setMk M m := by
  unfold setMk
  rw [List.filter_append, List.filter_append]
  have e1 : [x].filter (fun z => decide (z.1 < m.1)) = [] := by simp; omega
  have e2 : [x].filter (fun z => decide (m.1 < z.1)) = [] := by simp; omega
  rw [e1, e2]; simp
theorem rMark_spec {v : Value} {M : List MkT} {row : List Blk} {m : MkT} (hs : IsSl 54 2 v (M.flatMap enM) row) (hris : RisM M) (hl : M.length ≤ 1000) :
    FN Tryz.prog 47 [v, .agg ⟨enM m⟩] [row] (fun u h => ∃ row2, IsSl 54 2 u ((setMk M m).flatMap enM) row2 ∧ h = [row2, row]) := by
  obtain ⟨a, cap, rfl, hcap, hrow⟩ := IsSl.elems (k := 1) enM_len hs
  refine FN.intro 53 [(0, .slice a M.length cap), (1, .agg ⟨enM m⟩)] Tryz.func47 rfl (enters Tryz.func47 (by kernel_rfl) rfl) Tryz.ntmps47 rfl rfl ?_
  refine WP.seq <| WP.region <| vn (S1.box rfl rfl) rfl fun b3 => v0 (S0.assign rfl) rfl <| vE <| WP.seq <| WP.region <| vnv (S1.buildSlice rfl (qs := []) rfl rfl) rfl fun b8 => v0 (S0.assign rfl) rfl <| v0 (S0.assign rfl) rfl <| vE <| WP.seq <| WP.seq <| WP.region <| v0 (S0.assign rfl) rfl <| vE <| WP.block <| ?_  -- Code.loop
  refine WP.loop (fun st : Nat × Bool × Value × List Blk => st.1 ≤ M.length ∧ (st.2.1 = false → ∀ x ∈ M.take st.1, x.1 < m.1) ∧ (st.2.1 = true → ∃ x ∈ M.take st.1, m.1 ≤ x.1) ∧ IsSl 54 2 st.2.2.1 ((mkOut (M.take st.1) m st.2.1).flatMap enM) st.2.2.2) (fun st : Nat × Bool × Value × List Blk => [(0, .slice a M.length cap), (3, .pointer (some ⟨b3, 0, none⟩)), (5, st.2.2.1), (6, .bool st.2.1), (7, .int .i64 (st.1 : Int))]) (fun st : Nat × Bool × Value × List Blk => [st.2.2.2, row, [(b3, .cells ⟨enM m⟩ 54 (0, 0))]]) (fun st : Nat × Bool × Value × List Blk => M.length - st.1) ((0, false, .slice (some ⟨b8, 0, none⟩) 0 0, [(b8, .cells ⟨[]⟩ 54 (0, 0))])) (⟨Nat.zero_le _, fun _ => by simp, (fun h => by cases h), IsSl.row (n := 0) (c := 0) (l := []) (sp := []) rfl rfl (Nat.le_refl _)⟩) ⟨rfl, rfl, rfl, rfl, rfl, trivial⟩ ⟨_, (take1 at0 (take1 (atS at0) (take1 at0 take0)))⟩ (fun st hinv => ?_) 
  obtain ⟨k, inb, ov, orow⟩ := st
  obtain ⟨hk, hin0, hin1, hos⟩ := hinv
  dsimp only at hk hin0 hin1 hos ⊢
  refine WP.seq <| WP.seq <| WP.region <| v0 (S0.move rfl) rfl <| v0 (S0.move rfl) rfl <| v0 (S0.lenSl rfl) rfl <| v0 (S0.cmp rfl rfl rfl) rfl <| vE <| ?_  -- cond
  first | refine WP.condP rfl (fun h1 => ?_) (fun h1 => ?_) | refine WP.condN rfl (fun h1 => ?_) (fun h1 => ?_) | refine WP.cond rfl (fun h1 => ?_) (fun h1 => ?_)
  · skip
    have hlt : k < M.length := by omega
    rcases hrow with ⟨e, -⟩ | ⟨b1, sp1, rfl, rfl, hsp1⟩
    · rw [e] at hlt; simp at hlt
    have hx : M[k]? = some M[k] := by simp [hlt]
    generalize M[k] = x at hx
    have hbef := ris_before hris hx
    have htk : M.take (k + 1) = M.take k ++ [x] := by rw [List.take_add_one, hx]; rfl
    have g0 := flat_get enM_len sp1 M k 0 x hx (by decide)
    have hgt := flat_take enM_len sp1 M k x hx
    have htl : (M.take k).length ≤ 1000 := by rw [List.length_take]; omega
    skip
    refine WP.skip <| WP.seq <| WP.block <| WP.seq <| WP.seq <| WP.drawP [(0, none), (1, none), (2, none), (3, none), (4, none), (5, none), (6, none), (7, none), (8, none), (9, none), (10, none), (11, none)] mixed (by kernel_rfl) (by kernel_rfl) (by kernel_rfl) (take1 (atS at0) (take1 (atS at0) take0)) <| w0 rfl rfl rfl (S0.move rfl) rfl <| w0 rfl rfl rfl (S0.not rfl) rfl <| w0 rfl rfl rfl (S0.move rfl) rfl <| ?_  -- guard t17 (wants True) at t18 := move t0 [if #2=True]
    skip
    cases inb with
    | false =>
      skip
      have hall := hin0 rfl
      refine wcsTh (t := 17) rfl (rfl) ?_
      refine w0 rfl rfl rfl (S0.move rfl) rfl <| w0 rfl rfl rfl (S0.move rfl) rfl <| ?_  -- op t20 := indexAddr 49 t18 t19 [if #2=True]
      refine w0 rfl rfl rfl (S0.indexN (k := 2) rfl rfl hlt) rfl <| ?_
      refine w0 rfl rfl rfl (S0.fieldAddr rfl) rfl <| ?_  -- limit
      refine w0 rfl rfl rfl (S0.load (v := .int .i64 x.1) rfl g0) rfl <| ?_
      refine w0 rfl rfl rfl (S0.fieldAddr rfl) rfl <| w0 rfl rfl rfl (S0.load rfl rfl) rfl <| w0 rfl rfl rfl (S0.cmp rfl rfl rfl) rfl <| w0 rfl rfl rfl (S0.pickT rfl rfl) rfl <| wE <| ?_  -- cond
      first | refine WP.condP rfl (fun h2 => ?_) (fun h2 => ?_) | refine WP.condN rfl (fun h2 => ?_) (fun h2 => ?_) | refine WP.cond rfl (fun h2 => ?_) (fun h2 => ?_)
      · skip
        refine WP.seq <| WP.region <| v0 (S0.move rfl) rfl <| v0 (S0.loadAL rfl) rfl <| vnv (S1.buildSlice rfl (qs := [(0, _)]) rfl rfl) rfl fun b29 => ?_  -- op t30 := append(t27, t29) :[49, 49]
        refine ve (S1.appendL rfl hos rfl rfl (atS (atS (atS at0))) rfl rfl (by rw [flat_len enM_len]; simp [mkOut]; omega)) rfl ?_
        rintro v2 _ ⟨row2, hs2, rfl⟩
        have hs3 : IsSl 54 2 v2 ((setMk (M.take k) m).flatMap enM) row2 := by rw [filt_lt hall]; simpa [mkOut] using hs2
        skip
        refine v0 (S0.assign rfl) rfl <| vE <| WP.region <| v0 (S0.assign rfl) rfl <| vE <| WP.seq <| WP.drawP [(0, none), (1, none), (2, none), (3, none), (4, none), (5, none), (6, none), (7, none)] mixed (by kernel_rfl) (by kernel_rfl) (by kernel_rfl) (take1 (atS (atS at0)) (take1 (atS (atS at0)) take0)) <| w0 rfl rfl rfl (S0.move rfl) rfl <| w0 rfl rfl rfl (S0.move rfl) rfl <| ?_  -- op t33 := indexAddr 49 t31 t32
        refine w0 rfl rfl rfl (S0.indexN (k := 2) rfl rfl hlt) rfl <| ?_
        refine w0 rfl rfl rfl (S0.fieldAddr rfl) rfl <| ?_  -- limit
        refine w0 rfl rfl rfl (S0.load (v := .int .i64 x.1) rfl g0) rfl <| ?_
        refine w0 rfl rfl rfl (S0.fieldAddr rfl) rfl <| w0 rfl rfl rfl (S0.load rfl rfl) rfl <| w0 rfl rfl rfl (S0.cmp rfl rfl rfl) rfl <| wE <| ?_  -- cond
        first | refine WP.condP rfl (fun h3 => ?_) (fun h3 => ?_) | refine WP.condN rfl (fun h3 => ?_) (fun h3 => ?_) | refine WP.cond rfl (fun h3 => ?_) (fun h3 => ?_)
        · skip
          refine WP.region <| v0 (S0.move rfl) rfl <| v0 (S0.move rfl) rfl <| v0 (S0.move rfl) rfl <| ?_  -- op t42 := indexAddr 49 t40 t41
          refine v0 (S0.indexN (k := 2) rfl rfl hlt) rfl <| ?_
          refine v0 (S0.loadA rfl hgt rfl) rfl <| ?_
          refine vnv (S1.buildSlice rfl (qs := [(0, _)]) rfl rfl) rfl fun b44 => ?_  -- op t45 := append(t39, t44) :[49, 49]
          refine ve (S1.appendL rfl hs3 rfl rfl (atS (atS (atS at0))) rfl rfl (by rw [flat_len enM_len, filt_lt hall]; simp; omega)) rfl ?_
          rintro v4 _ ⟨row4, hs4, rfl⟩
          refine v0 (S0.assign rfl) rfl <| vE <| WP.region <| v0 (S0.move rfl) rfl <| v0 (S0.ari rfl rfl rfl (wrap_i64 (by omega))) rfl <| v0 (S0.assign rfl) rfl <| vE <| ?_  -- roundend
          have hs5 : IsSl 54 2 v4 ((mkOut (M.take (k + 1)) m true).flatMap enM) row4 := by
            have e : mkOut (M.take (k + 1)) m true = setMk (M.take k) m ++ [x] := by unfold mkOut; rw [if_pos rfl, htk, setMk_snoc (by omega)]
            rw [e]; simpa using hs4
          exact ⟨(k + 1, true, v4, row4), (by first | exact ⟨hlt, (fun h => by cases h), fun _ => ⟨x, by rw [htk]; simp, by omega⟩, hs5⟩ | (dsimp only; exact ⟨hlt, (fun h => by cases h), fun _ => ⟨x, by rw [htk]; simp, by omega⟩, hs5⟩)), (show M.length - (k + 1) < M.length - k by omega), ⟨⟨rfl, rfl, rfl, rfl, rfl, trivial⟩, rfl, rfl⟩, ⟨_, (take1 at0 (take1 (atS at0) (take1 (atS at0) take0)))⟩⟩
        · skip
          refine WP.skip <| WP.region <| v0 (S0.move rfl) rfl <| v0 (S0.ari rfl rfl rfl (wrap_i64 (by omega))) rfl <| v0 (S0.assign rfl) rfl <| vE <| ?_  -- roundend
          have hs5 : IsSl 54 2 v2 ((mkOut (M.take (k + 1)) m true).flatMap enM) row2 := by
            have e : mkOut (M.take (k + 1)) m true = setMk (M.take k) m := by unfold mkOut; rw [if_pos rfl, htk, setMk_over (by omega)]
            rw [e]; exact hs3
          exact ⟨(k + 1, true, v2, row2), (by first | exact ⟨hlt, (fun h => by cases h), fun _ => ⟨x, by rw [htk]; simp, by omega⟩, hs5⟩ | (dsimp only; exact ⟨hlt, (fun h => by cases h), fun _ => ⟨x, by rw [htk]; simp, by omega⟩, hs5⟩)), (show M.length - (k + 1) < M.length - k by omega), ⟨⟨rfl, rfl, rfl, rfl, rfl, trivial⟩, rfl, rfl⟩, ⟨_, (take1 (atS (atS at0)) (take1 at0 (take1 at0 take0)))⟩⟩
      · skip
        skip
        refine WP.skip <| WP.seq <| WP.drawP [(0, none), (1, none), (2, none), (3, none), (4, none), (5, none), (6, none), (7, none)] mixed (by kernel_rfl) (by kernel_rfl) (by kernel_rfl) (take1 at0 (take1 at0 take0)) <| w0 rfl rfl rfl (S0.move rfl) rfl <| w0 rfl rfl rfl (S0.move rfl) rfl <| ?_  -- op t33 := indexAddr 49 t31 t32
        refine w0 rfl rfl rfl (S0.indexN (k := 2) rfl rfl hlt) rfl <| ?_
        refine w0 rfl rfl rfl (S0.fieldAddr rfl) rfl <| ?_  -- limit
        refine w0 rfl rfl rfl (S0.load (v := .int .i64 x.1) rfl g0) rfl <| ?_
        refine w0 rfl rfl rfl (S0.fieldAddr rfl) rfl <| w0 rfl rfl rfl (S0.load rfl rfl) rfl <| w0 rfl rfl rfl (S0.cmp rfl rfl rfl) rfl <| wE <| ?_  -- cond
        refine WP.condTh rfl ((by simp; omega)) ?_
        refine WP.region <| v0 (S0.move rfl) rfl <| v0 (S0.move rfl) rfl <| v0 (S0.move rfl) rfl <| ?_  -- op t42 := indexAddr 49 t40 t41
        refine v0 (S0.indexN (k := 2) rfl rfl hlt) rfl <| ?_
        refine v0 (S0.loadA rfl hgt rfl) rfl <| ?_
        refine vnv (S1.buildSlice rfl (qs := [(0, _)]) rfl rfl) rfl fun b44 => ?_  -- op t45 := append(t39, t44) :[49, 49]
        refine ve (S1.appendL rfl hos rfl rfl (atS (atS (atS at0))) rfl rfl (by rw [flat_len enM_len]; simp [mkOut]; omega)) rfl ?_
        rintro v4 _ ⟨row4, hs4, rfl⟩
        refine v0 (S0.assign rfl) rfl <| vE <| WP.region <| v0 (S0.move rfl) rfl <| v0 (S0.ari rfl rfl rfl (wrap_i64 (by omega))) rfl <| v0 (S0.assign rfl) rfl <| vE <| ?_  -- roundend
        have hs5 : IsSl 54 2 v4 ((mkOut (M.take (k + 1)) m false).flatMap enM) row4 := by
          have e : mkOut (M.take (k + 1)) m false = M.take k ++ [x] := by unfold mkOut; rw [if_neg (by simp), htk]
          rw [e]; simpa [mkOut] using hs4
        have hall2 : ∀ z ∈ M.take (k + 1), z.1 < m.1 := fun z hz => by
          rw [htk] at hz
          rcases List.mem_append.1 hz with hz | hz
          · exact hall z hz
          · simp at hz; subst hz; omega
        exact ⟨(k + 1, false, v4, row4), (by first | exact ⟨hlt, (fun _ => hall2), (fun h => by cases h), hs5⟩ | (dsimp only; exact ⟨hlt, (fun _ => hall2), (fun h => by cases h), hs5⟩)), (show M.length - (k + 1) < M.length - k by omega), ⟨⟨rfl, rfl, rfl, rfl, rfl, trivial⟩, rfl, rfl⟩, ⟨_, (take1 at0 (take1 (atS at0) (take1 (atS at0) take0)))⟩⟩
    | true =>
      skip
      obtain ⟨z, hz, hmz⟩ := hin1 rfl
      have hxz := hbef z hz
      refine wcsFh (t := 17) rfl (rfl) ?_
      skip
      refine wF rfl rfl rfl rfl <| wF rfl rfl rfl rfl <| wF rfl rfl rfl rfl <| wF rfl rfl rfl rfl <| wF rfl rfl rfl rfl <| wF rfl rfl rfl rfl <| wF rfl rfl rfl rfl <| wF rfl rfl rfl rfl <| w0 rfl rfl rfl (S0.pickF rfl rfl) rfl <| wE <| WP.condF rfl <| WP.skip <| WP.seq <| WP.drawP [(0, none), (1, none), (2, none), (3, none), (4, none), (5, none), (6, none), (7, none)] mixed (by kernel_rfl) (by kernel_rfl) (by kernel_rfl) (take1 at0 (take1 at0 take0)) <| w0 rfl rfl rfl (S0.move rfl) rfl <| w0 rfl rfl rfl (S0.move rfl) rfl <| ?_  -- op t33 := indexAddr 49 t31 t32
      refine w0 rfl rfl rfl (S0.indexN (k := 2) rfl rfl hlt) rfl <| ?_
      refine w0 rfl rfl rfl (S0.fieldAddr rfl) rfl <| ?_  -- limit
      refine w0 rfl rfl rfl (S0.load (v := .int .i64 x.1) rfl g0) rfl <| ?_
      refine w0 rfl rfl rfl (S0.fieldAddr rfl) rfl <| w0 rfl rfl rfl (S0.load rfl rfl) rfl <| w0 rfl rfl rfl (S0.cmp rfl rfl rfl) rfl <| wE <| ?_  -- cond
      refine WP.condTh rfl ((by simp; omega)) ?_
      refine WP.region <| v0 (S0.move rfl) rfl <| v0 (S0.move rfl) rfl <| v0 (S0.move rfl) rfl <| ?_  -- op t42 := indexAddr 49 t40 t41
      refine v0 (S0.indexN (k := 2) rfl rfl hlt) rfl <| ?_
      refine v0 (S0.loadA rfl hgt rfl) rfl <| ?_
      refine vnv (S1.buildSlice rfl (qs := [(0, _)]) rfl rfl) rfl fun b44 => ?_  -- op t45 := append(t39, t44) :[49, 49]
      have hsl := set_len' (M := M.take k) (hris.sublist (List.take_sublist _ _)) m
      have htl2 : (M.take k).length ≤ 1000 := by rw [List.length_take]; omega
      have hsl2 : (setMk (M.take k) m).length ≤ 1001 := by
        cases hq : mkO (M.take k) m.1 with
        | none => rw [hq] at hsl; rw [hsl]; exact Nat.succ_le_succ htl2
        | some n => rw [hq] at hsl; rw [hsl]; exact Nat.le_succ_of_le htl2
      have hmo : (mkOut (M.take k) m true).length ≤ 1001 := by unfold mkOut; rw [if_pos rfl]; exact hsl2
      refine ve (S1.appendL rfl hos rfl rfl (atS (atS (atS at0))) rfl rfl (by rw [flat_len enM_len]; simp only [List.length_cons, List.length_nil]; omega)) rfl ?_
      rintro v4 _ ⟨row4, hs4, rfl⟩
      refine v0 (S0.assign rfl) rfl <| vE <| WP.region <| v0 (S0.move rfl) rfl <| v0 (S0.ari rfl rfl rfl (wrap_i64 (by omega))) rfl <| v0 (S0.assign rfl) rfl <| vE <| ?_  -- roundend
      have hs5 : IsSl 54 2 v4 ((mkOut (M.take (k + 1)) m true).flatMap enM) row4 := by
        have e : mkOut (M.take (k + 1)) m true = setMk (M.take k) m ++ [x] := by unfold mkOut; rw [if_pos rfl, htk, setMk_snoc (by omega)]
        rw [e]; simpa [mkOut] using hs4
      exact ⟨(k + 1, true, v4, row4), (by first | exact ⟨hlt, (fun h => by cases h), fun _ => ⟨x, by rw [htk]; simp, by omega⟩, hs5⟩ | (dsimp only; exact ⟨hlt, (fun h => by cases h), fun _ => ⟨x, by rw [htk]; simp, by omega⟩, hs5⟩)), (show M.length - (k + 1) < M.length - k by omega), ⟨⟨rfl, rfl, rfl, rfl, rfl, trivial⟩, rfl, rfl⟩, ⟨_, (take1 at0 (take1 (atS at0) (take1 (atS at0) take0)))⟩⟩
  · skip
    have e : k = M.length := by omega
    subst e
    rw [List.take_length] at hos hin0
    refine WP.exit <| WP.seq <| WP.seq <| WP.region <| v0 (S0.move rfl) rfl <| v0 (S0.not rfl) rfl <| vE <| ?_  -- cond
    skip
    cases inb with
    | false =>
      skip
      refine WP.condTh rfl (rfl) ?_
      refine WP.region <| v0 (S0.move rfl) rfl <| v0 (S0.loadAL rfl) rfl <| vnv (S1.buildSlice rfl (qs := [(0, _)]) rfl rfl) rfl fun b50 => ?_  -- op t51 := append(t48, t50) :[49, 49]
      refine ve (S1.appendL rfl hos rfl rfl (atS at0) rfl rfl (by rw [flat_len enM_len]; simp [mkOut]; omega)) rfl ?_
      rintro v4 _ ⟨row4, hs4, rfl⟩
      refine v0 (S0.assign rfl) rfl <| vE <| WP.seq <| WP.region <| v0 (S0.move rfl) rfl <| v0 (S0.assign rfl) rfl <| vE <| WP.ret <| ?_  -- ret
      refine Leaves.drop (take1 at0 (take1 (atS at0) take0)) ?_
      refine r1 rfl rfl ?_
      refine ⟨row4, ?_, rfl⟩
      rw [filt_lt (hin0 rfl)]; simpa [mkOut] using hs4
    | true =>
      skip
      refine WP.condFh rfl (rfl) ?_
      refine WP.skip <| WP.seq <| WP.region <| v0 (S0.move rfl) rfl <| v0 (S0.assign rfl) rfl <| vE <| WP.ret <| ?_  -- ret
      refine Leaves.drop (take1 at0 (take1 at0 take0)) ?_
      refine r1 rfl rfl ?_
      exact ⟨orow, by simpa [mkOut] using hos, rfl⟩
end Go.Proofs.YtanecnnfpdhadaaGreatDoor
/- Q3 -/
namespace Go.Proofs.YtanecnnfpdhadaaGreatDoor
open Go

theorem Rd.drop1 {α : Type} {en : α → List Value} {a : Option Addr} {cap k : Nat} {R : List α} {c : List Blk} (h : Rd 1 en (.slice a R.length cap) R c) (hk : k ≤ R.length) :
    Rd 1 en (.slice (if cap = k then a else a.map (·.add (k * 1))) (R.length - k) (cap - k)) (R.drop k) c := by
  obtain ⟨-, -, h2⟩ := h.cutG k R.length hk (Nat.le_refl _)
  have e2 : (R.drop k).take (R.length - k) = R.drop k := List.take_of_length_le (by rw [List.length_drop]; omega)
  rw [e2] at h2
  exact h2
theorem insD_at {S : DS} {y : Dv} {k : Nat} (hk : k ≤ S.length) (hlo : ∀ (j : Nat) (z : Dv), j < k → S[j]? = some z → z.i < y.i) (hhi : ∀ z : Dv, S[k]? = some z → ¬ z.i < y.i) : insD S y = S.take k ++ y :: S.drop k := by
  induction S generalizing k with
  | nil => simp at hk; subst hk; rfl
  | cons x S ih =>
    cases k with
    | zero =>
      have := hhi x rfl
      simp [insD, this]
    | succ k =>
      have h0 := hlo 0 x (by omega) rfl
      simp only [insD, if_pos h0, List.take_succ_cons, List.drop_succ_cons, List.cons_append]
      rw [ih (by simpa using hk) (fun j z hj hz => hlo (j + 1) z (by omega) (by simpa using hz)) (fun z hz => hhi z (by simpa using hz))]
theorem ptrsRd {Q : List RO} {v : Value} {row c : List Blk} (hs : IsSl 73 1 v (ptrs Q) row) (hsub : ∀ z ∈ row, z ∈ c) : Rd 1 (fun x : RO => [x.ptr]) v Q c := by
  rw [ptrs_flat] at hs
  exact (IsSl.rd (k := 0) (fun _ => rfl) hs).mono hsub
theorem rjoin_spec {rb : Nat} {S : DS} {c : List Blk} (h : IsRD rb S c) (hl : S.length ≤ 16) (i : Int) :
    FN Tryz.prog 12 [.pointer (some ⟨rb, 0, none⟩), .int .i64 i] [c] (fun u h => ∃ c', IsRD rb (joinD S i).2 c' ∧ u = .int .i64 (joinD S i).1 ∧ h = [c']) := by
  have h0 := h
  obtain ⟨Q, hRD, hQS⟩ := h
  have hfd := findQ_D Q i
  rw [hQS] at hfd
  have hQl : Q.length = S.length := by rw [← hQS, List.length_map]
  have hRD0 := hRD
  obtain ⟨v, row, hs, hok, hc⟩ := hRD
  obtain ⟨a, cap, rfl, hcap, hrow⟩ := hs.ptrsE
  have i1 : HasC c rb (cel [.slice a Q.length cap] 29) := ⟨by rw [hc]; simp⟩
  have hsub : ∀ z ∈ row, z ∈ c := fun z hz => by rw [hc]; simp [hz]
  have hblk : ∀ z ∈ rblks 76 Q, z ∈ c := fun z hz => by rw [hc]; simp [hz]
  have hrd := ptrsRd hs hsub
  refine FN.intro 75 [(0, .pointer (some ⟨rb, 0, none⟩)), (1, .int .i64 i)] Tryz.func12 rfl (enters Tryz.func12 (by kernel_rfl) rfl) Tryz.ntmps12 rfl rfl ?_
  refine WP.seq <| WP.region <| v0 (S0.assign rfl) rfl <| vE <| WP.seq <| WP.seq <| WP.region <| v0 (S0.move rfl) rfl <| v0 (S0.cmp rfl rfl rfl) rfl <| v0 (S0.move rfl) rfl <| ?_  -- guard t9 (wants False) at t10 := move t1 [if #2=False]
  first | refine csP (t := 9) rfl (fun h1 => ?_) (fun h1 => ?_) | refine csN (t := 9) rfl (fun h1 => ?_) (fun h1 => ?_) | refine cs (t := 9) rfl (fun h1 => ?_) (fun h1 => ?_)
  · skip
    refine gF rfl rfl <| gF rfl rfl <| v0 (S0.pickT rfl rfl) rfl <| vE <| WP.condT rfl <| WP.seq <| WP.region <| v0 (S0.assign rfl) rfl <| vE <| WP.ret <| ?_  -- ret
    refine r1 rfl rfl ?_
    have hj : joinD S i = (1, S) := by unfold joinD; rw [if_pos (.inl h1)]
    rw [hj]; exact ⟨_, h0, rfl, rfl⟩
  · skip
    refine gT rfl <| v0 (S0.move rfl) rfl <| gT rfl <| v0 (S0.cmp rfl rfl rfl) rfl <| v0 (S0.pickF rfl rfl) rfl <| vE <| ?_  -- cond
    first | refine WP.condP rfl (fun h2 => ?_) (fun h2 => ?_) | refine WP.condN rfl (fun h2 => ?_) (fun h2 => ?_) | refine WP.cond rfl (fun h2 => ?_) (fun h2 => ?_)
    · skip
      refine WP.seq <| WP.region <| v0 (S0.assign rfl) rfl <| vE <| WP.ret <| ?_  -- ret
      refine r1 rfl rfl ?_
      have hj : joinD S i = (1, S) := by unfold joinD; rw [if_pos (.inr h2)]
      rw [hj]; exact ⟨_, h0, rfl, rfl⟩
    · skip
      have hb : ¬ (i < 0 ∨ 1099511627776 < i) := by omega
      refine WP.skip <| WP.seq <| WP.seq <| WP.region <| v0 (S0.move rfl) rfl <| v0 (S0.move rfl) rfl <| ?_  -- op t15 := call F35{(*rivulet/rivuletref19.Devices).Find}(t13, t14)
      refine vcd (S1.callF rfl (find_spec hRD0 i (by omega)) (take1 at0 take0)) rfl ?_
      unfold ptrQ
      skip
      cases hf : findQ Q i with
      | some x =>
        skip
        unfold RO.ptr
        refine v0 (S0.nilP rfl rfl rfl rfl) rfl <| vE <| ?_  -- cond
        refine WP.condTh rfl (rfl) ?_
        refine WP.seq <| WP.region <| v0 (S0.assign rfl) rfl <| vE <| WP.ret <| ?_  -- ret
        refine r1 rfl rfl ?_
        rw [hf] at hfd
        have hj : joinD S i = (9, S) := by unfold joinD; rw [if_neg hb, ← hfd]; rfl
        rw [hj]; exact ⟨_, h0, rfl, rfl⟩
      | none =>
        skip
        rw [hf] at hfd
        have hfd : findD S i = none := hfd.symm
        refine v0 (S0.nilP rfl rfl rfl rfl) rfl <| vE <| ?_  -- cond
        refine WP.condFh rfl (rfl) ?_
        refine WP.skip <| WP.seq <| WP.seq <| WP.region <| v0 (S0.move rfl) rfl <| v0 (S0.nilCheck rfl) rfl <| v0 (S0.fieldAddr rfl) rfl <| v0 (S0.load rfl rfl) rfl <| v0 (S0.lenSl rfl) rfl <| v0 (S0.cmp rfl rfl rfl) rfl <| vE <| ?_  -- cond
        first | refine WP.condP rfl (fun h3 => ?_) (fun h3 => ?_) | refine WP.condN rfl (fun h3 => ?_) (fun h3 => ?_) | refine WP.cond rfl (fun h3 => ?_) (fun h3 => ?_)
        · skip
          refine WP.seq <| WP.region <| v0 (S0.assign rfl) rfl <| vE <| WP.ret <| ?_  -- ret
          refine r1 rfl rfl ?_
          have hj : joinD S i = (7, S) := by unfold joinD; rw [if_neg hb, hfd, if_neg (by simp), if_pos (by omega)]
          rw [hj]; exact ⟨_, h0, rfl, rfl⟩
        · skip
          have hj : joinD S i = (0, insD S ⟨i, [], []⟩) := by unfold joinD; rw [if_neg hb, hfd, if_neg (by simp), if_neg (by omega)]
          refine WP.skip <| WP.seq <| WP.region <| vnv (S1.buildSlice rfl (qs := []) rfl rfl) rfl fun b23 => v0 (S0.assign rfl) rfl <| v0 (S0.assign rfl) rfl <| vE <| ?_  -- cut
          refine WP.cutS (fun st : Nat × Value × List Blk => st.1 ≤ Q.length ∧ (∀ (j : Nat) (y : RO), j < st.1 → Q[j]? = some y → y.y.i < i) ∧ (∀ y, Q[st.1]? = some y → ¬ y.y.i < i) ∧ IsSl 73 1 st.2.1 (ptrs (Q.take st.1)) st.2.2) (fun st : Nat × Value × List Blk => [(0, .pointer (some ⟨rb, 0, none⟩)), (1, .int .i64 i), (5, st.2.1), (6, .int .i64 (st.1 : Int))]) (fun st : Nat × Value × List Blk => [st.2.2, c]) ?_ (fun st hinv => ?_)
          · refine WP.block <| ?_  -- Code.loop
            refine WP.loop (fun st : Nat × Value × List Blk => st.1 ≤ Q.length ∧ (∀ (j : Nat) (y : RO), j < st.1 → Q[j]? = some y → y.y.i < i) ∧ IsSl 73 1 st.2.1 (ptrs (Q.take st.1)) st.2.2) (fun st : Nat × Value × List Blk => [(0, .pointer (some ⟨rb, 0, none⟩)), (1, .int .i64 i), (5, st.2.1), (6, .int .i64 (st.1 : Int))]) (fun st : Nat × Value × List Blk => [st.2.2, c]) (fun st : Nat × Value × List Blk => Q.length - st.1) ((0, .slice (some ⟨b23, 0, none⟩) 0 0, [(b23, .cells ⟨[]⟩ 73 (0, 0))])) (⟨Nat.zero_le _, fun j y hj => by omega, IsSl.row (n := 0) (c := 0) (l := []) (sp := []) rfl rfl (Nat.le_refl _)⟩) ⟨rfl, rfl, rfl, rfl, trivial⟩ ⟨_, (take1 at0 (take1 at0 take0))⟩ (fun st hinv => ?_) 
            obtain ⟨k, ov, orow⟩ := st
            obtain ⟨hk, hlo, hos⟩ := hinv
            dsimp only at hk hlo hos ⊢
            refine WP.seq <| WP.seq <| WP.region <| v0 (S0.move rfl) rfl <| v0 (S0.move rfl) rfl <| v0 (S0.nilCheck rfl) rfl <| v0 (S0.fieldAddr rfl) rfl <| v0 (S0.load rfl rfl) rfl <| v0 (S0.lenSl rfl) rfl <| v0 (S0.cmp rfl rfl rfl) rfl <| v0 (S0.move rfl) rfl <| ?_  -- guard t31 (wants True) at t32 := move t0 [if #7=True]
            first | refine csP (t := 31) rfl (fun h4 => ?_) (fun h4 => ?_) | refine csN (t := 31) rfl (fun h4 => ?_) (fun h4 => ?_) | refine cs (t := 31) rfl (fun h4 => ?_) (fun h4 => ?_)
            · skip
              have hlt : k < Q.length := by omega
              have hx : Q[k]? = some Q[k] := by simp [hlt]
              have hxm := List.getElem_mem hlt
              generalize Q[k] = x at hx hxm
              obtain ⟨i2, -, -⟩ := ro_has hxm hblk
              rcases hrow with ⟨e, -⟩ | ⟨b1, sp1, rfl, rfl, hsp1⟩
              · rw [e] at hlt; simp at hlt
              have i3 : HasC c b1 (.cells ⟨ptrs Q ++ sp1⟩ 73 (0, 0)) := ⟨hsub _ (by simp)⟩
              refine gT rfl <| v0 (S0.move rfl) rfl <| gT rfl <| v0 (S0.nilCheck rfl) rfl <| gT rfl <| v0 (S0.fieldAddr rfl) rfl <| gT rfl <| v0 (S0.load rfl rfl) rfl <| gT rfl <| v0 (S0.move rfl) rfl <| ?_  -- op t37 := indexAddr 27 t35 t36 [if #7=True]
              refine gT rfl <| v0 (S0.index1 rfl rfl hlt) rfl <| ?_
              refine gT rfl <| v0 (S0.load rfl (ptrs_get hx)) rfl <| ?_
              unfold RO.ptr
              refine gT rfl <| v0 (S0.nilCheck rfl) rfl <| gT rfl <| v0 (S0.fieldAddr rfl) rfl <| gT rfl <| v0 (S0.load rfl rfl) rfl <| gT rfl <| v0 (S0.move rfl) rfl <| gT rfl <| v0 (S0.cmp rfl rfl rfl) rfl <| v0 (S0.pickT rfl rfl) rfl <| vE <| ?_  -- cond
              first | refine WP.condP rfl (fun h5 => ?_) (fun h5 => ?_) | refine WP.condN rfl (fun h5 => ?_) (fun h5 => ?_) | refine WP.cond rfl (fun h5 => ?_) (fun h5 => ?_)
              · skip
                refine WP.skip <| WP.block <| WP.seq <| WP.region <| v0 (S0.move rfl) rfl <| v0 (S0.move rfl) rfl <| v0 (S0.nilCheck rfl) rfl <| v0 (S0.fieldAddr rfl) rfl <| v0 (S0.load rfl rfl) rfl <| v0 (S0.move rfl) rfl <| ?_  -- op t51 := indexAddr 27 t49 t50
                refine v0 (S0.index1 rfl rfl hlt) rfl <| ?_
                refine v0 (S0.load rfl (ptrs_get hx)) rfl <| ?_
                unfold RO.ptr
                refine vnv (S1.buildSlice rfl (qs := [(0, _)]) rfl rfl) rfl fun b53 => ?_  -- op t54 := append(t45, t53) :[27, 27]
                refine ve (S1.appendL rfl hos rfl rfl (atS at0) rfl rfl (by rw [ptrs_len]; simp; omega)) rfl ?_
                rintro v2 _ ⟨row2, hs2, rfl⟩
                have hs3 : IsSl 73 1 v2 (ptrs (Q.take (k + 1))) row2 := by
                  have hs2 : IsSl 73 1 v2 (ptrs (Q.take k) ++ [x.ptr]) row2 := hs2
                  rw [List.take_add_one, hx]; simpa using hs2
                refine v0 (S0.assign rfl) rfl <| vE <| WP.region <| v0 (S0.move rfl) rfl <| v0 (S0.ari rfl rfl rfl (wrap_i64 (by omega))) rfl <| v0 (S0.assign rfl) rfl <| vE <| ?_  -- roundend
                exact ⟨(k + 1, v2, row2), (by first | exact ⟨hlt, below_at (p := fun _ (y : RO) => y.y.i < i) hlo hx h5, hs3⟩ | (dsimp only; exact ⟨hlt, below_at (p := fun _ (y : RO) => y.y.i < i) hlo hx h5, hs3⟩)), (show Q.length - (k + 1) < Q.length - k by omega), ⟨⟨rfl, rfl, rfl, rfl, trivial⟩, rfl, rfl⟩, ⟨_, (take1 at0 (take1 (atS at0) take0))⟩⟩
              · skip
                refine WP.exit <| ?_  -- cutend
                exact ⟨(k, ov, orow), (by first | exact ⟨hk, hlo, fun y hy => by rw [hx] at hy; cases hy; exact h5, hos⟩ | (dsimp only; exact ⟨hk, hlo, fun y hy => by rw [hx] at hy; cases hy; exact h5, hos⟩)), ⟨⟨rfl, rfl, rfl, rfl, trivial⟩, rfl, rfl⟩, ⟨_, (take1 at0 (take1 at0 take0))⟩⟩
            · skip
              refine gF rfl rfl <| gF rfl rfl <| gF rfl rfl <| gF rfl rfl <| gF rfl rfl <| gF rfl rfl <| gF rfl rfl <| gF rfl rfl <| gF rfl rfl <| gF rfl rfl <| gF rfl rfl <| gF rfl rfl <| v0 (S0.pickF rfl rfl) rfl <| vE <| WP.condF rfl <| WP.exit <| ?_  -- cutend
              exact ⟨(k, ov, orow), (by first | exact ⟨hk, hlo, fun y hy => by have := (List.getElem?_eq_some_iff.1 hy).1; omega, hos⟩ | (dsimp only; exact ⟨hk, hlo, fun y hy => by have := (List.getElem?_eq_some_iff.1 hy).1; omega, hos⟩)), ⟨⟨rfl, rfl, rfl, rfl, trivial⟩, rfl, rfl⟩, ⟨_, (take1 at0 (take1 at0 take0))⟩⟩
          · skip
            obtain ⟨k, ov, orow⟩ := st
            obtain ⟨hk, hlo, hhi, hos⟩ := hinv
            dsimp only at hk hlo hhi hos ⊢
            have htl : (Q.take k).length ≤ 16 := by rw [List.length_take]; omega
            have hdl : (Q.drop k).length ≤ 16 := by rw [List.length_drop]; omega
            refine WP.seq <| WP.region <| v0 (S0.move rfl) rfl <| v0 (S0.move rfl) rfl <| v0 (S0.build rfl (qs := [(0, _)]) rfl) rfl <| vn (S1.box rfl rfl) rfl fun b60 => vnv (S1.buildSlice rfl (qs := [(0, _)]) rfl rfl) rfl fun b61 => ?_  -- op t62 := append(t57, t61) :[27, 27]
            refine ve (S1.appendL rfl hos rfl rfl (atS (atS at0)) rfl rfl (by rw [ptrs_len]; simp; omega)) rfl ?_
            rintro v2 _ ⟨row2, hs2, rfl⟩
            refine v0 (S0.assign rfl) rfl <| vE <| WP.seq <| WP.region <| v0 (S0.move rfl) rfl <| v0 (S0.move rfl) rfl <| v0 (S0.nilCheck rfl) rfl <| v0 (S0.fieldAddr rfl) rfl <| v0 (S0.load rfl rfl) rfl <| v0 (S0.move rfl) rfl <| ?_  -- op t69 := slice 27 t67 t68 none none
            refine v0 (S0.sliceG (i := k) (j := Q.length) rfl rfl rfl ⟨hk, hcap⟩) rfl <| ?_
            -- (nothing to walk: op t70 := append(t63, t69) :[27, 27])
            refine ve (S1.appendR (en := fun x : RO => [x.ptr]) (k := 0) (fun _ => rfl) (fun _ => rfl) rfl hs2 rfl (hrd.drop1 hk) (fun q hq => List.mem_flatten.2 ⟨c, by simp, hq⟩) at0 rfl (by rw [List.length_append, ptrs_len]; simp; omega)) rfl ?_
            rintro v3 _ ⟨row3, hs3, rfl⟩
            have hs4 : IsSl 73 1 v3 (ptrs (Q.take k ++ ⟨b60, ⟨i, [], []⟩, .slice none 0 0, [], .slice none 0 0, []⟩ :: Q.drop k)) row3 := by
              have e : ptrs (Q.take k ++ ⟨b60, ⟨i, [], []⟩, .slice none 0 0, [], .slice none 0 0, []⟩ :: Q.drop k) = ptrs (Q.take k) ++ [.pointer (some ⟨b60, 0, none⟩)] ++ (Q.drop k).flatMap fun x => [x.ptr] := by
                rw [← ptrs_flat]; simp [RO.ptr]
              rw [e]; exact hs3
            refine WO.perm (h' := [[(rb, cel [.slice a Q.length cap] 29)], row3, [(b60, .cells ⟨[.int .i64 i, .slice none 0 0, .slice none 0 0]⟩ 76 (0, 0))], rblks 76 Q]) (k := [[(b61, cel [.pointer (some ⟨b60, 0, none⟩)] 73)], row]) (by rw [hc]; exact (pm fun a_ => by (try simp only [List.flatten_append, List.flatten_cons, List.flatten_nil, List.append_nil, List.cons_append, List.nil_append, List.append_assoc, nOf_app, nOf_cons, nOf_nil, Nat.add_zero, Nat.zero_add, List.map_append, List.map_cons, List.map_nil, cel, sv]); first | done | omega)) ?_
            refine v0 (S0.assign rfl) rfl <| vE <| WP.seq <| WP.region <| v0 (S0.move rfl) rfl <| v0 (S0.move rfl) rfl <| v0 (S0.nilCheck rfl) rfl <| v0 (S0.fieldAddr rfl) rfl <| vs (S1.store rfl rfl (by first | rfl | exact IsSl.cv (by assumption))) <| vE <| WP.seq <| WP.region <| v0 (S0.assign rfl) rfl <| vE <| WP.ret <| ?_  -- ret
            refine Leaves.drop (h' := [(rb, cel [v3] 29) :: (row3 ++ rblks 76 (Q.take k ++ ⟨b60, ⟨i, [], []⟩, .slice none 0 0, [], .slice none 0 0, []⟩ :: Q.drop k))]) (k := []) ?_ ?_
            · have e : rblks 76 Q = rblks 76 (Q.take k) ++ rblks 76 (Q.drop k) := by rw [← rblks_app, List.take_append_drop]
              rw [e, rblks_app, rblks_cons]
              exact (pm fun a_ => by (try simp only [List.flatten_append, List.flatten_cons, List.flatten_nil, List.append_nil, List.cons_append, List.nil_append, List.append_assoc, nOf_app, nOf_cons, nOf_nil, Nat.add_zero, Nat.zero_add, List.map_append, List.map_cons, List.map_nil, cel, sv, RO.blks]); first | done | omega)
            refine r1 rfl rfl ?_
            rw [hj]
            refine ⟨_, ⟨Q.take k ++ ⟨b60, ⟨i, [], []⟩, .slice none 0 0, [], .slice none 0 0, []⟩ :: Q.drop k, ⟨v3, row3, hs4, fun x hx => ?_, rfl⟩, ?_⟩, rfl, rfl⟩
            · rcases List.mem_append.1 hx with hx | hx
              · exact hok x (List.mem_of_mem_take hx)
              · rcases List.mem_cons.1 hx with rfl | hx
                · exact ⟨IsSl.nil, IsSl.nil⟩
                · exact hok x (List.mem_of_mem_drop hx)
            · have := insD_at (S := S) (y := ⟨i, [], []⟩) (k := k) (by omega) (fun j z hj hz => by
                rw [← hQS, List.getElem?_map, Option.map_eq_some_iff] at hz
                obtain ⟨y, hy, rfl⟩ := hz
                exact hlo j y hj hy) (fun z hz => by
                rw [← hQS, List.getElem?_map, Option.map_eq_some_iff] at hz
                obtain ⟨y, hy, rfl⟩ := hz
                exact hhi y hy)
              rw [this, ← hQS]; simp
theorem rblks_filter (T : TypeId) (p : RO → Bool) (Q : List RO) : (rblks T Q).Perm (rblks T (Q.filter p) ++ rblks T (Q.filter fun x => !p x)) := by
  rw [← rblks_app]
  unfold rblks
  exact (List.filter_append_perm p Q).symm.flatMap_right _
theorem rleave_spec {rb : Nat} {S : DS} {c : List Blk} (h : IsRD rb S c) (hl : S.length ≤ 16) (i : Int) :
    FN Tryz.prog 14 [.pointer (some ⟨rb, 0, none⟩), .int .i64 i] [c] (fun u h => ∃ c', IsRD rb (leaveD S i).2 c' ∧ u = .int .i64 (leaveD S i).1 ∧ h = [c']) := by
  have h0 := h
  obtain ⟨Q, hRD, hQS⟩ := h
  have hfd := findQ_D Q i
  rw [hQS] at hfd
  have hQl : Q.length = S.length := by rw [← hQS, List.length_map]
  have hRD0 := hRD
  obtain ⟨v, row, hs, hok, hc⟩ := hRD
  obtain ⟨a, cap, rfl, hcap, hrow⟩ := hs.ptrsE
  have i1 : HasC c rb (cel [.slice a Q.length cap] 29) := ⟨by rw [hc]; simp⟩
  have hsub : ∀ z ∈ row, z ∈ c := fun z hz => by rw [hc]; simp [hz]
  have hblk : ∀ z ∈ rblks 76 Q, z ∈ c := fun z hz => by rw [hc]; simp [hz]
  refine FN.intro 47 [(0, .pointer (some ⟨rb, 0, none⟩)), (1, .int .i64 i)] Tryz.func14 rfl (enters Tryz.func14 (by kernel_rfl) rfl) Tryz.ntmps14 rfl rfl ?_
  refine WP.seq <| WP.region <| v0 (S0.assign rfl) rfl <| vE <| WP.seq <| WP.seq <| WP.region <| v0 (S0.move rfl) rfl <| v0 (S0.move rfl) rfl <| ?_  -- op t9 := call F35{(*rivulet/rivuletref19.Devices).Find}(t7, t8)
  refine vcd (S1.callF rfl (find_spec hRD0 i (by omega)) (take1 at0 take0)) rfl ?_
  unfold ptrQ
  skip
  cases hf : findQ Q i with
  | none =>
    skip
    rw [hf] at hfd
    refine v0 (S0.nilP rfl rfl rfl rfl) rfl <| vE <| ?_  -- cond
    refine WP.condTh rfl (rfl) ?_
    refine WP.seq <| WP.region <| v0 (S0.assign rfl) rfl <| vE <| WP.ret <| ?_  -- ret
    refine r1 rfl rfl ?_
    have hj : leaveD S i = (8, S) := by unfold leaveD; rw [← hfd]; rfl
    rw [hj]; exact ⟨_, h0, rfl, rfl⟩
  | some x0 =>
    skip
    rw [hf] at hfd
    have hj : leaveD S i = (0, delD S i) := by unfold leaveD; rw [← hfd]; rfl
    unfold RO.ptr
    refine v0 (S0.nilP rfl rfl rfl rfl) rfl <| vE <| ?_  -- cond
    refine WP.condFh rfl (rfl) ?_
    refine WP.skip <| WP.seq <| WP.region <| vnv (S1.buildSlice rfl (qs := []) rfl rfl) rfl fun b11 => v0 (S0.assign rfl) rfl <| vE <| WP.seq <| WP.seq <| WP.region <| v0 (S0.assign rfl) rfl <| vE <| WP.block <| ?_  -- Code.loop
    refine WP.loop (fun st : Nat × Value × List Blk => st.1 ≤ Q.length ∧ IsSl 73 1 st.2.1 (ptrs ((Q.take st.1).filter fun x => !decide (x.y.i = i))) st.2.2) (fun st : Nat × Value × List Blk => [(0, .pointer (some ⟨rb, 0, none⟩)), (1, .int .i64 i), (5, st.2.1), (6, .int .i64 (st.1 : Int))]) (fun st : Nat × Value × List Blk => [st.2.2, c]) (fun st : Nat × Value × List Blk => Q.length - st.1) ((0, .slice (some ⟨b11, 0, none⟩) 0 0, [(b11, .cells ⟨[]⟩ 73 (0, 0))])) (⟨Nat.zero_le _, IsSl.row (n := 0) (c := 0) (l := []) (sp := []) rfl rfl (Nat.le_refl _)⟩) ⟨rfl, rfl, rfl, rfl, trivial⟩ ⟨_, (take1 at0 (take1 at0 take0))⟩ (fun st hinv => ?_) 
    obtain ⟨k, ov, orow⟩ := st
    obtain ⟨hk, hos⟩ := hinv
    dsimp only at hk hos ⊢
    have htl : ((Q.take k).filter fun x => !decide (x.y.i = i)).length ≤ 16 := by
      have := List.length_filter_le (fun x : RO => !decide (x.y.i = i)) (Q.take k)
      rw [List.length_take] at this; omega
    refine WP.seq <| WP.seq <| WP.region <| v0 (S0.move rfl) rfl <| v0 (S0.move rfl) rfl <| v0 (S0.nilCheck rfl) rfl <| v0 (S0.fieldAddr rfl) rfl <| v0 (S0.load rfl rfl) rfl <| v0 (S0.lenSl rfl) rfl <| v0 (S0.cmp rfl rfl rfl) rfl <| vE <| ?_  -- cond
    first | refine WP.condP rfl (fun h4 => ?_) (fun h4 => ?_) | refine WP.condN rfl (fun h4 => ?_) (fun h4 => ?_) | refine WP.cond rfl (fun h4 => ?_) (fun h4 => ?_)
    · skip
      have hlt : k < Q.length := by omega
      have hx : Q[k]? = some Q[k] := by simp [hlt]
      have hxm := List.getElem_mem hlt
      generalize Q[k] = x at hx hxm
      obtain ⟨i2, -, -⟩ := ro_has hxm hblk
      rcases hrow with ⟨e, -⟩ | ⟨b1, sp1, rfl, rfl, hsp1⟩
      · rw [e] at hlt; simp at hlt
      have i3 : HasC c b1 (.cells ⟨ptrs Q ++ sp1⟩ 73 (0, 0)) := ⟨hsub _ (by simp)⟩
      refine WP.skip <| WP.seq <| WP.block <| WP.seq <| WP.region <| v0 (S0.move rfl) rfl <| v0 (S0.nilCheck rfl) rfl <| v0 (S0.fieldAddr rfl) rfl <| v0 (S0.load rfl rfl) rfl <| v0 (S0.move rfl) rfl <| ?_  -- op t26 := indexAddr 27 t24 t25
      refine v0 (S0.index1 rfl rfl hlt) rfl <| ?_
      refine v0 (S0.load rfl (ptrs_get hx)) rfl <| ?_
      unfold RO.ptr
      refine v0 (S0.nilCheck rfl) rfl <| v0 (S0.fieldAddr rfl) rfl <| v0 (S0.load rfl rfl) rfl <| v0 (S0.move rfl) rfl <| v0 (S0.cmp rfl rfl rfl) rfl <| vE <| ?_  -- cond
      first | refine WP.condP rfl (fun h5 => ?_) (fun h5 => ?_) | refine WP.condN rfl (fun h5 => ?_) (fun h5 => ?_) | refine WP.cond rfl (fun h5 => ?_) (fun h5 => ?_)
      · skip
        refine WP.region <| v0 (S0.move rfl) rfl <| v0 (S0.move rfl) rfl <| v0 (S0.nilCheck rfl) rfl <| v0 (S0.fieldAddr rfl) rfl <| v0 (S0.load rfl rfl) rfl <| v0 (S0.move rfl) rfl <| ?_  -- op t39 := indexAddr 27 t37 t38
        refine v0 (S0.index1 rfl rfl hlt) rfl <| ?_
        refine v0 (S0.load rfl (ptrs_get hx)) rfl <| ?_
        unfold RO.ptr
        refine vnv (S1.buildSlice rfl (qs := [(0, _)]) rfl rfl) rfl fun b41 => ?_  -- op t42 := append(t33, t41) :[27, 27]
        refine ve (S1.appendL rfl hos rfl rfl (atS at0) rfl rfl (by rw [ptrs_len]; simp only [List.length_cons, List.length_nil]; omega)) rfl ?_
        rintro v2 _ ⟨row2, hs2, rfl⟩
        have hs3 : IsSl 73 1 v2 (ptrs ((Q.take (k + 1)).filter fun x => !decide (x.y.i = i))) row2 := by
          have hs2 : IsSl 73 1 v2 (ptrs ((Q.take k).filter fun x => !decide (x.y.i = i)) ++ [x.ptr]) row2 := hs2
          have e : (Q.take (k + 1)).filter (fun x => !decide (x.y.i = i)) = (Q.take k).filter (fun x => !decide (x.y.i = i)) ++ [x] := by rw [List.take_add_one, hx, List.filter_append]; simp [h5]
          rw [e, ptrs, List.map_append]; exact hs2
        refine v0 (S0.assign rfl) rfl <| vE <| WP.region <| v0 (S0.move rfl) rfl <| v0 (S0.ari rfl rfl rfl (wrap_i64 (by omega))) rfl <| v0 (S0.assign rfl) rfl <| vE <| ?_  -- roundend
        exact ⟨(k + 1, v2, row2), (by first | exact ⟨hlt, hs3⟩ | (dsimp only; exact ⟨hlt, hs3⟩)), (show Q.length - (k + 1) < Q.length - k by omega), ⟨⟨rfl, rfl, rfl, rfl, trivial⟩, rfl, rfl⟩, ⟨_, (take1 at0 (take1 (atS at0) take0))⟩⟩
      · skip
        have e : (Q.take (k + 1)).filter (fun x => !decide (x.y.i = i)) = (Q.take k).filter (fun x => !decide (x.y.i = i)) := by
          have h6 : x.y.i = i := by first | exact h5 | exact Decidable.not_not.1 h5
          rw [List.take_add_one, hx, List.filter_append]; simp [h6]
        refine WP.skip <| WP.region <| v0 (S0.move rfl) rfl <| v0 (S0.ari rfl rfl rfl (wrap_i64 (by omega))) rfl <| v0 (S0.assign rfl) rfl <| vE <| ?_  -- roundend
        exact ⟨(k + 1, ov, orow), (by first | exact ⟨hlt, by rw [e]; exact hos⟩ | (dsimp only; exact ⟨hlt, by rw [e]; exact hos⟩)), (show Q.length - (k + 1) < Q.length - k by omega), ⟨⟨rfl, rfl, rfl, rfl, trivial⟩, rfl, rfl⟩, ⟨_, (take1 at0 (take1 at0 take0))⟩⟩
    · skip
      have e : k = Q.length := by omega
      subst e
      rw [List.take_length] at hos
      have hfp := rblks_filter 76 (fun x => !decide (x.y.i = i)) Q
      refine WP.perm (h' := [[(rb, cel [.slice a Q.length cap] 29)], orow, rblks 76 (Q.filter fun x => !decide (x.y.i = i))]) (k := [row, rblks 76 (Q.filter fun x => !!decide (x.y.i = i))]) (by rw [hc]; exact (pm fun a_ => by have h0_ := pm_of (hfp) a_; (try simp only [List.flatten_append, List.flatten_cons, List.flatten_nil, List.append_nil, List.cons_append, List.nil_append, List.append_assoc, nOf_app, nOf_cons, nOf_nil, Nat.add_zero, Nat.zero_add, List.map_append, List.map_cons, List.map_nil, cel, sv] at h0_); (try simp only [List.flatten_append, List.flatten_cons, List.flatten_nil, List.append_nil, List.cons_append, List.nil_append, List.append_assoc, nOf_app, nOf_cons, nOf_nil, Nat.add_zero, Nat.zero_add, List.map_append, List.map_cons, List.map_nil, cel, sv]); first | done | omega)) ?_
      refine WP.exit <| WP.seq <| WP.region <| v0 (S0.move rfl) rfl <| v0 (S0.move rfl) rfl <| v0 (S0.nilCheck rfl) rfl <| v0 (S0.fieldAddr rfl) rfl <| vs (S1.store rfl rfl (by first | rfl | exact IsSl.cv (by assumption))) <| vE <| WP.seq <| WP.region <| v0 (S0.assign rfl) rfl <| vE <| WP.ret <| ?_  -- ret
      refine Leaves.drop (h' := [(rb, cel [ov] 29) :: (orow ++ rblks 76 (Q.filter fun x => !decide (x.y.i = i)))]) (k := []) (pm fun a_ => by (try simp only [List.flatten_append, List.flatten_cons, List.flatten_nil, List.append_nil, List.cons_append, List.nil_append, List.append_assoc, nOf_app, nOf_cons, nOf_nil, Nat.add_zero, Nat.zero_add, List.map_append, List.map_cons, List.map_nil, cel, sv]); first | done | omega) ?_
      refine r1 rfl rfl ?_
      rw [hj]
      refine ⟨_, ⟨Q.filter fun x => !decide (x.y.i = i), ⟨ov, orow, hos, fun x hx => hok x (List.mem_filter.1 hx).1, rfl⟩, ?_⟩, rfl, rfl⟩
      rw [← hQS]; unfold delD; rw [List.filter_map]; rfl
end Go.Proofs.YtanecnnfpdhadaaGreatDoor
/- Q4 -/
namespace Go.Proofs.YtanecnnfpdhadaaGreatDoor
open Go

theorem filt_had {F : List Str} (f : Str) : (F.filter fun z => !decide (z = f)).length < F.length ↔ f ∈ F := by
  induction F with
  | nil => simp
  | cons z F ih =>
    have hle := List.length_filter_le (fun z => !decide (z = f)) F
    by_cases e : z = f
    · rw [List.filter_cons_of_neg (by simp [e])]
      simp [e]; omega
    · rw [List.filter_cons_of_pos (by simp [e])]
      simp only [List.length_cons, List.mem_cons]
      rw [Nat.add_lt_add_iff_right, ih]
      exact ⟨.inr, fun h => h.resolve_left fun e2 => e e2.symm⟩
theorem filt_same {F : List Str} {f : Str} (h : f ∉ F) : (F.filter fun z => !decide (z = f)) = F := List.filter_eq_self.2 fun z hz => by
  have : z ≠ f := fun e => h (by rw [← e]; exact hz)
  simp [this]
theorem rask_spec {rb : Nat} {S : DS} {c : List Blk} (h : IsRD rb S c) (ho : DevOk S) (i : Int) {f : Str} (hfl : f.length ≤ 900000) (on : Bool) :
    FN Tryz.prog 16 [.pointer (some ⟨rb, 0, none⟩), .int .i64 i, sv f, .bool on] [c] (fun u h => ∃ c', IsRD rb (askD S i f on).2 c' ∧ u = .int .i64 (askD S i f on).1 ∧ h = [c']) := by
  have h0 := h
  obtain ⟨Q, hRD, hQS⟩ := h
  have hfd := findQ_D Q i
  rw [hQS] at hfd
  have hQl : Q.length = S.length := by rw [← hQS, List.length_map]
  have hSl := ho.len
  have hRD0 := hRD
  obtain ⟨v, row, hs, hok, hc⟩ := hRD
  have hblk : ∀ z ∈ rblks 76 Q, z ∈ c := fun z hz => by rw [hc]; simp [hz]
  refine FN.intro 88 [(0, .pointer (some ⟨rb, 0, none⟩)), (1, .int .i64 i), (2, sv f), (3, .bool on)] Tryz.func16 rfl (enters Tryz.func16 (by kernel_rfl) rfl) Tryz.ntmps16 rfl rfl ?_
  refine WP.seq <| WP.region <| v0 (S0.assign rfl) rfl <| vE <| WP.seq <| WP.region <| v0 (S0.move rfl) rfl <| v0 (S0.move rfl) rfl <| ?_  -- op t15 := call F35{(*rivulet/rivuletref19.Devices).Find}(t13, t14)
  refine vcd (S1.callF rfl (find_spec hRD0 i (by omega)) (take1 at0 take0)) rfl ?_
  unfold ptrQ
  skip
  cases hf : findQ Q i with
  | none =>
    skip
    rw [hf] at hfd
    refine v0 (S0.assign rfl) rfl <| vE <| WP.seq <| WP.seq <| WP.region <| v0 (S0.move rfl) rfl <| v0 (S0.nilP rfl rfl rfl rfl) rfl <| vE <| ?_  -- cond
    refine WP.condTh rfl (rfl) ?_
    refine WP.seq <| WP.region <| v0 (S0.assign rfl) rfl <| vE <| WP.ret <| ?_  -- ret
    refine r1 rfl rfl ?_
    have hj : askD S i f on = (8, S) := by unfold askD; rw [← hfd]; rfl
    rw [hj]; exact ⟨_, h0, rfl, rfl⟩
  | some x =>
    skip
    rw [hf] at hfd
    obtain ⟨k, hx, hxi⟩ := findQ_at hf
    have hxm := List.mem_of_getElem? hx
    have hokx := hok x hxm
    have hfd : findD S i = some x.y := hfd.symm
    have hyS := (find_mem hfd).1
    have hoy := ho.all _ hyS
    obtain ⟨i2, hfr, hmr⟩ := ro_has hxm hblk
    obtain ⟨C, hc1, hc2⟩ := rblks_at 76 hx
    obtain ⟨xb, ⟨yi, yF, yM⟩, fv, frow, mv, mrow⟩ := x
    obtain ⟨hfs, hms⟩ := hokx
    dsimp only at hxi hfs hms hfr hmr i2 hoy hyS
    subst hxi
    have hlF := hoy.lF
    dsimp only at hlF
    obtain ⟨a, cap, rfl, hcap, hrow⟩ := hfs.strsE
    have hj : askD S yi f on = ((askF yF f on).1, setD S ⟨yi, (askF yF f on).2, yM⟩) := by unfold askD; rw [hfd]
    have same : (askF yF f on).2 = yF → (askD S yi f on).2 = S := fun e => by
      rw [hj, e]; exact set_same ho.asc hyS
    have hQasc : (Q.map (·.y)).Pairwise fun x y => x.i < y.i := by rw [hQS]; exact ho.asc
    -- the filters are others
    have other : ∀ (v2 : Value) (row2 : List Blk) (hp : Hp), IsSl 9 1 v2 (strs (askF yF f on).2) row2 → hp.flatten.Perm ([(rb, cel [v] 29)] ++ (row ++ ((xb, .cells ⟨[.int .i64 yi, v2, mv]⟩ 76 (0, 0)) :: (row2 ++ (mrow ++ C))))) →
        ∃ c', IsRD rb (askD S yi f on).2 c' ∧ hp.flatten.Perm (([c'] : Hp).flatten ++ ([] : Hp).flatten) := fun v2 row2 hp h2 h3 => by
      have hc4 := hc2 ⟨xb, ⟨yi, (askF yF f on).2, yM⟩, v2, row2, mv, mrow⟩
      refine ⟨_, ⟨Q.set k ⟨xb, ⟨yi, (askF yF f on).2, yM⟩, v2, row2, mv, mrow⟩, ⟨v, row, by rw [ptrs_set (u := ⟨xb, ⟨yi, (askF yF f on).2, yM⟩, v2, row2, mv, mrow⟩) hx rfl]; exact hs, fun z hz => ?_, rfl⟩, ?_⟩, h3.trans (pm fun a_ => by have h0_ := pm_of (hc4) a_; (try simp only [List.flatten_append, List.flatten_cons, List.flatten_nil, List.append_nil, List.cons_append, List.nil_append, List.append_assoc, nOf_app, nOf_cons, nOf_nil, Nat.add_zero, Nat.zero_add, List.map_append, List.map_cons, List.map_nil, cel, sv, RO.blks] at h0_); (try simp only [List.flatten_append, List.flatten_cons, List.flatten_nil, List.append_nil, List.cons_append, List.nil_append, List.append_assoc, nOf_app, nOf_cons, nOf_nil, Nat.add_zero, Nat.zero_add, List.map_append, List.map_cons, List.map_nil, cel, sv, RO.blks]); first | done | omega)⟩
      · rcases List.mem_or_eq_of_mem_set hz with hz | rfl
        · exact hok z hz
        · exact ⟨h2, hms⟩
      · rw [setQ_D hx (by rfl) hQasc, hQS, hj]
    unfold RO.ptr
    refine v0 (S0.assign rfl) rfl <| vE <| WP.seq <| WP.seq <| WP.region <| v0 (S0.move rfl) rfl <| v0 (S0.nilP rfl rfl rfl rfl) rfl <| vE <| ?_  -- cond
    refine WP.condFh rfl (rfl) ?_
    refine WP.skip <| WP.seq <| WP.seq <| WP.region <| v0 (S0.move rfl) rfl <| ?_  -- op t19 := call F29{rivulet/rivuletref03.Filter}(t18)
    refine vcd (S1.callF rfl (rfilter_spec hfl) take0) rfl ?_
    refine v0 (S0.not rfl) rfl <| vE <| ?_  -- cond
    skip
    cases hff : filtS f with
    | false =>
      skip
      refine WP.condTh rfl (rfl) ?_
      refine WP.seq <| WP.region <| v0 (S0.assign rfl) rfl <| vE <| WP.ret <| ?_  -- ret
      refine r1 rfl rfl ?_
      have e : askF yF f on = (1, yF) := by unfold askF; rw [if_pos hff]
      rw [same (by rw [e]), hj, e]; exact ⟨_, h0, rfl, rfl⟩
    | true =>
      skip
      have hflen := filt_len hff
      have hxF : ∀ z ∈ yF, z.length ≤ 1000 := fun z hz => by have := filt_len (hoy.fF z hz); omega
      have hhad := filt_had (F := yF) f
      refine WP.condFh rfl (rfl) ?_
      refine WP.skip <| WP.seq <| WP.region <| vnv (S1.buildSlice rfl (qs := []) rfl rfl) rfl fun b21 => v0 (S0.assign rfl) rfl <| vE <| ?_  -- cut
      refine WP.cutS (fun st : Value × List Blk => IsSl 9 1 st.1 (strs (yF.filter fun z => !decide (z = f))) st.2) (fun st : Value × List Blk => [(0, .pointer (some ⟨rb, 0, none⟩)), (1, .int .i64 yi), (2, sv f), (3, .bool on), (9, .pointer (some ⟨xb, 0, none⟩)), (10, st.1)]) (fun st : Value × List Blk => [st.2, c]) ?_ (fun st hinv => ?_)
      · refine WP.seq <| WP.region <| v0 (S0.assign rfl) rfl <| vE <| WP.block <| ?_  -- Code.loop
        refine WP.loop (fun st : Nat × Value × List Blk => st.1 ≤ yF.length ∧ IsSl 9 1 st.2.1 (strs ((yF.take st.1).filter fun z => !decide (z = f))) st.2.2) (fun st : Nat × Value × List Blk => [(0, .pointer (some ⟨rb, 0, none⟩)), (1, .int .i64 yi), (2, sv f), (3, .bool on), (9, .pointer (some ⟨xb, 0, none⟩)), (10, st.2.1), (11, .int .i64 (st.1 : Int))]) (fun st : Nat × Value × List Blk => [st.2.2, c]) (fun st : Nat × Value × List Blk => yF.length - st.1) ((0, .slice (some ⟨b21, 0, none⟩) 0 0, [(b21, .cells ⟨[]⟩ 9 (0, 0))])) (⟨Nat.zero_le _, IsSl.row (n := 0) (c := 0) (l := []) (sp := []) rfl rfl (Nat.le_refl _)⟩) ⟨rfl, rfl, rfl, rfl, rfl, rfl, rfl, trivial⟩ ⟨_, (take1 at0 (take1 at0 take0))⟩ (fun st hinv => ?_) 
        obtain ⟨j, ov, orow⟩ := st
        obtain ⟨hjl, hos⟩ := hinv
        dsimp only at hjl hos ⊢
        have htl : ((yF.take j).filter fun z => !decide (z = f)).length ≤ 8 := by
          have := List.length_filter_le (fun z : Str => !decide (z = f)) (yF.take j)
          rw [List.length_take] at this; omega
        refine WP.seq <| WP.seq <| WP.region <| v0 (S0.move rfl) rfl <| v0 (S0.move rfl) rfl <| v0 (S0.nilCheck rfl) rfl <| v0 (S0.fieldAddr rfl) rfl <| v0 (S0.load rfl rfl) rfl <| v0 (S0.lenSl rfl) rfl <| v0 (S0.cmp rfl rfl rfl) rfl <| vE <| ?_  -- cond
        first | refine WP.condP rfl (fun h4 => ?_) (fun h4 => ?_) | refine WP.condN rfl (fun h4 => ?_) (fun h4 => ?_) | refine WP.cond rfl (fun h4 => ?_) (fun h4 => ?_)
        · skip
          have hlt : j < yF.length := by omega
          have hz : yF[j]? = some yF[j] := by simp [hlt]
          generalize yF[j] = z at hz
          rcases hrow with ⟨e, -⟩ | ⟨b1, sp1, rfl, rfl, hsp1⟩
          · rw [e] at hlt; simp at hlt
          have i3 : HasC c b1 (.cells ⟨strs yF ++ sp1⟩ 9 (0, 0)) := ⟨hfr _ (by simp)⟩
          refine WP.skip <| WP.seq <| WP.block <| WP.seq <| WP.region <| v0 (S0.move rfl) rfl <| v0 (S0.nilCheck rfl) rfl <| v0 (S0.fieldAddr rfl) rfl <| v0 (S0.load rfl rfl) rfl <| v0 (S0.move rfl) rfl <| ?_  -- op t36 := indexAddr 51 t34 t35
          refine v0 (S0.index1 rfl rfl hlt) rfl <| ?_
          refine v0 (S0.load rfl (strs_get hz)) rfl <| ?_
          refine v0 (S0.move rfl) rfl <| v0 (S0.cmpS rfl rfl rfl) rfl <| vE <| ?_  -- cond
          first | refine WP.condP rfl (fun h5 => ?_) (fun h5 => ?_) | refine WP.condN rfl (fun h5 => ?_) (fun h5 => ?_) | refine WP.cond rfl (fun h5 => ?_) (fun h5 => ?_)
          · skip
            refine WP.region <| v0 (S0.move rfl) rfl <| v0 (S0.move rfl) rfl <| v0 (S0.nilCheck rfl) rfl <| v0 (S0.fieldAddr rfl) rfl <| v0 (S0.load rfl rfl) rfl <| v0 (S0.move rfl) rfl <| ?_  -- op t46 := indexAddr 51 t44 t45
            refine v0 (S0.index1 rfl rfl hlt) rfl <| ?_
            refine v0 (S0.load rfl (strs_get hz)) rfl <| ?_
            refine vnv (S1.buildSlice rfl (qs := [(0, _)]) rfl rfl) rfl fun b48 => ?_  -- op t49 := append(t40, t48) :[51, 51]
            refine ve (S1.appendL rfl hos rfl rfl (atS at0) rfl rfl (by rw [strs_len]; simp only [List.length_cons, List.length_nil]; omega)) rfl ?_
            rintro v2 _ ⟨row2, hs2, rfl⟩
            have hs3 : IsSl 9 1 v2 (strs ((yF.take (j + 1)).filter fun z => !decide (z = f))) row2 := by
              have e : (yF.take (j + 1)).filter (fun z => !decide (z = f)) = (yF.take j).filter (fun z => !decide (z = f)) ++ [z] := by rw [List.take_add_one, hz, List.filter_append]; simp [h5]
              rw [e, strs, List.map_append]; exact hs2
            refine v0 (S0.assign rfl) rfl <| vE <| WP.region <| v0 (S0.move rfl) rfl <| v0 (S0.ari rfl rfl rfl (wrap_i64 (by omega))) rfl <| v0 (S0.assign rfl) rfl <| vE <| ?_  -- roundend
            exact ⟨(j + 1, v2, row2), (by first | exact ⟨hlt, hs3⟩ | (dsimp only; exact ⟨hlt, hs3⟩)), (show yF.length - (j + 1) < yF.length - j by omega), ⟨⟨rfl, rfl, rfl, rfl, rfl, rfl, rfl, trivial⟩, rfl, rfl⟩, ⟨_, (take1 at0 (take1 (atS at0) take0))⟩⟩
          · skip
            have e : (yF.take (j + 1)).filter (fun z => !decide (z = f)) = (yF.take j).filter (fun z => !decide (z = f)) := by
              have h6 : z = f := by first | exact h5 | exact Decidable.not_not.1 h5
              rw [List.take_add_one, hz, List.filter_append]; simp [h6]
            refine WP.skip <| WP.region <| v0 (S0.move rfl) rfl <| v0 (S0.ari rfl rfl rfl (wrap_i64 (by omega))) rfl <| v0 (S0.assign rfl) rfl <| vE <| ?_  -- roundend
            exact ⟨(j + 1, ov, orow), (by first | exact ⟨hlt, by rw [e]; exact hos⟩ | (dsimp only; exact ⟨hlt, by rw [e]; exact hos⟩)), (show yF.length - (j + 1) < yF.length - j by omega), ⟨⟨rfl, rfl, rfl, rfl, rfl, rfl, rfl, trivial⟩, rfl, rfl⟩, ⟨_, (take1 at0 (take1 at0 take0))⟩⟩
        · skip
          have e : j = yF.length := by omega
          subst e
          rw [List.take_length] at hos
          refine WP.exit <| ?_  -- cutend
          exact ⟨(ov, orow), (by first | exact hos | (dsimp only; exact hos)), ⟨⟨rfl, rfl, rfl, rfl, rfl, rfl, trivial⟩, rfl, rfl⟩, ⟨_, (take1 at0 (take1 at0 take0))⟩⟩
      · skip
        obtain ⟨ov, orow⟩ := st
        dsimp only at hinv ⊢
        have hos := hinv
        obtain ⟨oa, ocap, rfl, hocap, -⟩ := hos.strsE
        refine WP.seq <| WP.region <| v0 (S0.move rfl) rfl <| v0 (S0.lenSl rfl) rfl <| v0 (S0.move rfl) rfl <| v0 (S0.nilCheck rfl) rfl <| v0 (S0.fieldAddr rfl) rfl <| v0 (S0.load rfl rfl) rfl <| v0 (S0.lenSl rfl) rfl <| v0 (S0.cmp rfl rfl rfl) rfl <| v0 (S0.assign rfl) rfl <| vE <| WP.seq <| WP.seq <| WP.region <| v0 (S0.move rfl) rfl <| v0 (S0.move rfl) rfl <| ?_  -- guard t59 (wants True) at t60 := move t12 [if #1=True]
        skip
        cases on with
        | true =>
          skip
          refine csTh (t := 59) rfl (rfl) ?_
          refine gT rfl <| v0 (S0.move rfl) rfl <| v0 (S0.pickT rfl rfl) rfl <| vE <| ?_  -- cond
          first | refine WP.condP rfl (fun h1 => ?_) (fun h1 => ?_) | refine WP.condN rfl (fun h1 => ?_) (fun h1 => ?_) | refine WP.cond rfl (fun h1 => ?_) (fun h1 => ?_)
          · skip
            refine WP.seq <| WP.region <| v0 (S0.assign rfl) rfl <| vE <| WP.ret <| ?_  -- ret
            refine Leaves.drop (take1 (atS at0) take0) ?_
            refine r1 rfl rfl ?_
            have e : askF yF f true = (9, yF) := by unfold askF; rw [if_neg (by simp [hff]), if_pos rfl, if_pos (hhad.1 (by omega))]
            rw [same (by rw [e]), hj, e]; exact ⟨_, h0, rfl, rfl⟩
          · skip
            have hnf : f ∉ yF := fun hm => h1 (by have := hhad.2 hm; omega)
            refine WP.skip <| WP.seq <| WP.seq <| WP.region <| v0 (S0.move rfl) rfl <| v0 (S0.move rfl) rfl <| ?_  -- guard t63 (wants True) at t64 := move t9 [if #1=True]
            refine csTh (t := 63) rfl (rfl) ?_
            refine gT rfl <| v0 (S0.move rfl) rfl <| gT rfl <| v0 (S0.nilCheck rfl) rfl <| gT rfl <| v0 (S0.fieldAddr rfl) rfl <| gT rfl <| v0 (S0.load rfl rfl) rfl <| gT rfl <| v0 (S0.lenSl rfl) rfl <| gT rfl <| v0 (S0.cmp rfl rfl rfl) rfl <| v0 (S0.pickT rfl rfl) rfl <| vE <| ?_  -- cond
            first | refine WP.condP rfl (fun h2 => ?_) (fun h2 => ?_) | refine WP.condN rfl (fun h2 => ?_) (fun h2 => ?_) | refine WP.cond rfl (fun h2 => ?_) (fun h2 => ?_)
            · skip
              refine WP.seq <| WP.region <| v0 (S0.assign rfl) rfl <| vE <| WP.ret <| ?_  -- ret
              refine Leaves.drop (take1 (atS at0) take0) ?_
              refine r1 rfl rfl ?_
              have e : askF yF f true = (7, yF) := by unfold askF; rw [if_neg (by simp [hff]), if_pos rfl, if_neg hnf, if_pos (by omega)]
              rw [same (by rw [e]), hj, e]; exact ⟨_, h0, rfl, rfl⟩
            · skip
              have e : askF yF f true = (0, insS yF f) := by unfold askF; rw [if_neg (by simp [hff]), if_pos rfl, if_neg hnf, if_neg (by omega)]
              have hos2 : IsSl 9 1 (.slice oa (yF.filter fun z => !decide (z = f)).length ocap) (strs yF) orow := by
                rw [filt_same hnf] at hos ⊢; exact hos
              refine WP.skip <| WP.seq <| WP.seq <| WP.region <| v0 (S0.move rfl) rfl <| v0 (S0.not rfl) rfl <| v0 (S0.move rfl) rfl <| ?_  -- guard t73 (wants True) at t74 := move t12 [if #2=True]
              refine csFh (t := 73) rfl (rfl) ?_
              refine WO.perm (h' := [[(rb, cel [v] 29)], row, [(xb, .cells ⟨[.int .i64 yi, .slice a yF.length cap, mv]⟩ 76 (0, 0))], mrow, C, orow]) (k := [frow]) (by rw [hc]; exact (pm fun a_ => by have h0_ := pm_of (hc1) a_; (try simp only [List.flatten_append, List.flatten_cons, List.flatten_nil, List.append_nil, List.cons_append, List.nil_append, List.append_assoc, nOf_app, nOf_cons, nOf_nil, Nat.add_zero, Nat.zero_add, List.map_append, List.map_cons, List.map_nil, cel, sv, RO.blks] at h0_); (try simp only [List.flatten_append, List.flatten_cons, List.flatten_nil, List.append_nil, List.cons_append, List.nil_append, List.append_assoc, nOf_app, nOf_cons, nOf_nil, Nat.add_zero, Nat.zero_add, List.map_append, List.map_cons, List.map_nil, cel, sv, RO.blks]); first | done | omega)) ?_
              refine gF rfl rfl <| gF rfl rfl <| v0 (S0.pickF rfl rfl) rfl <| vE <| WP.condF rfl <| WP.skip <| WP.seq <| WP.region <| v0 (S0.move rfl) rfl <| v0 (S0.move rfl) rfl <| v0 (S0.nilCheck rfl) rfl <| v0 (S0.fieldAddr rfl) rfl <| vs (S1.store rfl rfl (by first | rfl | exact IsSl.cv (by assumption))) <| vE <| WP.seq <| WP.seq <| WP.region <| v0 (S0.move rfl) rfl <| vE <| ?_  -- cond
              refine WP.condTh rfl (rfl) ?_
              refine WP.region <| v0 (S0.move rfl) rfl <| v0 (S0.move rfl) rfl <| v0 (S0.move rfl) rfl <| ?_  -- op t85 := call F30{rivulet/rivuletref04.Insert}(t83, t84)
              refine vc (S1.callF rfl (rinsert_spec hos2 (by omega) hxF (show f.length ≤ 1000 by omega)) (take1 (atS (atS (atS (atS (atS at0))))) take0)) rfl ?_
              rintro v3 _ ⟨row3, hs3, rfl⟩
              refine app ?_
              refine v0 (S0.nilCheck rfl) rfl <| v0 (S0.fieldAddr rfl) rfl <| vs (S1.store rfl rfl (by first | rfl | exact IsSl.cv (by assumption))) <| vE <| WP.seq <| WP.region <| v0 (S0.assign rfl) rfl <| vE <| WP.ret <| ?_  -- ret
              obtain ⟨c', hq1, hq2⟩ := other v3 row3 [row3, [(rb, cel [v] 29)], row, [(xb, .cells ⟨[.int .i64 yi, v3, mv]⟩ 76 (0, 0))], mrow, C] (by rw [e]; exact hs3) (pm fun a_ => by (try simp only [List.flatten_append, List.flatten_cons, List.flatten_nil, List.append_nil, List.cons_append, List.nil_append, List.append_assoc, nOf_app, nOf_cons, nOf_nil, Nat.add_zero, Nat.zero_add, List.map_append, List.map_cons, List.map_nil, cel, sv]); first | done | omega)
              refine Leaves.drop hq2 ?_
              refine r1 rfl rfl ?_
              exact ⟨c', hq1, by rw [hj, e], rfl⟩
        | false =>
          skip
          refine csFh (t := 59) rfl (rfl) ?_
          refine gF rfl rfl <| v0 (S0.pickF rfl rfl) rfl <| vE <| WP.condF rfl <| WP.skip <| WP.seq <| WP.seq <| WP.region <| v0 (S0.move rfl) rfl <| v0 (S0.move rfl) rfl <| ?_  -- guard t63 (wants True) at t64 := move t9 [if #1=True]
          refine csFh (t := 63) rfl (rfl) ?_
          refine gF rfl rfl <| gF rfl rfl <| gF rfl rfl <| gF rfl rfl <| gF rfl rfl <| gF rfl rfl <| v0 (S0.pickF rfl rfl) rfl <| vE <| WP.condF rfl <| WP.skip <| WP.seq <| WP.seq <| WP.region <| v0 (S0.move rfl) rfl <| v0 (S0.not rfl) rfl <| v0 (S0.move rfl) rfl <| ?_  -- guard t73 (wants True) at t74 := move t12 [if #2=True]
          refine csTh (t := 73) rfl (rfl) ?_
          refine gT rfl <| v0 (S0.move rfl) rfl <| gT rfl <| v0 (S0.not rfl) rfl <| v0 (S0.pickT rfl rfl) rfl <| vE <| ?_  -- cond
          first | refine WP.condP rfl (fun h1 => ?_) (fun h1 => ?_) | refine WP.condN rfl (fun h1 => ?_) (fun h1 => ?_) | refine WP.cond rfl (fun h1 => ?_) (fun h1 => ?_)
          · skip
            refine WP.seq <| WP.region <| v0 (S0.assign rfl) rfl <| vE <| WP.ret <| ?_  -- ret
            refine Leaves.drop (take1 (atS at0) take0) ?_
            refine r1 rfl rfl ?_
            have hnf : f ∉ yF := fun hm => h1 (by have := hhad.2 hm; omega)
            have e : askF yF f false = (8, yF) := by unfold askF; rw [if_neg (by simp [hff]), if_neg (by simp), if_neg hnf]
            rw [same (by rw [e]), hj, e]; exact ⟨_, h0, rfl, rfl⟩
          · skip
            have hin : f ∈ yF := hhad.1 (by omega)
            have e : askF yF f false = (0, yF.filter fun z => !decide (z = f)) := by unfold askF; rw [if_neg (by simp [hff]), if_neg (by simp), if_pos hin]
            refine WP.perm (h' := [[(rb, cel [v] 29)], row, [(xb, .cells ⟨[.int .i64 yi, .slice a yF.length cap, mv]⟩ 76 (0, 0))], mrow, C, orow]) (k := [frow]) (by rw [hc]; exact (pm fun a_ => by have h0_ := pm_of (hc1) a_; (try simp only [List.flatten_append, List.flatten_cons, List.flatten_nil, List.append_nil, List.cons_append, List.nil_append, List.append_assoc, nOf_app, nOf_cons, nOf_nil, Nat.add_zero, Nat.zero_add, List.map_append, List.map_cons, List.map_nil, cel, sv, RO.blks] at h0_); (try simp only [List.flatten_append, List.flatten_cons, List.flatten_nil, List.append_nil, List.cons_append, List.nil_append, List.append_assoc, nOf_app, nOf_cons, nOf_nil, Nat.add_zero, Nat.zero_add, List.map_append, List.map_cons, List.map_nil, cel, sv, RO.blks]); first | done | omega)) ?_
            refine WP.skip <| WP.seq <| WP.region <| v0 (S0.move rfl) rfl <| v0 (S0.move rfl) rfl <| v0 (S0.nilCheck rfl) rfl <| v0 (S0.fieldAddr rfl) rfl <| vs (S1.store rfl rfl (by first | rfl | exact IsSl.cv (by assumption))) <| vE <| WP.seq <| WP.seq <| WP.region <| v0 (S0.move rfl) rfl <| vE <| ?_  -- cond
            refine WP.condFh rfl (rfl) ?_
            refine WP.skip <| WP.seq <| WP.region <| v0 (S0.assign rfl) rfl <| vE <| WP.ret <| ?_  -- ret
            obtain ⟨c', hq1, hq2⟩ := other _ orow [[(rb, cel [v] 29)], row, [(xb, .cells ⟨[.int .i64 yi, .slice oa (yF.filter fun z => !decide (z = f)).length ocap, mv]⟩ 76 (0, 0))], mrow, C, orow] (by rw [e]; exact hos) (pm fun a_ => by (try simp only [List.flatten_append, List.flatten_cons, List.flatten_nil, List.append_nil, List.cons_append, List.nil_append, List.append_assoc, nOf_app, nOf_cons, nOf_nil, Nat.add_zero, Nat.zero_add, List.map_append, List.map_cons, List.map_nil, cel, sv]); first | done | omega)
            refine Leaves.drop hq2 ?_
            refine r1 rfl rfl ?_
            exact ⟨c', hq1, by rw [hj, e], rfl⟩
end Go.Proofs.YtanecnnfpdhadaaGreatDoor
/- Q5 -/
namespace Go.Proofs.YtanecnnfpdhadaaGreatDoor
open Go

theorem roffer_spec {rb : Nat} {S : DS} {c : List Blk} (h : IsRD rb S c) (ho : DevOk S) {e : Ev} (ht : e.t.length ≤ 120) :
    FN Tryz.prog 19 [.pointer (some ⟨rb, 0, none⟩), .agg ⟨evB e⟩] [c] (fun u h => ∃ c' row, IsRD rb (offerD S e).2 c' ∧ IsSl 3 1 u (ints (offerD S e).1) row ∧ h = [row, c']) := by
  obtain ⟨Q0, ⟨v, row, hs, hok0, hc⟩, hQS0⟩ := h
  have hQl0 : Q0.length = S.length := by rw [← hQS0, List.length_map]
  have hSl := ho.len
  obtain ⟨a, cap, rfl, hcap, hrow⟩ := hs.ptrsE
  -- how it ends
  have fin : ∀ (k : Nat) (Q : List RO) (ov : Value) (orow : List Blk), (k = S.length ∨ ¬ (rightE e = true ∧ 0 < e.e)) → (¬ (rightE e = true ∧ 0 < e.e) → k = 0) → ptrs Q = ptrs Q0 → (∀ x ∈ Q, RO.ok 9 54 x) → Q.map (·.y) = gotK S e k → IsSl 3 1 ov (ints (((S.take k).filter fun x => takesD x e).map (·.i))) orow →
      ∃ c' row', IsRD rb (offerD S e).2 c' ∧ IsSl 3 1 ov (ints (offerD S e).1) row' ∧ [orow, (rb, cel [.slice a Q0.length cap] 29) :: (row ++ rblks 76 Q)] = [row', c'] := fun k Q ov orow h1 h2 h3 h4 h5 h6 => by
    have key : offerD S e = (((S.take k).filter fun x => takesD x e).map (·.i), gotK S e k) := by
      by_cases hcnd : rightE e = true ∧ 0 < e.e
      · have hk : k = S.length := h1.resolve_right (fun h => h hcnd)
        subst hk
        unfold offerD; rw [if_pos hcnd, List.take_length]
        unfold gotK; simp
      · have hk := h2 hcnd
        subst hk
        unfold offerD; rw [if_neg hcnd]
        unfold gotK; simp
    rw [key]
    exact ⟨_, _, ⟨Q, ⟨_, row, by rw [h3]; exact hs, h4, rfl⟩, h5⟩, h6, rfl⟩
  refine FN.intro 85 [(0, .pointer (some ⟨rb, 0, none⟩)), (1, .agg ⟨evB e⟩)] Tryz.func19 rfl (enters Tryz.func19 (by kernel_rfl) rfl) Tryz.ntmps19 rfl rfl ?_
  refine WP.perm (h' := [[(rb, cel [.slice a Q0.length cap] 29)], row, rblks 76 Q0]) (k := []) (by rw [hc]; exact (pm fun a_ => by (try simp only [List.flatten_append, List.flatten_cons, List.flatten_nil, List.append_nil, List.cons_append, List.nil_append, List.append_assoc, nOf_app, nOf_cons, nOf_nil, Nat.add_zero, Nat.zero_add, List.map_append, List.map_cons, List.map_nil, cel, sv]); first | done | omega)) ?_
  refine WP.seq <| WP.region <| vn (S1.box rfl rfl) rfl fun b3 => v0 (S0.assign rfl) rfl <| vE <| WP.seq <| WP.region <| vnv (S1.buildSlice rfl (qs := []) rfl rfl) rfl fun b9 => v0 (S0.assign rfl) rfl <| vE <| WP.seq <| WP.seq <| WP.region <| v0 (S0.assign rfl) rfl <| vE <| WP.block <| ?_  -- Code.loop
  refine WP.loop (fun s : Nat × List RO × Value × List Blk => s.1 ≤ S.length ∧ (¬ (rightE e = true ∧ 0 < e.e) → s.1 = 0) ∧ ptrs s.2.1 = ptrs Q0 ∧ (∀ x ∈ s.2.1, RO.ok 9 54 x) ∧ s.2.1.map (·.y) = gotK S e s.1 ∧ IsSl 3 1 s.2.2.1 (ints (((S.take s.1).filter fun x => takesD x e).map (·.i))) s.2.2.2) (fun s : Nat × List RO × Value × List Blk => [(0, .pointer (some ⟨rb, 0, none⟩)), (3, .pointer (some ⟨b3, 0, none⟩)), (5, s.2.2.1), (6, .int .i64 (s.1 : Int))]) (fun s : Nat × List RO × Value × List Blk => [s.2.2.2, [(b3, .cells ⟨evB e⟩ 31 (0, 0))], [(rb, cel [.slice a Q0.length cap] 29)], row, rblks 76 s.2.1]) (fun s : Nat × List RO × Value × List Blk => S.length - s.1) ((0, Q0, .slice (some ⟨b9, 0, none⟩) 0 0, [(b9, .cells ⟨[]⟩ 3 (0, 0))])) (⟨Nat.zero_le _, fun _ => rfl, rfl, hok0, by rw [hQS0]; unfold gotK; simp, IsSl.row (n := 0) (c := 0) (l := []) (sp := []) rfl rfl (Nat.le_refl _)⟩) ⟨rfl, rfl, rfl, rfl, trivial⟩ ⟨_, (take1 at0 (take1 at0 (take1 at0 (take1 at0 (take1 at0 take0)))))⟩ (fun s hinv => ?_) 
  obtain ⟨k, Q, ov, orow⟩ := s
  obtain ⟨hk, hk0, hpt, hok, hQS, hos⟩ := hinv
  dsimp only at hk hk0 hpt hok hQS hos ⊢
  have hQl : Q.length = S.length := by
    have := congrArg List.length hpt
    rw [ptrs_len, ptrs_len] at this; omega
  have dr : ([orow, [(b3, .cells ⟨evB e⟩ 31 (0, 0))], [(rb, cel [.slice a Q0.length cap] 29)], row, rblks 76 Q] : Hp).flatten.Perm (([orow, (rb, cel [.slice a Q0.length cap] 29) :: (row ++ rblks 76 Q)] : Hp).flatten ++ ([[(b3, .cells ⟨evB e⟩ 31 (0, 0))]] : Hp).flatten) := (pm fun a_ => by (try simp only [List.flatten_append, List.flatten_cons, List.flatten_nil, List.append_nil, List.cons_append, List.nil_append, List.append_assoc, nOf_app, nOf_cons, nOf_nil, Nat.add_zero, Nat.zero_add, List.map_append, List.map_cons, List.map_nil, cel, sv]); first | done | omega)
  refine WP.seq <| WP.seq <| WP.region <| v0 (S0.move rfl) rfl <| v0 (S0.move rfl) rfl <| v0 (S0.nilCheck rfl) rfl <| v0 (S0.fieldAddr rfl) rfl <| v0 (S0.load rfl rfl) rfl <| v0 (S0.lenSl rfl) rfl <| v0 (S0.cmp rfl rfl rfl) rfl <| v0 (S0.move rfl) rfl <| ?_  -- guard t17 (wants True) at t18 := load 31 t3 [if #7=True]
  first | refine csP (t := 17) rfl (fun h1 => ?_) (fun h1 => ?_) | refine csN (t := 17) rfl (fun h1 => ?_) (fun h1 => ?_) | refine cs (t := 17) rfl (fun h1 => ?_) (fun h1 => ?_)
  · skip
    have hlt : k < S.length := by omega
    refine gT rfl <| v0 (S0.loadAL rfl) rfl <| ?_  -- op t19 := call F28{rivulet/rivuletref06.Right}(t18) [if #7=True]
    refine gT rfl <| vcd (S1.callF rfl (revRight_spec (x := e) ht) take0) rfl ?_
    refine v0 (S0.pickT rfl rfl) rfl <| v0 (S0.move rfl) rfl <| ?_  -- guard t21 (wants True) at t22 := fieldAddr 31 t3 4 [if #11=True]
    skip
    cases hr : rightE e with
    | false =>
      skip
      refine csFh (t := 21) rfl (rfl) ?_
      refine gF rfl rfl <| gF rfl rfl <| gF rfl rfl <| v0 (S0.pickF rfl rfl) rfl <| vE <| WP.condF rfl <| WP.exit <| WP.seq <| WP.region <| v0 (S0.move rfl) rfl <| v0 (S0.assign rfl) rfl <| vE <| WP.ret <| ?_  -- ret
      refine Leaves.drop dr ?_
      refine r1 rfl rfl ?_
      exact fin k Q ov orow (.inr (by simp [hr])) hk0 hpt hok hQS hos
    | true =>
      skip
      refine csTh (t := 21) rfl (rfl) ?_
      refine gT rfl <| v0 (S0.fieldAddr rfl) rfl <| gT rfl <| v0 (S0.load rfl rfl) rfl <| gT rfl <| v0 (S0.cmp rfl rfl rfl) rfl <| v0 (S0.pickT rfl rfl) rfl <| vE <| ?_  -- cond
      first | refine WP.condP rfl (fun h2 => ?_) (fun h2 => ?_) | refine WP.condN rfl (fun h2 => ?_) (fun h2 => ?_) | refine WP.cond rfl (fun h2 => ?_) (fun h2 => ?_)
      · skip
        have hcnd : rightE e = true ∧ 0 < e.e := ⟨hr, by omega⟩
        have hb := rightE_bd hr
        have hy : S[k]? = some S[k] := by simp [hlt]
        have hyS := List.getElem_mem hlt
        generalize S[k] = y at hy hyS
        have hoy := ho.all y hyS
        obtain ⟨hg1, hg2⟩ := gotK_at (e := e) hy
        have hasc : (gotK S e k).Pairwise fun x y => x.i < y.i := asc_ids.2 (by rw [gotK_ids]; exact asc_ids.1 ho.asc)
        have hset : gotK S e (k + 1) = setD (gotK S e k) (gotD y e) := by rw [hg1] at hasc ⊢; rw [hg2, set_at (gotD_i y e) hasc]
        have htake : (S.take (k + 1)).filter (fun x => takesD x e) = (S.take k).filter (fun x => takesD x e) ++ if takesD y e = true then [y] else [] := by
          rw [List.take_add_one, hy, List.filter_append]
          congr 1
          by_cases htk : takesD y e = true <;> simp [htk]
        have hfl := List.length_filter_le (fun x => takesD x e) (S.take k)
        have htl : (S.take k).length ≤ 16 := by rw [List.length_take]; omega
        have hx : Q[k]? = some (Q[k]'(by omega)) := by simp
        generalize Q[k]'(by omega) = x at hx
        have hxy : x.y = y := by
          have h5 : (Q.map (·.y))[k]? = some x.y := by simp [hx]
          have hlk : ((S.take k).map fun x => gotD x e).length = k := by rw [List.length_map, List.length_take]; omega
          rw [hQS, hg1, List.getElem?_append_right (by omega), hlk, Nat.sub_self] at h5
          simpa using h5.symm
        have hxm := List.mem_of_getElem? hx
        have hokx := hok x hxm
        obtain ⟨C, hc1, hc2⟩ := rblks_at 76 hx
        have hQasc : (Q.map (·.y)).Pairwise fun x y => x.i < y.i := by rw [hQS]; exact hasc
        have hpx : (ptrs Q0)[k]? = some x.ptr := by rw [← hpt]; simp [hx]
        obtain ⟨xb, xy, fv, frow, mv, mrow⟩ := x
        dsimp only at hxy
        subst hxy
        have hfs := hokx.fs
        have hms := hokx.ms
        dsimp only at hfs hms
        obtain ⟨hris, hmb, hlM⟩ := sortedM_iff.1 hoy.ms
        have hlF := hoy.lF
        have hxF : ∀ z ∈ xy.F, z.length ≤ 1000 := fun z hz => by have := filt_len (hoy.fF z hz); omega
        have hmkp : ∀ n, mkO xy.M e.o = some n → 1 ≤ n := fun n hn => (hmb _ (mkO_mem hn)).2.2.1
        obtain ⟨ma, mcap, rfl, hmcap, -⟩ := IsSl.elems (k := 1) enM_len hms
        rcases hrow with ⟨e1, -⟩ | ⟨b1, sp1, rfl, rfl, hsp1⟩
        · rw [e1] at hQl0; simp at hQl0; omega
        have hgx : (ptrs Q0 ++ sp1)[k]? = some (.pointer (some ⟨xb, 0, none⟩)) := by
          rw [List.getElem?_append_left (by rw [ptrs_len]; omega)]; exact hpx
        refine WP.skip <| WP.seq <| WP.block <| WP.seq <| WP.region <| v0 (S0.move rfl) rfl <| v0 (S0.nilCheck rfl) rfl <| v0 (S0.fieldAddr rfl) rfl <| v0 (S0.load rfl rfl) rfl <| v0 (S0.move rfl) rfl <| ?_  -- op t33 := indexAddr 27 t31 t32
        refine WO.perm (h' := [orow, [(b3, .cells ⟨evB e⟩ 31 (0, 0))], [(rb, cel [.slice (some ⟨b1, 0, none⟩) Q0.length cap] 29)], [(b1, .cells ⟨ptrs Q0 ++ sp1⟩ 73 (0, 0))], (xb, .cells ⟨[.int .i64 xy.i, fv, .slice ma xy.M.length mcap]⟩ 76 (0, 0)) :: (frow ++ mrow), C]) (k := []) (pm fun a_ => by have h0_ := pm_of (hc1) a_; (try simp only [List.flatten_append, List.flatten_cons, List.flatten_nil, List.append_nil, List.cons_append, List.nil_append, List.append_assoc, nOf_app, nOf_cons, nOf_nil, Nat.add_zero, Nat.zero_add, List.map_append, List.map_cons, List.map_nil, cel, sv, RO.blks] at h0_); (try simp only [List.flatten_append, List.flatten_cons, List.flatten_nil, List.append_nil, List.cons_append, List.nil_append, List.append_assoc, nOf_app, nOf_cons, nOf_nil, Nat.add_zero, Nat.zero_add, List.map_append, List.map_cons, List.map_nil, cel, sv, RO.blks]); first | done | omega) ?_
        have i2 : HasC ((xb, .cells ⟨[.int .i64 xy.i, fv, .slice ma xy.M.length mcap]⟩ 76 (0, 0)) :: (frow ++ mrow)) xb (.cells ⟨[.int .i64 xy.i, fv, .slice ma xy.M.length mcap]⟩ 76 (0, 0)) := ⟨by simp⟩
        refine v0 (S0.index1 rfl rfl (by omega)) rfl <| ?_
        refine v0 (S0.load rfl hgx) rfl <| ?_
        refine v0 (S0.assign rfl) rfl <| vE <| WP.seq <| WP.region <| v0 (S0.move rfl) rfl <| v0 (S0.fieldAddr rfl) rfl <| v0 (S0.load rfl rfl) rfl <| ?_  -- op t38 := call F46{(*rivulet/rivuletref19.One).mark}(t35, t37)
        refine vcd (S1.callF rfl (rmark_spec (x := ⟨xb, xy, fv, frow, .slice ma xy.M.length mcap, mrow⟩) i2 hokx (fun z hz => by simp; right; right; exact hz) (show xy.M.length ≤ 1000 by omega) e.o) (take1 (atS (atS (atS (atS at0)))) take0)) rfl ?_
        refine v0 (S0.assign rfl) rfl <| vE <| ?_  -- cut
        refine WP.cutS (fun u : Bool => u = takesD xy e) (fun u : Bool => [(0, .pointer (some ⟨rb, 0, none⟩)), (3, .pointer (some ⟨b3, 0, none⟩)), (5, ov), (6, .int .i64 (k : Int)), (7, .pointer (some ⟨xb, 0, none⟩)), (63, .bool u)]) (fun u : Bool => [(xb, .cells ⟨[.int .i64 xy.i, fv, .slice ma xy.M.length mcap]⟩ 76 (0, 0)) :: (frow ++ mrow), orow, [(b3, .cells ⟨evB e⟩ 31 (0, 0))], [(rb, cel [.slice (some ⟨b1, 0, none⟩) Q0.length cap] 29)], [(b1, .cells ⟨ptrs Q0 ++ sp1⟩ 73 (0, 0))], C]) ?_ (fun u hinv => ?_)
        · skip
          refine WP.drawP [(0, none), (1, none), (2, none), (3, none), (4, none), (5, none), (6, none), (7, none), (8, none), (9, none), (10, none), (11, none), (12, none), (13, none), (14, none), (15, none), (16, none), (17, none), (18, none), (19, none), (20, none), (21, none), (22, none), (23, none), (24, none)] mixed (by kernel_rfl) (by kernel_rfl) (by kernel_rfl) (take1 at0 (take1 (atS at0) take0)) <| w0 rfl rfl rfl (S0.move rfl) rfl <| w0 rfl rfl rfl (S0.nilCheck rfl) rfl <| w0 rfl rfl rfl (S0.fieldAddr rfl) rfl <| w0 rfl rfl rfl (S0.load rfl rfl) rfl <| w0 rfl rfl rfl (S0.fieldAddr rfl) rfl <| w0 rfl rfl rfl (S0.load rfl rfl) rfl <| ?_  -- op t45 := call F27{rivulet/rivuletref05.Lets}(t42, t44)
          refine wcS rfl rfl rfl rfl (S1.callF rfl (rlets_spec (hfs.rdS.mono (c' := (xb, .cells ⟨[.int .i64 xy.i, fv, .slice ma xy.M.length mcap]⟩ 76 (0, 0)) :: (frow ++ mrow)) (fun z hz => by simp; right; left; exact hz)) hxF (show e.t.length ≤ 1000 by omega) (by omega)) (take1 at0 take0)) rfl (take1 at0 (take1 at0 take0)) ?_
          refine w0 rfl rfl rfl (S0.move rfl) rfl <| ?_  -- guard t46 (wants True) at t47 := move t8 [if #7=True]
          first | refine wcsP (t := 46) rfl (fun q1 => ?_) (fun q1 => ?_) | refine wcsN (t := 46) rfl (fun q1 => ?_) (fun q1 => ?_) | refine wcs (t := 46) rfl (fun q1 => ?_) (fun q1 => ?_)
          · skip
            refine w0 rfl rfl rfl (S0.move rfl) rfl <| w0 rfl rfl rfl (S0.fieldAddr rfl) rfl <| w0 rfl rfl rfl (S0.load rfl rfl) rfl <| w0 rfl rfl rfl (S0.cmp rfl rfl rfl) rfl <| w0 rfl rfl rfl (S0.pickT rfl rfl) rfl <| w0 rfl rfl rfl (S0.move rfl) rfl <| ?_  -- guard t52 (wants True) at t53 := move t8 [if #13=True]
            first | refine wcsP (t := 52) rfl (fun q2 => ?_) (fun q2 => ?_) | refine wcsN (t := 52) rfl (fun q2 => ?_) (fun q2 => ?_) | refine wcs (t := 52) rfl (fun q2 => ?_) (fun q2 => ?_)
            · skip
              refine w0 rfl rfl rfl (S0.move rfl) rfl <| w0 rfl rfl rfl (S0.cmp rfl rfl rfl) rfl <| w0 rfl rfl rfl (S0.move rfl) rfl <| ?_  -- guard t55 (wants False) at t56 := move t7 [if #16=False]
              first | refine wcsP (t := 55) rfl (fun q3 => ?_) (fun q3 => ?_) | refine wcsN (t := 55) rfl (fun q3 => ?_) (fun q3 => ?_) | refine wcs (t := 55) rfl (fun q3 => ?_) (fun q3 => ?_)
              · skip
                refine wF rfl rfl rfl rfl <| wF rfl rfl rfl rfl <| wF rfl rfl rfl rfl <| wF rfl rfl rfl rfl <| wF rfl rfl rfl rfl <| wF rfl rfl rfl rfl <| w0 rfl rfl rfl (S0.pickT rfl rfl) rfl <| w0 rfl rfl rfl (S0.pickT rfl rfl) rfl <| wE <| ?_  -- cutend
                have hmt : (mkO xy.M e.o).isSome = true := by
                  cases hm : mkO xy.M e.o with
                  | none => rw [hm] at q3; simp at q3
                  | some n => rfl
                have htk : takesD xy e = true := by simp [takesD, q1, q2, hmt]
                exact ⟨true, (by first | exact htk.symm | (dsimp only; exact htk.symm)), ⟨⟨rfl, rfl, rfl, rfl, rfl, rfl, trivial⟩, rfl, rfl⟩, ⟨_, (take1 at0 (take1 (atS at0) (take1 at0 (take1 at0 (take1 at0 (take1 at0 take0))))))⟩⟩
              · skip
                refine w0 rfl rfl rfl (S0.move rfl) rfl <| w0 rfl rfl rfl (S0.nilCheck rfl) rfl <| w0 rfl rfl rfl (S0.fieldAddr rfl) rfl <| w0 rfl rfl rfl (S0.load rfl rfl) rfl <| w0 rfl rfl rfl (S0.lenSl rfl) rfl <| w0 rfl rfl rfl (S0.cmp rfl rfl rfl) rfl <| w0 rfl rfl rfl (S0.pickF rfl rfl) rfl <| w0 rfl rfl rfl (S0.pickT rfl rfl) rfl <| wE <| ?_  -- cutend
                have hmt : (mkO xy.M e.o).isSome = false := by
                  cases hm : mkO xy.M e.o with
                  | none => rfl
                  | some n =>
                    rw [hm] at q3
                    have := hmkp n hm
                    simp at q3; omega
                have htk : takesD xy e = decide ((xy.M.length : Int) < 32) := by simp [takesD, q1, q2, hmt]; omega
                exact ⟨(decide ((xy.M.length : Int) < 32)), (by first | exact htk.symm | (dsimp only; exact htk.symm)), ⟨⟨rfl, rfl, rfl, rfl, rfl, rfl, trivial⟩, rfl, rfl⟩, ⟨_, (take1 at0 (take1 (atS at0) (take1 at0 (take1 at0 (take1 at0 (take1 at0 take0))))))⟩⟩
            · skip
              refine wF rfl rfl rfl rfl <| wF rfl rfl rfl rfl <| wF rfl rfl rfl rfl <| wF rfl rfl rfl rfl <| wF rfl rfl rfl rfl <| wF rfl rfl rfl rfl <| wF rfl rfl rfl rfl <| wF rfl rfl rfl rfl <| wF rfl rfl rfl rfl <| wF rfl rfl rfl rfl <| w0 rfl rfl rfl (S0.pickF rfl rfl) rfl <| wE <| ?_  -- cutend
              have htk : takesD xy e = false := by simp [takesD, q1, q2]
              exact ⟨false, (by first | exact htk.symm | (dsimp only; exact htk.symm)), ⟨⟨rfl, rfl, rfl, rfl, rfl, rfl, trivial⟩, rfl, rfl⟩, ⟨_, (take1 at0 (take1 (atS at0) (take1 at0 (take1 at0 (take1 at0 (take1 at0 take0))))))⟩⟩
          · skip
            refine wF rfl rfl rfl rfl <| wF rfl rfl rfl rfl <| wF rfl rfl rfl rfl <| wF rfl rfl rfl rfl <| w0 rfl rfl rfl (S0.pickF rfl rfl) rfl <| w0 rfl rfl rfl (S0.move rfl) rfl <| wF rfl rfl rfl rfl <| wF rfl rfl rfl rfl <| wF rfl rfl rfl rfl <| wF rfl rfl rfl rfl <| wF rfl rfl rfl rfl <| wF rfl rfl rfl rfl <| wF rfl rfl rfl rfl <| wF rfl rfl rfl rfl <| wF rfl rfl rfl rfl <| wF rfl rfl rfl rfl <| w0 rfl rfl rfl (S0.pickF rfl rfl) rfl <| wE <| ?_  -- cutend
            have htk : takesD xy e = false := by simp [takesD, q1]
            exact ⟨false, (by first | exact htk.symm | (dsimp only; exact htk.symm)), ⟨⟨rfl, rfl, rfl, rfl, rfl, rfl, trivial⟩, rfl, rfl⟩, ⟨_, (take1 at0 (take1 (atS at0) (take1 at0 (take1 at0 (take1 at0 (take1 at0 take0))))))⟩⟩
        · skip
          subst hinv
          -- (nothing to walk: cond)
          skip
          cases htk : takesD xy e with
          | true =>
            skip
            have hgd : gotD xy e = ⟨xy.i, xy.F, setMk xy.M (e.o, e.s)⟩ := by unfold gotD; rw [if_pos htk]
            rw [htk, if_pos rfl] at htake
            refine WP.condTh rfl (rfl) ?_
            refine WP.perm (h' := [[(xb, .cells ⟨[.int .i64 xy.i, fv, .slice ma xy.M.length mcap]⟩ 76 (0, 0))], [(b3, .cells ⟨evB e⟩ 31 (0, 0))], mrow, orow, frow, [(rb, cel [.slice (some ⟨b1, 0, none⟩) Q0.length cap] 29)], [(b1, .cells ⟨ptrs Q0 ++ sp1⟩ 73 (0, 0))], C]) (k := []) (pm fun a_ => by (try simp only [List.flatten_append, List.flatten_cons, List.flatten_nil, List.append_nil, List.cons_append, List.nil_append, List.append_assoc, nOf_app, nOf_cons, nOf_nil, Nat.add_zero, Nat.zero_add, List.map_append, List.map_cons, List.map_nil, cel, sv]); first | done | omega) ?_
            skip
            refine WP.seq <| WP.drawP [(0, none), (1, none), (2, none), (3, none), (4, none), (5, none), (6, none), (7, none), (8, none), (9, none), (10, none), (11, none), (12, none), (13, none)] mixed (by kernel_rfl) (by kernel_rfl) (by kernel_rfl) (take1 at0 (take1 at0 take0)) <| w0 rfl rfl rfl (S0.move rfl) rfl <| w0 rfl rfl rfl (S0.move rfl) rfl <| w0 rfl rfl rfl (S0.nilCheck rfl) rfl <| w0 rfl rfl rfl (S0.fieldAddr rfl) rfl <| w0 rfl rfl rfl (S0.load rfl rfl) rfl <| w0 rfl rfl rfl (S0.fieldAddr rfl) rfl <| w0 rfl rfl rfl (S0.load rfl rfl) rfl <| w0 rfl rfl rfl (S0.fieldAddr rfl) rfl <| w0 rfl rfl rfl (S0.load rfl rfl) rfl <| w0 rfl rfl rfl (S0.build rfl (qs := [(0, _), (1, _)]) rfl) rfl <| ?_  -- op t74 := call F47{rivulet/rivuletref11.Mark}(t68, t73)
            refine wc rfl rfl rfl rfl (S1.callF rfl (rMark_spec (m := (e.o, e.s)) hms hris (by omega)) (take1 at0 take0)) rfl ?_
            rintro v2 _ ⟨mrow2, hs2, rfl⟩
            refine wapp ?_
            refine w0 rfl rfl rfl (S0.nilCheck rfl) rfl <| w0 rfl rfl rfl (S0.fieldAddr rfl) rfl <| ?_  -- limit
            refine wlast rfl (by kernel_rfl) rfl rfl (S1.store rfl rfl hs2.cv) ?_
            refine WP.region <| v0 (S0.move rfl) rfl <| v0 (S0.move rfl) rfl <| v0 (S0.nilCheck rfl) rfl <| v0 (S0.fieldAddr rfl) rfl <| v0 (S0.load rfl rfl) rfl <| vnv (S1.buildSlice rfl (qs := [(0, _)]) rfl rfl) rfl fun b82 => ?_  -- op t83 := append(t77, t82) :[38, 38]
            refine ve (S1.appendL rfl hos rfl rfl (atS (atS (atS (atS (atS at0))))) rfl rfl (by rw [ints_len]; simp; omega)) rfl ?_
            rintro v3 _ ⟨row3, hs3, rfl⟩
            have hs4 : IsSl 3 1 v3 (ints (((S.take (k + 1)).filter fun x => takesD x e).map (·.i))) row3 := by rw [htake]; simpa [ints] using hs3
            have hc4 := hc2 ⟨xb, gotD xy e, fv, frow, v2, mrow2⟩
            have hok2 : RO.ok 9 54 ⟨xb, gotD xy e, fv, frow, v2, mrow2⟩ := by rw [hgd]; exact ⟨hfs, hs2⟩
            have hpt2 : ptrs (Q.set k ⟨xb, gotD xy e, fv, frow, v2, mrow2⟩) = ptrs Q0 := by rw [ptrs_set (u := ⟨xb, gotD xy e, fv, frow, v2, mrow2⟩) hx rfl]; exact hpt
            have hQ2 : (Q.set k ⟨xb, gotD xy e, fv, frow, v2, mrow2⟩).map (·.y) = gotK S e (k + 1) := by rw [setQ_D hx (gotD_i xy e) hQasc, hQS, hset]
            have hgi := gotD_i xy e
            refine v0 (S0.assign rfl) rfl <| vE <| WP.region <| v0 (S0.move rfl) rfl <| v0 (S0.ari rfl rfl rfl (wrap_i64 (by omega))) rfl <| v0 (S0.assign rfl) rfl <| vE <| ?_  -- roundend
            exact ⟨(k + 1, Q.set k ⟨xb, gotD xy e, fv, frow, v2, mrow2⟩, v3, row3), (by first | exact ⟨hlt, fun h => absurd ⟨rfl, hcnd.2⟩ h, hpt2, fun z hz => (List.mem_or_eq_of_mem_set hz).elim (hok z) (fun e => by rw [e]; exact hok2), hQ2, hs4⟩ | (dsimp only; exact ⟨hlt, fun h => absurd ⟨rfl, hcnd.2⟩ h, hpt2, fun z hz => (List.mem_or_eq_of_mem_set hz).elim (hok z) (fun e => by rw [e]; exact hok2), hQ2, hs4⟩)), (show S.length - (k + 1) < S.length - k by omega), ⟨⟨rfl, rfl, rfl, rfl, trivial⟩, rfl, rfl⟩, ⟨[mrow, [(b82, cel [Value.int .i64 xy.i] 3)]], (pm fun a_ => by have h0_ := pm_of (hc4) a_; (try simp only [List.flatten_append, List.flatten_cons, List.flatten_nil, List.append_nil, List.cons_append, List.nil_append, List.append_assoc, nOf_app, nOf_cons, nOf_nil, Nat.add_zero, Nat.zero_add, List.map_append, List.map_cons, List.map_nil, cel, sv, RO.blks, hgi] at h0_); (try simp only [List.flatten_append, List.flatten_cons, List.flatten_nil, List.append_nil, List.cons_append, List.nil_append, List.append_assoc, nOf_app, nOf_cons, nOf_nil, Nat.add_zero, Nat.zero_add, List.map_append, List.map_cons, List.map_nil, cel, sv, RO.blks, hgi]); first | done | omega)⟩⟩
          | false =>
            skip
            have hgd : gotD xy e = xy := by unfold gotD; rw [if_neg (by simp [htk])]
            rw [htk, if_neg (by simp), List.append_nil] at htake
            refine WP.condFh rfl (rfl) ?_
            refine WP.skip <| WP.region <| v0 (S0.move rfl) rfl <| v0 (S0.ari rfl rfl rfl (wrap_i64 (by omega))) rfl <| v0 (S0.assign rfl) rfl <| vE <| ?_  -- roundend
            exact ⟨(k + 1, Q, ov, orow), (by first | exact ⟨hlt, fun h => absurd ⟨rfl, hcnd.2⟩ h, hpt, hok, by rw [hQS, hg1, hg2, hgd], by rw [htake]; exact hos⟩ | (dsimp only; exact ⟨hlt, fun h => absurd ⟨rfl, hcnd.2⟩ h, hpt, hok, by rw [hQS, hg1, hg2, hgd], by rw [htake]; exact hos⟩)), (show S.length - (k + 1) < S.length - k by omega), ⟨⟨rfl, rfl, rfl, rfl, trivial⟩, rfl, rfl⟩, ⟨[], (pm fun a_ => by have h0_ := pm_of (hc1) a_; (try simp only [List.flatten_append, List.flatten_cons, List.flatten_nil, List.append_nil, List.cons_append, List.nil_append, List.append_assoc, nOf_app, nOf_cons, nOf_nil, Nat.add_zero, Nat.zero_add, List.map_append, List.map_cons, List.map_nil, cel, sv, RO.blks] at h0_); (try simp only [List.flatten_append, List.flatten_cons, List.flatten_nil, List.append_nil, List.cons_append, List.nil_append, List.append_assoc, nOf_app, nOf_cons, nOf_nil, Nat.add_zero, Nat.zero_add, List.map_append, List.map_cons, List.map_nil, cel, sv, RO.blks]); first | done | omega)⟩⟩
      · skip
        refine WP.exit <| WP.seq <| WP.region <| v0 (S0.move rfl) rfl <| v0 (S0.assign rfl) rfl <| vE <| WP.ret <| ?_  -- ret
        refine Leaves.drop dr ?_
        refine r1 rfl rfl ?_
        exact fin k Q ov orow (.inr (by omega)) hk0 hpt hok hQS hos
  · skip
    refine gF rfl rfl <| gF rfl rfl <| v0 (S0.pickF rfl rfl) rfl <| v0 (S0.move rfl) rfl <| gF rfl rfl <| gF rfl rfl <| gF rfl rfl <| v0 (S0.pickF rfl rfl) rfl <| vE <| WP.condF rfl <| WP.exit <| WP.seq <| WP.region <| v0 (S0.move rfl) rfl <| v0 (S0.assign rfl) rfl <| vE <| WP.ret <| ?_  -- ret
    refine Leaves.drop dr ?_
    refine r1 rfl rfl ?_
    exact fin k Q ov orow (.inl (by omega)) hk0 hpt hok hQS hos
end Go.Proofs.YtanecnnfpdhadaaGreatDoor
/- Q6 -/
namespace Go.Proofs.YtanecnnfpdhadaaGreatDoor
open Go

theorem rsave_spec {rb : Nat} {S : DS} {c : List Blk} (h : IsRD rb S c) (ho : DevOk S) :
    FN Tryz.prog 56 [.pointer (some ⟨rb, 0, none⟩)] [c] (is (sv (saveD S)) [c]) := by
  obtain ⟨Q, ⟨v, row, hs, hok, hc⟩, hQS⟩ := h
  have hQl : Q.length = S.length := by rw [← hQS, List.length_map]
  have hSl := ho.len
  have hpl := putV_le S.length
  obtain ⟨a, cap, rfl, hcap, hrow⟩ := hs.ptrsE
  have i1 : HasC c rb (cel [.slice a Q.length cap] 29) := ⟨by rw [hc]; simp⟩
  have hsub : ∀ z ∈ row, z ∈ c := fun z hz => by rw [hc]; simp [hz]
  have hblk : ∀ z ∈ rblks 76 Q, z ∈ c := fun z hz => by rw [hc]; simp [hz]
  refine FN.intro 73 [(0, .pointer (some ⟨rb, 0, none⟩))] Tryz.func56 rfl (enters Tryz.func56 (by kernel_rfl) rfl) Tryz.ntmps56 rfl rfl ?_
  refine WP.seq <| WP.region <| v0 (S0.assign rfl) rfl <| vE <| WP.seq <| WP.region <| v0 (S0.move rfl) rfl <| v0 (S0.nilCheck rfl) rfl <| v0 (S0.fieldAddr rfl) rfl <| v0 (S0.load rfl rfl) rfl <| v0 (S0.lenSl rfl) rfl <| v0 (S0.convI rfl (wrap_u64 (by omega))) rfl <| ?_  -- op t13 := call F82{rivulet/rivuletref01.Put}(t12)
  refine vcd (S1.callF rfl (rput_spec (n := Q.length) (by omega)) take0) rfl ?_
  rw [hQl]
  refine v0 (S0.assign rfl) rfl <| vE <| WP.seq <| WP.seq <| WP.region <| v0 (S0.assign rfl) rfl <| vE <| WP.block <| ?_  -- Code.loop
  rw [show putV S.length = putV S.length ++ (S.take 0).flatMap devB by simp]
  refine WP.loop (fun k : Nat => k ≤ S.length) (fun k : Nat => [(0, .pointer (some ⟨rb, 0, none⟩)), (3, sv (putV S.length ++ (S.take k).flatMap devB)), (4, .int .i64 (k : Int))]) (fun k : Nat => [c]) (fun k : Nat => S.length - k) (0) (Nat.zero_le _) ⟨rfl, rfl, rfl, trivial⟩ ⟨_, (take1 at0 take0)⟩ (fun k hinv => ?_) 
  have hpre := devs_le ho k
  refine WP.seq <| WP.seq <| WP.region <| v0 (S0.move rfl) rfl <| v0 (S0.move rfl) rfl <| v0 (S0.nilCheck rfl) rfl <| v0 (S0.fieldAddr rfl) rfl <| v0 (S0.load rfl rfl) rfl <| v0 (S0.lenSl rfl) rfl <| v0 (S0.cmp rfl rfl rfl) rfl <| vE <| ?_  -- cond
  first | refine WP.condP rfl (fun h1 => ?_) (fun h1 => ?_) | refine WP.condN rfl (fun h1 => ?_) (fun h1 => ?_) | refine WP.cond rfl (fun h1 => ?_) (fun h1 => ?_)
  · skip
    have hlt : k < S.length := by omega
    have hx : Q[k]? = some (Q[k]'(by omega)) := by simp
    generalize Q[k]'(by omega) = x at hx
    have hy : S[k]? = some x.y := by rw [← hQS]; simp [hx]
    have hyS := List.mem_of_getElem? hy
    have hoy := ho.all _ hyS
    have hxm := List.mem_of_getElem? hx
    obtain ⟨i2, hfr, hmr⟩ := ro_has hxm hblk
    obtain ⟨hfs, hms⟩ := hok x hxm
    obtain ⟨xb, y, fv, frow, mv, mrow⟩ := x
    dsimp only at hfs hms hfr hmr i2 hoy hyS hy
    have hpx : (ptrs Q)[k]? = some (.pointer (some ⟨xb, 0, none⟩)) := by simp [hx, RO.ptr]
    obtain ⟨n, hn⟩ : ∃ n : Nat, y.i = (n : Int) := ⟨y.i.toNat, by have := hoy.id; omega⟩
    have hn2 : n ≤ 1099511627776 := by have := hoy.id; omega
    have hdv : devB y = (putV n ++ putV y.F.length) ++ (y.F.flatMap textB ++ marksB y.M) := by unfold devB; rw [hn, Int.toNat_natCast]
    have hlF := hoy.lF
    obtain ⟨-, -, hlM⟩ := sortedM_iff.1 hoy.ms
    obtain ⟨fa, fcap, rfl, hfcap, hfrow⟩ := hfs.strsE
    rcases hrow with ⟨e1, -⟩ | ⟨b1, sp1, rfl, rfl, hsp1⟩
    · rw [e1] at hQl; simp at hQl; omega
    have i3 : HasC c b1 (.cells ⟨ptrs Q ++ sp1⟩ 73 (0, 0)) := ⟨hsub _ (by simp)⟩
    have hgx : (ptrs Q ++ sp1)[k]? = some (.pointer (some ⟨xb, 0, none⟩)) := by
      rw [List.getElem?_append_left (by rw [ptrs_len]; omega)]; exact hpx
    have hp1 := putV_le n
    have hp2 := putV_le y.F.length
    rw [hn] at i2
    refine WP.skip <| WP.seq <| WP.block <| WP.seq <| WP.region <| v0 (S0.move rfl) rfl <| v0 (S0.nilCheck rfl) rfl <| v0 (S0.fieldAddr rfl) rfl <| v0 (S0.load rfl rfl) rfl <| v0 (S0.move rfl) rfl <| ?_  -- op t28 := indexAddr 27 t26 t27
    refine v0 (S0.index1 rfl rfl (by omega)) rfl <| ?_
    refine v0 (S0.load rfl hgx) rfl <| ?_
    skip
    refine v0 (S0.assign rfl) rfl <| vE <| WP.seq <| WP.drawP [(0, none), (1, none), (2, none), (3, none), (4, none), (5, none), (7, none), (8, none), (9, none), (10, none), (11, none), (12, none), (6, none), (13, none), (14, none), (15, none), (16, none)] mixed (by kernel_rfl) (by kernel_rfl) (by kernel_rfl) (take1 at0 take0) <| w0 rfl rfl rfl (S0.move rfl) rfl <| w0 rfl rfl rfl (S0.move rfl) rfl <| w0 rfl rfl rfl (S0.nilCheck rfl) rfl <| w0 rfl rfl rfl (S0.fieldAddr rfl) rfl <| w0 rfl rfl rfl (S0.load rfl rfl) rfl <| w0 rfl rfl rfl (S0.convI rfl (wrap_u64 (by omega))) rfl <| w0 rfl rfl rfl (S0.move rfl) rfl <| w0 rfl rfl rfl (S0.nilCheck rfl) rfl <| w0 rfl rfl rfl (S0.fieldAddr rfl) rfl <| w0 rfl rfl rfl (S0.load rfl rfl) rfl <| w0 rfl rfl rfl (S0.lenSl rfl) rfl <| w0 rfl rfl rfl (S0.convI rfl (wrap_u64 (by omega))) rfl <| ?_  -- op t36 := call F82{rivulet/rivuletref01.Put}(t35)
    refine wcd rfl rfl rfl rfl (S1.callF rfl (rput_spec (n := n) (by omega)) take0) rfl ?_
    -- (nothing to walk: op t43 := call F82{rivulet/rivuletref01.Put}(t42))
    refine wcd rfl rfl rfl rfl (S1.callF rfl (rput_spec (n := y.F.length) (by omega)) take0) rfl ?_
    -- (nothing to walk: op t44 := add t36 t43 :9)
    refine w0 rfl rfl rfl (S0.addS rfl rfl (by omega)) rfl <| ?_
    refine w0 rfl rfl rfl (S0.addS rfl rfl (by simp only [List.length_append]; omega)) rfl <| ?_
    refine w0 rfl rfl rfl (S0.assign rfl) rfl <| wE <| WP.seq <| WP.seq <| WP.region <| v0 (S0.assign rfl) rfl <| vE <| WP.block <| ?_  -- Code.loop
    rw [show putV S.length ++ (S.take k).flatMap devB ++ (putV n ++ putV y.F.length) = putV S.length ++ (S.take k).flatMap devB ++ (putV n ++ putV y.F.length) ++ (y.F.take 0).flatMap textB by simp]
    refine WP.loop (fun j : Nat => j ≤ y.F.length) (fun j : Nat => [(0, .pointer (some ⟨rb, 0, none⟩)), (3, sv (putV S.length ++ (S.take k).flatMap devB ++ (putV n ++ putV y.F.length) ++ (y.F.take j).flatMap textB)), (4, .int .i64 (k : Int)), (5, .pointer (some ⟨xb, 0, none⟩)), (6, .int .i64 (j : Int))]) (fun j : Nat => [c]) (fun j : Nat => y.F.length - j) (0) (Nat.zero_le _) ⟨rfl, rfl, rfl, rfl, rfl, trivial⟩ ⟨_, (take1 at0 take0)⟩ (fun j hinv => ?_) 
    have htx := texts_le hoy j
    refine WP.seq <| WP.seq <| WP.region <| v0 (S0.move rfl) rfl <| v0 (S0.move rfl) rfl <| v0 (S0.nilCheck rfl) rfl <| v0 (S0.fieldAddr rfl) rfl <| v0 (S0.load rfl rfl) rfl <| v0 (S0.lenSl rfl) rfl <| v0 (S0.cmp rfl rfl rfl) rfl <| vE <| ?_  -- cond
    first | refine WP.condP rfl (fun h2 => ?_) (fun h2 => ?_) | refine WP.condN rfl (fun h2 => ?_) (fun h2 => ?_) | refine WP.cond rfl (fun h2 => ?_) (fun h2 => ?_)
    · skip
      have hlt2 : j < y.F.length := by omega
      have hf : y.F[j]? = some y.F[j] := by simp [hlt2]
      have hff := hoy.fF _ (List.getElem_mem hlt2)
      generalize y.F[j] = f at hf hff
      have hfl := filt_len hff
      have hpf := putV_le f.length
      rcases hfrow with ⟨e1, -⟩ | ⟨b2, sp2, rfl, rfl, hsp2⟩
      · rw [e1] at hlt2; simp at hlt2
      have i5 : HasC c b2 (.cells ⟨strs y.F ++ sp2⟩ 9 (0, 0)) := ⟨hfr _ (by simp)⟩
      refine WP.skip <| WP.seq <| WP.block <| WP.region <| v0 (S0.move rfl) rfl <| v0 (S0.move rfl) rfl <| v0 (S0.nilCheck rfl) rfl <| v0 (S0.fieldAddr rfl) rfl <| v0 (S0.load rfl rfl) rfl <| v0 (S0.move rfl) rfl <| ?_  -- op t61 := indexAddr 51 t59 t60
      refine v0 (S0.index1 rfl rfl (by omega)) rfl <| ?_
      refine v0 (S0.load rfl (strs_get hf)) rfl <| ?_
      refine vcd (S1.callF rfl (rtext_spec (s := f) (by omega)) take0) rfl ?_
      -- (nothing to walk: op t64 := add t55 t63 :9)
      refine v0 (S0.addS rfl rfl (by simp only [List.length_append]; omega)) rfl <| ?_
      refine v0 (S0.assign rfl) rfl <| vE <| WP.region <| v0 (S0.move rfl) rfl <| v0 (S0.ari rfl rfl rfl (wrap_i64 (by omega))) rfl <| v0 (S0.assign rfl) rfl <| vE <| ?_  -- roundend
      have ht : (y.F.take (j + 1)).flatMap textB = (y.F.take j).flatMap textB ++ (putV f.length ++ f) := by rw [List.take_add_one, hf]; simp [textB]
      rw [List.append_assoc _ ((y.F.take j).flatMap textB), ← ht]
      exact ⟨j + 1, (by first | exact hlt2 | (dsimp only; exact hlt2)), (by omega), ⟨⟨rfl, rfl, rfl, rfl, rfl, trivial⟩, rfl, rfl⟩, ⟨_, (take1 at0 take0)⟩⟩
    · skip
      have hj2 : j = y.F.length := by omega
      subst hj2
      rw [List.take_length] at htx ⊢
      refine WP.exit <| WP.region <| v0 (S0.move rfl) rfl <| v0 (S0.move rfl) rfl <| v0 (S0.nilCheck rfl) rfl <| v0 (S0.fieldAddr rfl) rfl <| v0 (S0.load rfl rfl) rfl <| ?_  -- op t70 := call F84{rivulet/rivuletref06.Marks}(t69)
      have hcm : ∀ (e : List Blk), c.Perm (mrow ++ e) → True := fun _ _ => trivial
      obtain ⟨C, hC1, -⟩ := rblks_at 76 hx
      refine WO.perm (h' := [mrow, (rb, cel [.slice (some ⟨b1, 0, none⟩) Q.length cap] 29) :: (b1, .cells ⟨ptrs Q ++ sp1⟩ 73 (0, 0)) :: (xb, .cells ⟨[.int .i64 y.i, .slice fa y.F.length fcap, mv]⟩ 76 (0, 0)) :: (frow ++ C)]) (k := []) (by rw [hc]; exact (pm fun a_ => by have h0_ := pm_of (hC1) a_; (try simp only [List.flatten_append, List.flatten_cons, List.flatten_nil, List.append_nil, List.cons_append, List.nil_append, List.append_assoc, nOf_app, nOf_cons, nOf_nil, Nat.add_zero, Nat.zero_add, List.map_append, List.map_cons, List.map_nil, cel, sv, RO.blks] at h0_); (try simp only [List.flatten_append, List.flatten_cons, List.flatten_nil, List.append_nil, List.cons_append, List.nil_append, List.append_assoc, nOf_app, nOf_cons, nOf_nil, Nat.add_zero, Nat.zero_add, List.map_append, List.map_cons, List.map_nil, cel, sv, RO.blks]); first | done | omega)) ?_
      refine vcd (S1.callF rfl (rmarks_spec hms (by omega)) (take1 at0 take0)) rfl ?_
      have hml := marksB_le y.M
      -- (nothing to walk: op t71 := add t65 t70 :9)
      refine v0 (S0.addS rfl rfl (by simp only [List.length_append]; omega)) rfl <| ?_
      refine v0 (S0.assign rfl) rfl <| vE <| WP.region <| v0 (S0.move rfl) rfl <| v0 (S0.ari rfl rfl rfl (wrap_i64 (by omega))) rfl <| v0 (S0.assign rfl) rfl <| vE <| ?_  -- roundend
      have ht : (S.take (k + 1)).flatMap devB = (S.take k).flatMap devB ++ devB y := by rw [List.take_add_one, hy]; simp
      have e9 : putV S.length ++ (S.take k).flatMap devB ++ (putV n ++ putV y.F.length) ++ y.F.flatMap textB ++ marksB y.M = putV S.length ++ (S.take (k + 1)).flatMap devB := by rw [ht, hdv]; simp
      rw [e9]
      exact ⟨k + 1, (by first | exact hlt | (dsimp only; exact hlt)), (by omega), ⟨⟨rfl, rfl, rfl, trivial⟩, rfl, rfl⟩, ⟨[], by rw [hc]; exact (pm fun a_ => by have h0_ := pm_of (hC1) a_; (try simp only [List.flatten_append, List.flatten_cons, List.flatten_nil, List.append_nil, List.cons_append, List.nil_append, List.append_assoc, nOf_app, nOf_cons, nOf_nil, Nat.add_zero, Nat.zero_add, List.map_append, List.map_cons, List.map_nil, cel, sv, RO.blks] at h0_); (try simp only [List.flatten_append, List.flatten_cons, List.flatten_nil, List.append_nil, List.cons_append, List.nil_append, List.append_assoc, nOf_app, nOf_cons, nOf_nil, Nat.add_zero, Nat.zero_add, List.map_append, List.map_cons, List.map_nil, cel, sv, RO.blks]); first | done | omega)⟩⟩
  · skip
    have hk2 : k = S.length := by omega
    subst hk2
    refine WP.exit <| WP.seq <| WP.region <| v0 (S0.move rfl) rfl <| v0 (S0.assign rfl) rfl <| vE <| WP.ret <| ?_  -- ret
    refine r1 rfl rfl ⟨?_, rfl⟩
    rw [List.take_length]; rfl
end Go.Proofs.YtanecnnfpdhadaaGreatDoor
