import Derived.Test.YtnoicafjkgbokaaDoorCovB
namespace Go.Proofs.YtnoicafjkgbokaaDoor
open Go

theorem ltS_cons (a b : UInt8) (x y : Str) (h : a ≠ b) : ltS (a :: x) (b :: y) = decide ((a.toNat : Int) < (b.toNat : Int)) := by
  simp only [ltS, h, decide_false, Bool.false_and, Bool.or_false]
  rw [decide_eq_decide, UInt8.lt_iff_toNat_lt]
  omega
theorem rless1_spec {a b : Str} (ha : a.length ≤ 1000000) (hb : b.length ≤ 1000000) : FN Tryd.prog 52 [sv a, sv b] [] (is (.bool (ltS a b)) []) := by
  refine FN.intro 37 [(0, sv a), (1, sv b)] Tryd.func52 rfl (enters Tryd.func52 (by kernel_rfl) rfl) Tryd.ntmps52 rfl rfl ?_
  refine WP.seq <| WP.region <| v0 (S0.assign rfl) rfl <| vE <| WP.seq <| WP.seq <| WP.region <| v0 (S0.assign rfl) rfl <| vE <| WP.block <| ?_  -- Code.loop
  refine WP.loop (fun i : Nat => i ≤ a.length ∧ i ≤ b.length ∧ ltS a b = ltS (a.drop i) (b.drop i)) (fun i : Nat => [(0, sv a), (1, sv b), (5, .int .i64 (i : Int))]) (fun i : Nat => []) (fun i : Nat => a.length - i) (0) (⟨Nat.zero_le _, Nat.zero_le _, by simp⟩) ⟨rfl, rfl, rfl, trivial⟩ ⟨_, take0⟩ (fun i hinv => ?_) 
  obtain ⟨hi, hi2, hinv⟩ := hinv
  refine WP.seq <| WP.seq <| WP.region <| v0 (S0.move rfl) rfl <| v0 (S0.move rfl) rfl <| v0 (S0.lenSt rfl) rfl <| v0 (S0.cmp rfl rfl rfl) rfl <| v0 (S0.move rfl) rfl <| ?_  -- guard t10 (wants True) at t11 := move t5 [if #4=True]
  first | refine csP (t := 10) rfl (fun h1 => ?_) (fun h1 => ?_) | refine csN (t := 10) rfl (fun h1 => ?_) (fun h1 => ?_) | refine cs (t := 10) rfl (fun h1 => ?_) (fun h1 => ?_)
  · skip
    have hlt : i < a.length := by omega
    have hx : a[i]? = some a[i] := by simp [hlt]
    generalize a[i] = x at hx
    rw [drop_cons hx] at hinv
    refine gT rfl <| v0 (S0.move rfl) rfl <| gT rfl <| v0 (S0.move rfl) rfl <| gT rfl <| v0 (S0.lenSt rfl) rfl <| gT rfl <| v0 (S0.cmp rfl rfl rfl) rfl <| v0 (S0.pickT rfl rfl) rfl <| vE <| ?_  -- cond
    first | refine WP.condP rfl (fun h2 => ?_) (fun h2 => ?_) | refine WP.condN rfl (fun h2 => ?_) (fun h2 => ?_) | refine WP.cond rfl (fun h2 => ?_) (fun h2 => ?_)
    · skip
      have hlt2 : i < b.length := by omega
      have hy : b[i]? = some b[i] := by simp [hlt2]
      generalize b[i] = y at hy
      rw [drop_cons hy] at hinv
      refine WP.skip <| WP.seq <| WP.block <| WP.seq <| WP.drawP [(0, none), (1, none), (2, none), (3, none), (4, none), (5, none), (6, none)] mixed (by kernel_rfl) (by kernel_rfl) (by kernel_rfl) take0 <| w0 rfl rfl rfl (S0.move rfl) rfl <| w0 rfl rfl rfl (S0.move rfl) rfl <| ?_  -- op t20 := index 9 t18 t19
      refine w0 rfl rfl rfl (S0.indexSt rfl rfl hx) rfl <| ?_
      refine w0 rfl rfl rfl (S0.move rfl) rfl <| w0 rfl rfl rfl (S0.move rfl) rfl <| ?_  -- op t23 := index 9 t21 t22
      refine w0 rfl rfl rfl (S0.indexSt rfl rfl hy) rfl <| ?_
      refine w0 rfl rfl rfl (S0.cmp rfl rfl rfl) rfl <| wE <| ?_  -- cond
      first | refine WP.condP rfl (fun h3 => ?_) (fun h3 => ?_) | refine WP.condN rfl (fun h3 => ?_) (fun h3 => ?_) | refine WP.cond rfl (fun h3 => ?_) (fun h3 => ?_)
      · skip
        have hne : x ≠ y := fun e => h3 (by rw [e])
        refine WP.seq <| WP.drawP [(0, none), (1, none), (2, none), (3, none), (4, none), (5, none), (6, none), (7, none)] mixed (by kernel_rfl) (by kernel_rfl) (by kernel_rfl) take0 <| w0 rfl rfl rfl (S0.move rfl) rfl <| w0 rfl rfl rfl (S0.move rfl) rfl <| ?_  -- op t27 := index 9 t25 t26
        refine w0 rfl rfl rfl (S0.indexSt rfl rfl hx) rfl <| ?_
        refine w0 rfl rfl rfl (S0.move rfl) rfl <| w0 rfl rfl rfl (S0.move rfl) rfl <| ?_  -- op t30 := index 9 t28 t29
        refine w0 rfl rfl rfl (S0.indexSt rfl rfl hy) rfl <| ?_
        refine w0 rfl rfl rfl (S0.cmp rfl rfl rfl) rfl <| w0 rfl rfl rfl (S0.assign rfl) rfl <| wE <| WP.ret <| ?_  -- ret
        refine r1 rfl rfl ⟨?_, rfl⟩
        rw [hinv, ltS_cons _ _ _ _ hne]
      · skip
        have he : x = y := UInt8.toNat_inj.1 (by omega)
        refine WP.skip <| WP.region <| v0 (S0.move rfl) rfl <| v0 (S0.ari rfl rfl rfl (wrap_i64 (by omega))) rfl <| v0 (S0.assign rfl) rfl <| vE <| ?_  -- roundend
        exact ⟨i + 1, (by first | exact ⟨hlt, hlt2, by rw [hinv, he]; simp [ltS]⟩ | (dsimp only; exact ⟨hlt, hlt2, by rw [hinv, he]; simp [ltS]⟩)), (by omega), ⟨⟨rfl, rfl, rfl, trivial⟩, rfl, rfl⟩, ⟨_, take0⟩⟩
    · skip
      have e : b.drop i = [] := List.drop_eq_nil_of_le (by omega)
      refine WP.exit <| WP.seq <| WP.region <| v0 (S0.move rfl) rfl <| v0 (S0.lenSt rfl) rfl <| v0 (S0.move rfl) rfl <| v0 (S0.lenSt rfl) rfl <| v0 (S0.cmp rfl rfl rfl) rfl <| v0 (S0.assign rfl) rfl <| vE <| WP.ret <| ?_  -- ret
      refine r1 rfl rfl ⟨?_, rfl⟩
      rw [hinv, e]
      have : ¬ (a.length : Int) < (b.length : Int) := by omega
      simp [ltS, this]
  · skip
    have e : a.drop i = [] := List.drop_eq_nil_of_le (by omega)
    refine gF rfl rfl <| gF rfl rfl <| gF rfl rfl <| gF rfl rfl <| v0 (S0.pickF rfl rfl) rfl <| vE <| WP.condF rfl <| WP.exit <| WP.seq <| WP.region <| v0 (S0.move rfl) rfl <| v0 (S0.lenSt rfl) rfl <| v0 (S0.move rfl) rfl <| v0 (S0.lenSt rfl) rfl <| v0 (S0.cmp rfl rfl rfl) rfl <| v0 (S0.assign rfl) rfl <| vE <| WP.ret <| ?_  -- ret
    refine r1 rfl rfl ⟨?_, rfl⟩
    rw [hinv, e]
    cases hb : b.drop i with
    | nil =>
      have := List.drop_eq_nil_iff.1 hb
      simp [ltS]; omega
    | cons y t =>
      have := congrArg List.length hb
      simp at this
      simp [ltS]; omega
theorem rless_spec {a b : Str} (ha : a.length ≤ 100000) (hb : b.length ≤ 100000) : FN Tryd.prog 31 [sv a, sv b] [] (is (.bool (lessS a b)) []) := by
  have hal := levels_len a
  have hbl := levels_len b
  have hma : ∀ x ∈ levels a, x.length ≤ 1000000 := fun x hx => by have := levels_mem_len a x hx; omega
  have hmb : ∀ x ∈ levels b, x.length ≤ 1000000 := fun x hx => by have := levels_mem_len b x hx; omega
  refine FN.intro 47 [(0, sv a), (1, sv b)] Tryd.func31 rfl (enters Tryd.func31 (by kernel_rfl) rfl) Tryd.ntmps31 rfl rfl ?_
  refine WP.seq <| WP.region <| v0 (S0.assign rfl) rfl <| vE <| WP.seq <| WP.region <| v0 (S0.move rfl) rfl <| ?_  -- op t9 := call F42{rivulet/rivuletref03.Levels}(t8)
  refine vc (S1.callF rfl (rlevels_spec (show a.length ≤ 1000000 by omega)) take0) rfl ?_
  rintro _ _ ⟨ra, hsa, rfl⟩
  refine app ?_
  refine v0 (S0.move rfl) rfl <| ?_  -- op t11 := call F42{rivulet/rivuletref03.Levels}(t10)
  refine vc (S1.callF rfl (rlevels_spec (show b.length ≤ 1000000 by omega)) take0) rfl ?_
  rintro _ _ ⟨rb, hsb, rfl⟩
  refine app ?_
  rw [lessS]
  generalize levels a = A at hsa hal hma
  generalize levels b = B at hsb hbl hmb
  obtain ⟨aa, ac, rfl, -, hra⟩ := hsa.strsE
  obtain ⟨ba, bc, rfl, -, hrb⟩ := hsb.strsE
  refine v0 (S0.assign rfl) rfl <| v0 (S0.assign rfl) rfl <| vE <| WP.seq <| WP.seq <| WP.region <| v0 (S0.assign rfl) rfl <| vE <| WP.block <| ?_  -- Code.loop
  refine WP.loop (fun i : Nat => i ≤ A.length ∧ i ≤ B.length ∧ ltL A B = ltL (A.drop i) (B.drop i)) (fun i : Nat => [(5, .slice aa A.length ac), (6, .slice ba B.length bc), (7, .int .i64 (i : Int))]) (fun i : Nat => [ra, rb]) (fun i : Nat => A.length - i) (0) (⟨Nat.zero_le _, Nat.zero_le _, by simp⟩) ⟨rfl, rfl, rfl, trivial⟩ ⟨_, (take1 (atS at0) (take1 at0 take0))⟩ (fun i hinv => ?_) 
  obtain ⟨hi, hi2, hinv⟩ := hinv
  refine WP.seq <| WP.seq <| WP.region <| v0 (S0.move rfl) rfl <| v0 (S0.move rfl) rfl <| v0 (S0.lenSl rfl) rfl <| v0 (S0.cmp rfl rfl rfl) rfl <| v0 (S0.move rfl) rfl <| ?_  -- guard t16 (wants True) at t17 := move t7 [if #4=True]
  first | refine csP (t := 16) rfl (fun h1 => ?_) (fun h1 => ?_) | refine csN (t := 16) rfl (fun h1 => ?_) (fun h1 => ?_) | refine cs (t := 16) rfl (fun h1 => ?_) (fun h1 => ?_)
  · skip
    have hlt : i < A.length := by omega
    rcases hra with ⟨e, -⟩ | ⟨b1, sp1, rfl, rfl, hsp1⟩
    · rw [e] at hlt; simp at hlt
    have hx : A[i]? = some A[i] := by simp [hlt]
    have hxl := hma _ (List.getElem_mem hlt)
    generalize A[i] = x at hx hxl
    rw [drop_cons hx] at hinv
    refine gT rfl <| v0 (S0.move rfl) rfl <| gT rfl <| v0 (S0.move rfl) rfl <| gT rfl <| v0 (S0.lenSl rfl) rfl <| gT rfl <| v0 (S0.cmp rfl rfl rfl) rfl <| v0 (S0.pickT rfl rfl) rfl <| vE <| ?_  -- cond
    first | refine WP.condP rfl (fun h2 => ?_) (fun h2 => ?_) | refine WP.condN rfl (fun h2 => ?_) (fun h2 => ?_) | refine WP.cond rfl (fun h2 => ?_) (fun h2 => ?_)
    · skip
      have hlt2 : i < B.length := by omega
      rcases hrb with ⟨e, -⟩ | ⟨b2, sp2, rfl, rfl, hsp2⟩
      · rw [e] at hlt2; simp at hlt2
      have hy : B[i]? = some B[i] := by simp [hlt2]
      have hyl := hmb _ (List.getElem_mem hlt2)
      generalize B[i] = y at hy hyl
      rw [drop_cons hy] at hinv
      skip
      refine WP.skip <| WP.seq <| WP.block <| WP.seq <| WP.drawP [(0, none), (1, none), (2, none), (3, none), (4, none), (5, none), (6, none), (7, none), (8, none)] mixed (by kernel_rfl) (by kernel_rfl) (by kernel_rfl) (take1 at0 (take1 at0 take0)) <| w0 rfl rfl rfl (S0.move rfl) rfl <| w0 rfl rfl rfl (S0.move rfl) rfl <| ?_  -- op t26 := indexAddr 22 t24 t25
      refine w0 rfl rfl rfl (S0.index1 rfl rfl hlt) rfl <| ?_
      refine w0 rfl rfl rfl (S0.load rfl (strs_get hx)) rfl <| ?_
      refine w0 rfl rfl rfl (S0.move rfl) rfl <| w0 rfl rfl rfl (S0.move rfl) rfl <| ?_  -- op t30 := indexAddr 22 t28 t29
      refine w0 rfl rfl rfl (S0.index1 rfl rfl hlt2) rfl <| ?_
      refine w0 rfl rfl rfl (S0.load rfl (strs_get hy)) rfl <| ?_
      refine w0 rfl rfl rfl (S0.cmpS rfl rfl rfl) rfl <| wE <| ?_  -- cond
      first | refine WP.condP rfl (fun h3 => ?_) (fun h3 => ?_) | refine WP.condN rfl (fun h3 => ?_) (fun h3 => ?_) | refine WP.cond rfl (fun h3 => ?_) (fun h3 => ?_)
      · skip
        skip
        refine WP.seq <| WP.drawP [(0, none), (1, none), (2, none), (3, none), (4, none), (5, none), (6, none), (7, none), (8, none), (9, none)] mixed (by kernel_rfl) (by kernel_rfl) (by kernel_rfl) (take1 at0 (take1 at0 take0)) <| w0 rfl rfl rfl (S0.move rfl) rfl <| w0 rfl rfl rfl (S0.move rfl) rfl <| ?_  -- op t35 := indexAddr 22 t33 t34
        refine w0 rfl rfl rfl (S0.index1 rfl rfl hlt) rfl <| ?_
        refine w0 rfl rfl rfl (S0.load rfl (strs_get hx)) rfl <| ?_
        refine w0 rfl rfl rfl (S0.move rfl) rfl <| w0 rfl rfl rfl (S0.move rfl) rfl <| ?_  -- op t39 := indexAddr 22 t37 t38
        refine w0 rfl rfl rfl (S0.index1 rfl rfl hlt2) rfl <| ?_
        refine w0 rfl rfl rfl (S0.load rfl (strs_get hy)) rfl <| ?_
        -- (nothing to walk: op t41 := call F52{rivulet/rivuletref01.Less}(t36, t40))
        refine wcd rfl rfl rfl rfl (S1.callF rfl (rless1_spec hxl hyl) take0) rfl ?_
        refine w0 rfl rfl rfl (S0.assign rfl) rfl <| wE <| WP.ret <| ?_  -- ret
        refine Leaves.drop take0 ?_
        refine r1 rfl rfl ⟨?_, rfl⟩
        rw [hinv]; simp [ltL, h3]
      · skip
        refine WP.skip <| WP.region <| v0 (S0.move rfl) rfl <| v0 (S0.ari rfl rfl rfl (wrap_i64 (by omega))) rfl <| v0 (S0.assign rfl) rfl <| vE <| ?_  -- roundend
        exact ⟨i + 1, (by first | exact ⟨hlt, hlt2, by rw [hinv]; subst h3; simp [ltL, ltS_irr]⟩ | (dsimp only; exact ⟨hlt, hlt2, by rw [hinv]; subst h3; simp [ltL, ltS_irr]⟩)), (by omega), ⟨⟨rfl, rfl, rfl, trivial⟩, rfl, rfl⟩, ⟨_, (take1 at0 (take1 at0 take0))⟩⟩
    · skip
      have e : B.drop i = [] := List.drop_eq_nil_of_le (by omega)
      refine WP.exit <| WP.seq <| WP.region <| v0 (S0.move rfl) rfl <| v0 (S0.lenSl rfl) rfl <| v0 (S0.move rfl) rfl <| v0 (S0.lenSl rfl) rfl <| v0 (S0.cmp rfl rfl rfl) rfl <| v0 (S0.assign rfl) rfl <| vE <| WP.ret <| ?_  -- ret
      refine Leaves.drop take0 ?_
      refine r1 rfl rfl ⟨?_, rfl⟩
      rw [hinv, e]
      simp [ltL]; omega
  · skip
    have e : A.drop i = [] := List.drop_eq_nil_of_le (by omega)
    refine gF rfl rfl <| gF rfl rfl <| gF rfl rfl <| gF rfl rfl <| v0 (S0.pickF rfl rfl) rfl <| vE <| WP.condF rfl <| WP.exit <| WP.seq <| WP.region <| v0 (S0.move rfl) rfl <| v0 (S0.lenSl rfl) rfl <| v0 (S0.move rfl) rfl <| v0 (S0.lenSl rfl) rfl <| v0 (S0.cmp rfl rfl rfl) rfl <| v0 (S0.assign rfl) rfl <| vE <| WP.ret <| ?_  -- ret
    refine Leaves.drop take0 ?_
    refine r1 rfl rfl ⟨?_, rfl⟩
    rw [hinv, e]
    cases hb : B.drop i with
    | nil =>
      have := List.drop_eq_nil_iff.1 hb
      simp [ltL]; omega
    | cons y t =>
      have := congrArg List.length hb
      simp at this
      simp [ltL]; omega
theorem same_spec {va vb : Value} {A B : List Str} {ca cb : List Blk} (ha : RdS va A ca) (hb : RdS vb B cb) (hl : A.length ≤ 1000000) : FN Tryd.prog 11 [va, vb] [ca, cb] (is (.bool (decide (A = B))) [ca, cb]) := by
  obtain ⟨aa, ac, rfl, -, hra⟩ := ha
  obtain ⟨ba, bc, rfl, -, hrb⟩ := hb
  refine FN.intro 26 [(0, .slice aa A.length ac), (1, .slice ba B.length bc)] Tryd.func11 rfl (enters Tryd.func11 (by kernel_rfl) rfl) Tryd.ntmps11 rfl rfl ?_
  refine WP.seq <| WP.region <| v0 (S0.assign rfl) rfl <| vE <| WP.seq <| WP.seq <| WP.region <| v0 (S0.move rfl) rfl <| v0 (S0.lenSl rfl) rfl <| v0 (S0.move rfl) rfl <| v0 (S0.lenSl rfl) rfl <| v0 (S0.cmp rfl rfl rfl) rfl <| vE <| ?_  -- cond
  first | refine WP.condP rfl (fun h1 => ?_) (fun h1 => ?_) | refine WP.condN rfl (fun h1 => ?_) (fun h1 => ?_) | refine WP.cond rfl (fun h1 => ?_) (fun h1 => ?_)
  · skip
    refine WP.seq <| WP.region <| v0 (S0.assign rfl) rfl <| vE <| WP.ret <| ?_  -- ret
    refine r1 rfl rfl ⟨?_, rfl⟩
    have : A ≠ B := fun e => h1 (by rw [e])
    simp [this]
  · skip
    have hlen : A.length = B.length := by omega
    refine WP.skip <| WP.seq <| WP.seq <| WP.region <| v0 (S0.assign rfl) rfl <| vE <| WP.block <| ?_  -- Code.loop
    refine WP.loop (fun i : Nat => i ≤ A.length ∧ A.take i = B.take i) (fun i : Nat => [(0, .slice aa A.length ac), (1, .slice ba B.length bc), (5, .int .i64 (i : Int))]) (fun i : Nat => [ca, cb]) (fun i : Nat => A.length - i) (0) (⟨Nat.zero_le _, by simp⟩) ⟨rfl, rfl, rfl, trivial⟩ ⟨_, (take1 at0 (take1 at0 take0))⟩ (fun i hinv => ?_) 
    obtain ⟨hi, hinv⟩ := hinv
    refine WP.seq <| WP.seq <| WP.region <| v0 (S0.move rfl) rfl <| v0 (S0.move rfl) rfl <| v0 (S0.lenSl rfl) rfl <| v0 (S0.cmp rfl rfl rfl) rfl <| vE <| ?_  -- cond
    first | refine WP.condP rfl (fun h2 => ?_) (fun h2 => ?_) | refine WP.condN rfl (fun h2 => ?_) (fun h2 => ?_) | refine WP.cond rfl (fun h2 => ?_) (fun h2 => ?_)
    · skip
      have hlt : i < A.length := by omega
      have hlt2 : i < B.length := by omega
      rcases hra with e | ⟨b1, o1, L1, U1, fz1, rfl, hm1, he1⟩
      · rw [e] at hlt; simp at hlt
      rcases hrb with e | ⟨b2, o2, L2, U2, fz2, rfl, hm2, he2⟩
      · rw [e] at hlt2; simp at hlt2
      have : HasC ca b1 (.cells ⟨L1⟩ U1 fz1) := ⟨hm1⟩
      have : HasC cb b2 (.cells ⟨L2⟩ U2 fz2) := ⟨hm2⟩
      have hx : A[i]? = some A[i] := by simp [hlt]
      generalize A[i] = x at hx
      have hy : B[i]? = some B[i] := by simp [hlt2]
      generalize B[i] = y at hy
      have hxe := he1 i x hx
      have hye := he2 i y hy
      skip
      refine WP.skip <| WP.seq <| WP.block <| WP.seq <| WP.drawP [(0, none), (1, none), (2, none), (3, none), (4, none), (5, none), (6, none), (7, none), (8, none)] mixed (by kernel_rfl) (by kernel_rfl) (by kernel_rfl) (take1 at0 (take1 at0 take0)) <| w0 rfl rfl rfl (S0.move rfl) rfl <| w0 rfl rfl rfl (S0.move rfl) rfl <| ?_  -- op t19 := indexAddr 22 t17 t18
      refine w0 rfl rfl rfl (S0.indexO1 rfl rfl hlt) rfl <| ?_
      refine w0 rfl rfl rfl (S0.load rfl (rdS_get hxe)) rfl <| ?_
      refine w0 rfl rfl rfl (S0.move rfl) rfl <| w0 rfl rfl rfl (S0.move rfl) rfl <| ?_  -- op t23 := indexAddr 22 t21 t22
      refine w0 rfl rfl rfl (S0.indexO1 rfl rfl hlt2) rfl <| ?_
      refine w0 rfl rfl rfl (S0.load rfl (rdS_get hye)) rfl <| ?_
      refine w0 rfl rfl rfl (S0.cmpS rfl rfl rfl) rfl <| wE <| ?_  -- cond
      first | refine WP.condP rfl (fun h3 => ?_) (fun h3 => ?_) | refine WP.condN rfl (fun h3 => ?_) (fun h3 => ?_) | refine WP.cond rfl (fun h3 => ?_) (fun h3 => ?_)
      · skip
        refine WP.seq <| WP.region <| v0 (S0.assign rfl) rfl <| vE <| WP.ret <| ?_  -- ret
        refine r1 rfl rfl ⟨?_, rfl⟩
        have : A ≠ B := fun e => h3 (by rw [e, hy] at hx; cases hx; rfl)
        simp [this]
      · skip
        refine WP.skip <| WP.region <| v0 (S0.move rfl) rfl <| v0 (S0.ari rfl rfl rfl (wrap_i64 (by omega))) rfl <| v0 (S0.assign rfl) rfl <| vE <| ?_  -- roundend
        exact ⟨i + 1, (by first | exact ⟨hlt, by subst h3; rw [List.take_add_one, List.take_add_one, hx, hy, hinv]⟩ | (dsimp only; exact ⟨hlt, by subst h3; rw [List.take_add_one, List.take_add_one, hx, hy, hinv]⟩)), (by omega), ⟨⟨rfl, rfl, rfl, trivial⟩, rfl, rfl⟩, ⟨_, (take1 at0 (take1 at0 take0))⟩⟩
    · skip
      refine WP.exit <| WP.seq <| WP.region <| v0 (S0.assign rfl) rfl <| vE <| WP.ret <| ?_  -- ret
      refine r1 rfl rfl ⟨?_, rfl⟩
      rw [List.take_of_length_le (by omega), List.take_of_length_le (by omega)] at hinv
      simp [hinv]
theorem insS_at {f : Str} : ∀ {l : List Str} {i : Nat}, i ≤ l.length → (∀ j y, j < i → l[j]? = some y → lessS y f = true) → (∀ y, l[i]? = some y → lessS y f = false) → insS l f = if l[i]? = some f then l else l.take i ++ f :: l.drop i
  | [], i, hi, _, _ => by simp at hi; subst hi; simp [insS]
  | x :: l, 0, _, _, h2 => by
    have := h2 x rfl
    simp only [insS, this, List.getElem?_cons_zero, Option.some.injEq]
    simp
  | x :: l, i + 1, hi, h1, h2 => by
    have h0 := h1 0 x (by omega) rfl
    have ih := insS_at (f := f) (l := l) (i := i) (by simpa using hi) (fun j y hj hy => h1 (j + 1) y (by omega) (by simpa using hy)) (fun y hy => h2 y (by simpa using hy))
    simp only [insS, h0, if_true, ih, List.getElem?_cons_succ]
    split <;> simp
theorem rinsert_spec {v : Value} {l : List Str} {row : List Blk} {f : Str} (hs : IsSl 9 1 v (strs l) row) (hl : l.length ≤ 1000) (hx : ∀ x ∈ l, x.length ≤ 1000) (hf : f.length ≤ 1000) :
    FN Tryd.prog 45 [v, sv f] [row] (fun u h => ∃ row2, IsSl 9 1 u (strs (insS l f)) row2 ∧ h = [row2]) := by
  have hs' := hs
  obtain ⟨a, cap, rfl, hcap, hrow⟩ := hs'.strsE
  refine FN.intro 49 [(0, .slice a l.length cap), (1, sv f)] Tryd.func45 rfl (enters Tryd.func45 (by kernel_rfl) rfl) Tryd.ntmps45 rfl rfl ?_
  refine WP.seq <| WP.region <| v0 (S0.assign rfl) rfl <| vE <| WP.seq <| WP.region <| v0 (S0.assign rfl) rfl <| vE <| WP.seq <| WP.block <| ?_  -- Code.loop
  refine WP.loop (fun i : Nat => i ≤ l.length ∧ ∀ j y, j < i → l[j]? = some y → lessS y f = true) (fun i : Nat => [(0, .slice a l.length cap), (1, sv f), (5, .int .i64 (i : Int))]) (fun i : Nat => [row]) (fun i : Nat => l.length - i) (0) (⟨Nat.zero_le _, fun j y hj => by omega⟩) ⟨rfl, rfl, rfl, trivial⟩ ⟨_, (take1 at0 take0)⟩ (fun i hinv => ?_) 
  obtain ⟨hi, hall⟩ := hinv
  refine WP.seq <| WP.seq <| WP.region <| v0 (S0.move rfl) rfl <| v0 (S0.move rfl) rfl <| v0 (S0.lenSl rfl) rfl <| v0 (S0.cmp rfl rfl rfl) rfl <| v0 (S0.move rfl) rfl <| ?_  -- guard t11 (wants True) at t12 := move t0 [if #4=True]
  first | refine csP (t := 11) rfl (fun h1 => ?_) (fun h1 => ?_) | refine csN (t := 11) rfl (fun h1 => ?_) (fun h1 => ?_) | refine cs (t := 11) rfl (fun h1 => ?_) (fun h1 => ?_)
  · skip
    have hlt : i < l.length := by omega
    rcases hrow with ⟨e, -⟩ | ⟨b1, sp1, rfl, rfl, hsp1⟩
    · rw [e] at hlt; simp at hlt
    have hg : l[i]? = some l[i] := by simp [hlt]
    have hxl := hx _ (List.getElem_mem hlt)
    generalize l[i] = x at hg hxl
    refine gT rfl <| v0 (S0.move rfl) rfl <| gT rfl <| v0 (S0.move rfl) rfl <| ?_  -- op t14 := indexAddr 22 t12 t13 [if #4=True]
    refine gT rfl <| v0 (S0.index1 rfl rfl hlt) rfl <| ?_
    refine gT rfl <| v0 (S0.load rfl (strs_get hg)) rfl <| ?_
    refine gT rfl <| v0 (S0.move rfl) rfl <| ?_  -- op t17 := call F31{rivulet/rivuletref03.Less}(t15, t16) [if #4=True]
    refine gT rfl <| vcd (S1.callF rfl (rless_spec (show x.length ≤ 100000 by omega) (show f.length ≤ 100000 by omega)) take0) rfl ?_
    refine v0 (S0.pickT rfl rfl) rfl <| vE <| ?_  -- cond
    first | refine WP.condP rfl (fun h2 => ?_) (fun h2 => ?_) | refine WP.condN rfl (fun h2 => ?_) (fun h2 => ?_) | refine WP.cond rfl (fun h2 => ?_) (fun h2 => ?_)
    · skip
      refine WP.skip <| WP.block <| WP.region <| v0 (S0.move rfl) rfl <| v0 (S0.ari rfl rfl rfl (wrap_i64 (by omega))) rfl <| v0 (S0.assign rfl) rfl <| vE <| ?_  -- roundend
      exact ⟨i + 1, (by first | exact ⟨hlt, below_at (p := fun _ y => lessS y f = true) hall hg h2⟩ | (dsimp only; exact ⟨hlt, below_at (p := fun _ y => lessS y f = true) hall hg h2⟩)), (by omega), ⟨⟨rfl, rfl, rfl, trivial⟩, rfl, rfl⟩, ⟨_, (take1 at0 take0)⟩⟩
    · skip
      have hins := insS_at (f := f) hi hall (fun y hy => by rw [hg] at hy; cases hy; simpa using h2)
      rw [hg] at hins
      refine WP.exit <| WP.seq <| WP.seq <| WP.region <| v0 (S0.move rfl) rfl <| v0 (S0.move rfl) rfl <| v0 (S0.lenSl rfl) rfl <| v0 (S0.cmp rfl rfl rfl) rfl <| v0 (S0.move rfl) rfl <| ?_  -- guard t25 (wants True) at t26 := move t0 [if #4=True]
      refine csTh (t := 25) rfl ((by simp; omega)) ?_
      refine gT rfl <| v0 (S0.move rfl) rfl <| gT rfl <| v0 (S0.move rfl) rfl <| ?_  -- op t28 := indexAddr 22 t26 t27 [if #4=True]
      refine gT rfl <| v0 (S0.index1 rfl rfl hlt) rfl <| ?_
      refine gT rfl <| v0 (S0.load rfl (strs_get hg)) rfl <| ?_
      refine gT rfl <| v0 (S0.move rfl) rfl <| gT rfl <| v0 (S0.cmpS rfl rfl rfl) rfl <| v0 (S0.pickT rfl rfl) rfl <| vE <| ?_  -- cond
      first | refine WP.condP rfl (fun h3 => ?_) (fun h3 => ?_) | refine WP.condN rfl (fun h3 => ?_) (fun h3 => ?_) | refine WP.cond rfl (fun h3 => ?_) (fun h3 => ?_)
      · skip
        refine WP.seq <| WP.region <| v0 (S0.move rfl) rfl <| v0 (S0.assign rfl) rfl <| vE <| WP.ret <| ?_  -- ret
        refine r1 rfl rfl ?_
        exact ⟨_, by rw [hins, if_pos (by rw [h3])]; exact hs, rfl⟩
      · skip
        rw [if_neg (fun e => h3 (by simpa using e))] at hins
        obtain ⟨hw, hle⟩ := strs_cut sp1 l 0 i cap (Nat.zero_le _) (by omega) hcap
        obtain ⟨hw2, hle2⟩ := strs_cut sp1 l i l.length cap (by omega) (Nat.le_refl _) hcap
        rw [List.drop_zero, Nat.sub_zero] at hw
        have htl : (l.take i).length = i := by rw [List.length_take]; omega
        have hdl : ((l.drop i).take (l.length - i)) = l.drop i := List.take_of_length_le (by simp)
        rw [hdl] at hw2
        refine WP.skip <| WP.seq <| WP.region <| vnv (S1.buildSlice rfl (qs := []) rfl rfl) rfl fun b34 => v0 (S0.move rfl) rfl <| v0 (S0.move rfl) rfl <| ?_  -- op t37 := slice 22 t35 none t36 none
        refine v0 (S0.slice (i := 0) (j := i) rfl rfl rfl ⟨Nat.zero_le _, by omega⟩) rfl <| ?_
        refine ve (S1.appendS rfl (IsSl.row (n := 0) (c := 0) (l := []) (sp := []) rfl rfl (Nat.le_refl _)) rfl hle hw at0 (strs_cv _) rfl (by rw [strs_len, htl]; simp only [List.length_nil]; omega)) rfl ?_
        rintro v2 _ ⟨row2, hs2, rfl⟩
        rw [List.nil_append] at hs2
        refine v0 (S0.assign rfl) rfl <| vE <| WP.seq <| WP.region <| v0 (S0.move rfl) rfl <| v0 (S0.move rfl) rfl <| vnv (S1.buildSlice rfl (qs := [(0, _)]) rfl rfl) rfl fun b41 => ?_  -- op t42 := append(t39, t41) :[22, 22]
        refine ve (S1.appendL rfl hs2 rfl rfl (atS at0) rfl rfl (by rw [strs_len, htl]; simp; omega)) rfl ?_
        rintro v3 _ ⟨row3, hs3, rfl⟩
        refine v0 (S0.assign rfl) rfl <| vE <| WP.seq <| WP.region <| v0 (S0.move rfl) rfl <| v0 (S0.move rfl) rfl <| v0 (S0.move rfl) rfl <| ?_  -- op t46 := slice 22 t44 t45 none none
        refine v0 (S0.slice (i := i) (j := l.length) rfl rfl rfl ⟨by omega, hcap⟩) rfl <| ?_
        refine ve (S1.appendS rfl hs3 rfl hle2 hw2 at0 (strs_cv _) rfl (by rw [List.length_append, strs_len, htl, strs_len]; simp; omega)) rfl ?_
        rintro v4 _ ⟨row4, hs4, rfl⟩
        refine v0 (S0.assign rfl) rfl <| vE <| WP.seq <| WP.region <| v0 (S0.move rfl) rfl <| v0 (S0.assign rfl) rfl <| vE <| WP.ret <| ?_  -- ret
        refine Leaves.drop (take1 at0 take0) ?_
        refine r1 rfl rfl ?_
        refine ⟨row4, ?_, rfl⟩
        rw [hins]
        simpa [strs] using hs4
  · skip
    have e : i = l.length := by omega
    subst e
    have hins := insS_at (f := f) (Nat.le_refl _) hall (fun y hy => by simp at hy)
    rw [if_neg (by simp), List.take_length, List.drop_length] at hins
    refine gF rfl rfl <| gF rfl rfl <| gF rfl rfl <| gF rfl rfl <| gF rfl rfl <| gF rfl rfl <| v0 (S0.pickF rfl rfl) rfl <| vE <| WP.condF rfl <| WP.exit <| WP.seq <| WP.seq <| WP.region <| v0 (S0.move rfl) rfl <| v0 (S0.move rfl) rfl <| v0 (S0.lenSl rfl) rfl <| v0 (S0.cmp rfl rfl rfl) rfl <| v0 (S0.move rfl) rfl <| ?_  -- guard t25 (wants True) at t26 := move t0 [if #4=True]
    refine csFh (t := 25) rfl ((by simp)) ?_
    refine gF rfl rfl <| gF rfl rfl <| gF rfl rfl <| gF rfl rfl <| gF rfl rfl <| gF rfl rfl <| v0 (S0.pickF rfl rfl) rfl <| vE <| WP.condF rfl <| WP.skip <| WP.seq <| WP.region <| vnv (S1.buildSlice rfl (qs := []) rfl rfl) rfl fun b34 => v0 (S0.move rfl) rfl <| v0 (S0.move rfl) rfl <| ?_  -- op t37 := slice 22 t35 none t36 none
    obtain ⟨-, -, hc1⟩ := hs.rdS.cutG 0 l.length (Nat.zero_le _) (Nat.le_refl _)
    obtain ⟨-, -, hc2⟩ := hs.rdS.cutG l.length l.length (Nat.le_refl _) (Nat.le_refl _)
    refine v0 (S0.sliceG (i := 0) (j := l.length) rfl rfl rfl ⟨Nat.zero_le _, hcap⟩) rfl <| ?_
    refine ve (S1.appendRd rfl (IsSl.row (n := 0) (c := 0) (l := []) (sp := []) rfl rfl (Nat.le_refl _)) rfl hc1 (fun q hq => List.mem_flatten.2 ⟨_, by simp, hq⟩) at0 rfl (by simp; omega)) rfl ?_
    rintro v2 _ ⟨row2, hs2, rfl⟩
    rw [List.nil_append] at hs2
    refine v0 (S0.assign rfl) rfl <| vE <| WP.seq <| WP.region <| v0 (S0.move rfl) rfl <| v0 (S0.move rfl) rfl <| vnv (S1.buildSlice rfl (qs := [(0, _)]) rfl rfl) rfl fun b41 => ?_  -- op t42 := append(t39, t41) :[22, 22]
    refine ve (S1.appendL rfl hs2 rfl rfl (atS at0) rfl rfl (by rw [strs_len]; simp; omega)) rfl ?_
    rintro v3 _ ⟨row3, hs3, rfl⟩
    refine v0 (S0.assign rfl) rfl <| vE <| WP.seq <| WP.region <| v0 (S0.move rfl) rfl <| v0 (S0.move rfl) rfl <| v0 (S0.move rfl) rfl <| ?_  -- op t46 := slice 22 t44 t45 none none
    refine v0 (S0.sliceG (i := l.length) (j := l.length) rfl rfl rfl ⟨Nat.le_refl _, hcap⟩) rfl <| ?_
    refine ve (S1.appendRd rfl hs3 rfl hc2 (fun q hq => List.mem_flatten.2 ⟨_, by simp, hq⟩) at0 rfl (by rw [List.length_append, strs_len]; simp; omega)) rfl ?_
    rintro v4 _ ⟨row4, hs4, rfl⟩
    refine v0 (S0.assign rfl) rfl <| vE <| WP.seq <| WP.region <| v0 (S0.move rfl) rfl <| v0 (S0.assign rfl) rfl <| vE <| WP.ret <| ?_  -- ret
    refine Leaves.drop (take1 at0 take0) ?_
    refine r1 rfl rfl ?_
    refine ⟨row4, ?_, rfl⟩
    rw [hins]
    simpa [strs] using hs4
theorem rclean_spec {v : Value} {l : List Str} {c : List Blk} (hr : RdS v l c) (hx : ∀ x ∈ l, x.length ≤ 1000) (hl : l.length ≤ 1000) : FN Tryd.prog 26 [v] [c] (fun u h => ∃ row, IsSl 9 1 u (strs (cleanS l)) row ∧ h = [row, c]) := by
  obtain ⟨a, cap, rfl, hcap, hr⟩ := hr
  refine FN.intro 24 [(0, .slice a l.length cap)] Tryd.func26 rfl (enters Tryd.func26 (by kernel_rfl) rfl) Tryd.ntmps26 rfl rfl ?_
  refine WP.seq <| WP.region <| v0 (S0.assign rfl) rfl <| vE <| WP.seq <| WP.region <| vnv (S1.buildSlice rfl (qs := []) rfl rfl) rfl fun b5 => v0 (S0.assign rfl) rfl <| vE <| WP.seq <| WP.seq <| WP.region <| v0 (S0.assign rfl) rfl <| vE <| WP.block <| ?_  -- Code.loop
  refine WP.loop (fun st : Nat × Value × List Blk => st.1 ≤ l.length ∧ IsSl 9 1 st.2.1 (strs (cleanS (l.take st.1))) st.2.2) (fun st : Nat × Value × List Blk => [(0, .slice a l.length cap), (3, st.2.1), (4, .int .i64 (st.1 : Int))]) (fun st : Nat × Value × List Blk => [st.2.2, c]) (fun st : Nat × Value × List Blk => l.length - st.1) ((0, _, [(b5, .cells ⟨[]⟩ 9 (0, 0))])) (⟨Nat.zero_le _, IsSl.row (n := 0) (c := 0) (l := []) (sp := []) rfl rfl (Nat.le_refl _)⟩) ⟨rfl, rfl, rfl, trivial⟩ ⟨_, (take1 at0 (take1 at0 take0))⟩ (fun st hinv => ?_) 
  obtain ⟨i, ov, row⟩ := st
  obtain ⟨hi, hsl⟩ := hinv
  dsimp only at hi hsl ⊢
  refine WP.seq <| WP.seq <| WP.region <| v0 (S0.move rfl) rfl <| v0 (S0.move rfl) rfl <| v0 (S0.lenSl rfl) rfl <| v0 (S0.cmp rfl rfl rfl) rfl <| vE <| ?_  -- cond
  first | refine WP.condP rfl (fun h1 => ?_) (fun h1 => ?_) | refine WP.condN rfl (fun h1 => ?_) (fun h1 => ?_) | refine WP.cond rfl (fun h1 => ?_) (fun h1 => ?_)
  · skip
    have hlt : i < l.length := by omega
    rcases hr with e | ⟨b1, o1, L1, U1, fz1, rfl, hm1, he1⟩
    · rw [e] at hlt; simp at hlt
    have : HasC c b1 (.cells ⟨L1⟩ U1 fz1) := ⟨hm1⟩
    have hg : l[i]? = some l[i] := by simp [hlt]
    have hxl := hx _ (List.getElem_mem hlt)
    generalize l[i] = x at hg hxl
    have hxe := he1 i x hg
    have htk : l.take (i + 1) = l.take i ++ [x] := by rw [List.take_add_one, hg]; rfl
    have hcl := clean_len (l.take i)
    have htl : (l.take i).length ≤ l.length := by rw [List.length_take]; omega
    skip
    refine WP.skip <| WP.seq <| WP.block <| WP.seq <| WP.region <| v0 (S0.move rfl) rfl <| v0 (S0.move rfl) rfl <| ?_  -- op t14 := indexAddr 22 t12 t13
    refine v0 (S0.indexO1 rfl rfl hlt) rfl <| ?_
    refine v0 (S0.load rfl (rdS_get hxe)) rfl <| ?_
    -- (nothing to walk: op t16 := call F23{rivulet/rivuletref03.Filter}(t15))
    refine vcd (S1.callF rfl (rfilter_spec (show x.length ≤ 900000 by omega)) take0) rfl ?_
    refine vE <| ?_  -- cond
    first | refine WP.condP rfl (fun h2 => ?_) (fun h2 => ?_) | refine WP.condN rfl (fun h2 => ?_) (fun h2 => ?_) | refine WP.cond rfl (fun h2 => ?_) (fun h2 => ?_)
    · skip
      refine WP.region <| v0 (S0.move rfl) rfl <| v0 (S0.move rfl) rfl <| v0 (S0.move rfl) rfl <| ?_  -- op t20 := indexAddr 22 t18 t19
      refine v0 (S0.indexO1 rfl rfl hlt) rfl <| ?_
      refine v0 (S0.load rfl (rdS_get hxe)) rfl <| ?_
      -- (nothing to walk: op t22 := call F45{rivulet/rivuletref04.Insert}(t17, t21))
      refine vc (S1.callF rfl (rinsert_spec hsl (by omega) (fun y hy => hx y (List.mem_of_mem_take (mem_clean.1 hy).1)) (by omega)) (take1 at0 take0)) rfl ?_
      rintro v2 _ ⟨row2, hsl2, rfl⟩
      refine app ?_
      refine v0 (S0.assign rfl) rfl <| vE <| WP.region <| v0 (S0.move rfl) rfl <| v0 (S0.ari rfl rfl rfl (wrap_i64 (by omega))) rfl <| v0 (S0.assign rfl) rfl <| vE <| ?_  -- roundend
      exact ⟨(i + 1, v2, row2), (by first | exact ⟨hlt, by rw [htk, clean_snoc, if_pos h2]; exact hsl2⟩ | (dsimp only; exact ⟨hlt, by rw [htk, clean_snoc, if_pos h2]; exact hsl2⟩)), (show l.length - (i + 1) < l.length - i by omega), ⟨⟨rfl, rfl, rfl, trivial⟩, rfl, rfl⟩, ⟨_, (take1 at0 (take1 at0 take0))⟩⟩
    · skip
      refine WP.skip <| WP.region <| v0 (S0.move rfl) rfl <| v0 (S0.ari rfl rfl rfl (wrap_i64 (by omega))) rfl <| v0 (S0.assign rfl) rfl <| vE <| ?_  -- roundend
      exact ⟨(i + 1, ov, row), (by first | exact ⟨hlt, by rw [htk, clean_snoc, if_neg (by simpa using h2)]; exact hsl⟩ | (dsimp only; exact ⟨hlt, by rw [htk, clean_snoc, if_neg (by simpa using h2)]; exact hsl⟩)), (show l.length - (i + 1) < l.length - i by omega), ⟨⟨rfl, rfl, rfl, trivial⟩, rfl, rfl⟩, ⟨_, (take1 at0 (take1 at0 take0))⟩⟩
  · skip
    have e : i = l.length := by omega
    subst e
    rw [List.take_length] at hsl
    refine WP.exit <| WP.seq <| WP.region <| v0 (S0.move rfl) rfl <| v0 (S0.assign rfl) rfl <| vE <| WP.ret <| ?_  -- ret
    refine r1 rfl rfl ?_
    exact ⟨row, hsl, rfl⟩
theorem rlets_spec {v : Value} {l : List Str} {c : List Blk} {t : Str} (hr : RdS v l c) (hx : ∀ x ∈ l, x.length ≤ 1000) (ht : t.length ≤ 1000) (hl : l.length ≤ 1000) : FN Tryd.prog 20 [v, sv t] [c] (is (.bool (letsS l t)) [c]) := by
  obtain ⟨a, cap, rfl, hcap, hr⟩ := hr
  refine FN.intro 18 [(0, .slice a l.length cap), (1, sv t)] Tryd.func20 rfl (enters Tryd.func20 (by kernel_rfl) rfl) Tryd.ntmps20 rfl rfl ?_
  refine WP.seq <| WP.region <| v0 (S0.assign rfl) rfl <| vE <| WP.seq <| WP.seq <| WP.region <| v0 (S0.assign rfl) rfl <| vE <| WP.block <| ?_  -- Code.loop
  refine WP.loop (fun i : Nat => i ≤ l.length ∧ ∀ j y, j < i → l[j]? = some y → matchS y t = false) (fun i : Nat => [(0, .slice a l.length cap), (1, sv t), (5, .int .i64 (i : Int))]) (fun i : Nat => [c]) (fun i : Nat => l.length - i) (0) (⟨Nat.zero_le _, fun j y hj => by omega⟩) ⟨rfl, rfl, rfl, trivial⟩ ⟨_, (take1 at0 take0)⟩ (fun i hinv => ?_) 
  obtain ⟨hi, hno⟩ := hinv
  refine WP.seq <| WP.seq <| WP.region <| v0 (S0.move rfl) rfl <| v0 (S0.move rfl) rfl <| v0 (S0.lenSl rfl) rfl <| v0 (S0.cmp rfl rfl rfl) rfl <| vE <| ?_  -- cond
  first | refine WP.condP rfl (fun h1 => ?_) (fun h1 => ?_) | refine WP.condN rfl (fun h1 => ?_) (fun h1 => ?_) | refine WP.cond rfl (fun h1 => ?_) (fun h1 => ?_)
  · skip
    have hlt : i < l.length := by omega
    rcases hr with e | ⟨b1, o1, L1, U1, fz1, rfl, hm1, he1⟩
    · rw [e] at hlt; simp at hlt
    have : HasC c b1 (.cells ⟨L1⟩ U1 fz1) := ⟨hm1⟩
    have hg : l[i]? = some l[i] := by simp [hlt]
    have hxl := hx _ (List.getElem_mem hlt)
    generalize l[i] = x at hg hxl
    have hxe := he1 i x hg
    skip
    refine WP.skip <| WP.seq <| WP.block <| WP.seq <| WP.region <| v0 (S0.move rfl) rfl <| v0 (S0.move rfl) rfl <| ?_  -- op t14 := indexAddr 22 t12 t13
    refine v0 (S0.indexO1 rfl rfl hlt) rfl <| ?_
    refine v0 (S0.load rfl (rdS_get hxe)) rfl <| ?_
    refine v0 (S0.move rfl) rfl <| ?_  -- op t17 := call F27{rivulet/rivuletref03.Match}(t15, t16)
    refine vcd (S1.callF rfl (rmatch_spec (show x.length ≤ 800000 by omega) (show t.length ≤ 800000 by omega)) take0) rfl ?_
    refine vE <| ?_  -- cond
    first | refine WP.condP rfl (fun h2 => ?_) (fun h2 => ?_) | refine WP.condN rfl (fun h2 => ?_) (fun h2 => ?_) | refine WP.cond rfl (fun h2 => ?_) (fun h2 => ?_)
    · skip
      refine WP.seq <| WP.region <| v0 (S0.assign rfl) rfl <| vE <| WP.ret <| ?_  -- ret
      refine r1 rfl rfl ⟨?_, rfl⟩
      exact congrArg Value.bool (show letsS l t = true from List.any_eq_true.2 ⟨x, List.mem_of_getElem? hg, h2⟩).symm
    · skip
      refine WP.skip <| WP.region <| v0 (S0.move rfl) rfl <| v0 (S0.ari rfl rfl rfl (wrap_i64 (by omega))) rfl <| v0 (S0.assign rfl) rfl <| vE <| ?_  -- roundend
      exact ⟨i + 1, (by first | exact ⟨hlt, below_at (p := fun _ y => matchS y t = false) hno hg (by simpa using h2)⟩ | (dsimp only; exact ⟨hlt, below_at (p := fun _ y => matchS y t = false) hno hg (by simpa using h2)⟩)), (by omega), ⟨⟨rfl, rfl, rfl, trivial⟩, rfl, rfl⟩, ⟨_, (take1 at0 take0)⟩⟩
  · skip
    refine WP.exit <| WP.seq <| WP.region <| v0 (S0.assign rfl) rfl <| vE <| WP.ret <| ?_  -- ret
    refine r1 rfl rfl ⟨?_, rfl⟩
    exact congrArg Value.bool (show letsS l t = false from any_upto fun j y hj hy => hno j y (by omega) hy).symm
end Go.Proofs.YtnoicafjkgbokaaDoor
