import Derived.Test.YtnoicafjkgbokaaDoorTopic
namespace Go.Proofs.YtnoicafjkgbokaaDoor
open Go

theorem strs_cut (sp : List Value) (R : List Str) (i j cap : Nat) (hij : i ≤ j) (hj : j ≤ R.length) (hc : R.length ≤ cap) :
    ((strs R ++ sp).drop (if cap = i then 0 else 0 + i * 1)).take ((j - i) * 1) = strs ((R.drop i).take (j - i)) ∧ (if cap = i then 0 else 0 + i * 1) + (j - i) * 1 ≤ (strs R ++ sp).length := by
  have := flat_cut (k := 1) (en := fun x : Str => [sv x]) (fun _ => rfl) sp R i j cap hij hj hc
  rw [strs_flat, strs_flat]; exact this
theorem strs_cv (l : List Str) : ∀ v ∈ strs l, cellV v = true := by
  intro v hv
  obtain ⟨x, -, rfl⟩ := List.mem_map.1 hv
  rfl

theorem take_no {s : Str} {a i : Nat} {c : UInt8} (h : (47 : UInt8) ∉ (s.drop a).take (i - a)) (ha : a ≤ i) (hx : s[i]? = some c) (hc : c ≠ 47) : (47 : UInt8) ∉ (s.drop a).take (i + 1 - a) := by
  rw [show i + 1 - a = (i - a) + 1 from by omega, List.take_add_one]
  have e : (s.drop a)[i - a]? = some c := by rw [List.getElem?_drop, show a + (i - a) = i from by omega, hx]
  rw [e]
  simp only [Option.toList, List.mem_append, List.mem_singleton, not_or]
  exact ⟨h, fun e => hc e.symm⟩
theorem split_at {s : Str} {a i : Nat} {c : UInt8} (ha : a ≤ i) (hx : s[i]? = some c) : s.drop a = (s.drop a).take (i - a) ++ c :: s.drop (i + 1) := by
  have e : (s.drop a).drop (i - a) = c :: s.drop (i + 1) := by
    rw [List.drop_drop, show a + (i - a) = i from by omega, drop_cons hx]
  rw [← e, List.take_append_drop]

theorem rlevels_spec {s : Str} (hl : s.length ≤ 1000000) : FN Tryd.prog 42 [sv s] [] (fun v h => ∃ row, IsSl 9 1 v (strs (levels s)) row ∧ h = [row]) := by
  have hll := levels_len s
  refine FN.intro 33 [(0, sv s)] Tryd.func42 rfl (enters Tryd.func42 (by kernel_rfl) rfl) Tryd.ntmps42 rfl rfl ?_
  refine WP.seq <| WP.region <| v0 (S0.assign rfl) rfl <| vE <| WP.seq <| WP.region <| vnv (S1.buildSlice rfl (qs := []) rfl rfl) rfl fun b6 => v0 (S0.assign rfl) rfl <| v0 (S0.assign rfl) rfl <| vE <| WP.seq <| WP.seq <| WP.region <| v0 (S0.assign rfl) rfl <| vE <| WP.block <| ?_  -- Code.loop
  refine WP.loop (fun st : Nat × Nat × List Str × Value × List Blk => st.2.1 ≤ st.1 ∧ st.1 ≤ s.length ∧ levels s = st.2.2.1 ++ levels (s.drop st.2.1) ∧ (47 : UInt8) ∉ (s.drop st.2.1).take (st.1 - st.2.1) ∧ IsSl 9 1 st.2.2.2.1 (strs st.2.2.1) st.2.2.2.2) (fun st : Nat × Nat × List Str × Value × List Blk => [(0, sv s), (3, st.2.2.2.1), (4, .int .i64 (st.2.1 : Int)), (5, .int .i64 (st.1 : Int))]) (fun st : Nat × Nat × List Str × Value × List Blk => [st.2.2.2.2]) (fun st : Nat × Nat × List Str × Value × List Blk => s.length - st.1) ((0, 0, [], _, [(b6, .cells ⟨[]⟩ 9 (0, 0))])) (⟨Nat.le_refl _, Nat.zero_le _, by simp, by simp, IsSl.row (n := 0) (c := 0) (l := []) (sp := []) rfl rfl (Nat.le_refl _)⟩) ⟨rfl, rfl, rfl, rfl, trivial⟩ ⟨_, (take1 at0 take0)⟩ (fun st hinv => ?_) 
  obtain ⟨i, a, out, lv, row⟩ := st
  obtain ⟨hai, hi, hlev, hno, hsl⟩ := hinv
  dsimp only at hai hi hlev hno hsl ⊢
  have hol : out.length ≤ 1000000 := by
    have := congrArg List.length hlev
    have h2 := levels_ne (s.drop a)
    rw [List.length_append] at this
    have h3 : 0 < (levels (s.drop a)).length := List.length_pos_iff.2 h2
    omega
  refine WP.seq <| WP.seq <| WP.region <| v0 (S0.move rfl) rfl <| v0 (S0.move rfl) rfl <| v0 (S0.lenSt rfl) rfl <| v0 (S0.cmp rfl rfl rfl) rfl <| vE <| ?_  -- cond
  first | refine WP.condP rfl (fun h1 => ?_) (fun h1 => ?_) | refine WP.condN rfl (fun h1 => ?_) (fun h1 => ?_) | refine WP.cond rfl (fun h1 => ?_) (fun h1 => ?_)
  · skip
    have hlt : i < s.length := by omega
    have hx : s[i]? = some s[i] := by simp [hlt]
    generalize s[i] = c at hx
    refine WP.skip <| WP.seq <| WP.block <| WP.seq <| WP.region <| v0 (S0.move rfl) rfl <| v0 (S0.move rfl) rfl <| ?_  -- op t15 := index 9 t13 t14
    refine v0 (S0.indexSt rfl rfl hx) rfl <| ?_
    refine v0 (S0.cmp rfl rfl rfl) rfl <| vE <| ?_  -- cond
    first | refine WP.condP rfl (fun h2 => ?_) (fun h2 => ?_) | refine WP.condN rfl (fun h2 => ?_) (fun h2 => ?_) | refine WP.cond rfl (fun h2 => ?_) (fun h2 => ?_)
    · skip
      have hc : c = 47 := by
        have : c.toNat = 47 := by omega
        exact UInt8.toNat_inj.1 this
      subst hc
      refine WP.seq <| WP.region <| v0 (S0.move rfl) rfl <| v0 (S0.move rfl) rfl <| v0 (S0.move rfl) rfl <| v0 (S0.move rfl) rfl <| ?_  -- op t21 := slice 9 t18 t19 t20 none
      refine v0 (S0.sliceSt (i := a) (j := i) rfl rfl rfl ⟨hai, hi⟩) rfl <| ?_
      refine vnv (S1.buildSlice rfl (qs := [(0, _)]) rfl rfl) rfl fun b22 => ?_  -- op t23 := append(t17, t22) :[22, 22]
      refine ve (S1.appendL rfl hsl rfl rfl (atS at0) rfl rfl (by rw [strs_len]; simp; omega)) rfl ?_
      rintro v2 _ ⟨row2, hsl2, rfl⟩
      have hsl3 : IsSl 9 1 v2 (strs (out ++ [(s.drop a).take (i - a)])) row2 := by simpa [strs] using hsl2
      have hlev2 : levels s = (out ++ [(s.drop a).take (i - a)]) ++ levels (s.drop (i + 1)) := by
        have e1 : levels (s.drop a) = (s.drop a).take (i - a) :: levels (s.drop (i + 1)) := by
          conv => lhs; rw [split_at hai hx]
          exact levels_cut _ hno
        rw [hlev, e1]; simp
      refine v0 (S0.assign rfl) rfl <| vE <| WP.region <| v0 (S0.move rfl) rfl <| v0 (S0.ari rfl rfl rfl (wrap_i64 (by omega))) rfl <| v0 (S0.assign rfl) rfl <| vE <| WP.region <| v0 (S0.move rfl) rfl <| v0 (S0.ari rfl rfl rfl (wrap_i64 (by omega))) rfl <| v0 (S0.assign rfl) rfl <| vE <| ?_  -- roundend
      exact ⟨(i + 1, i + 1, out ++ [(s.drop a).take (i - a)], v2, row2), (by first | exact ⟨Nat.le_refl _, hlt, hlev2, by simp, hsl3⟩ | (dsimp only; exact ⟨Nat.le_refl _, hlt, hlev2, by simp, hsl3⟩)), (show s.length - (i + 1) < s.length - i by omega), ⟨⟨rfl, rfl, rfl, rfl, trivial⟩, rfl, rfl⟩, ⟨_, (take1 at0 take0)⟩⟩
    · skip
      refine WP.skip <| WP.region <| v0 (S0.move rfl) rfl <| v0 (S0.ari rfl rfl rfl (wrap_i64 (by omega))) rfl <| v0 (S0.assign rfl) rfl <| vE <| ?_  -- roundend
      have hc : c ≠ 47 := fun e => h2 (by rw [e]; rfl)
      exact ⟨(i + 1, a, out, lv, row), (by first | exact ⟨by omega, hlt, hlev, take_no hno hai hx hc, hsl⟩ | (dsimp only; exact ⟨by omega, hlt, hlev, take_no hno hai hx hc, hsl⟩)), (show s.length - (i + 1) < s.length - i by omega), ⟨⟨rfl, rfl, rfl, rfl, trivial⟩, rfl, rfl⟩, ⟨_, (take1 at0 take0)⟩⟩
  · skip
    have e : i = s.length := by omega
    subst e
    rw [List.take_of_length_le (by simp)] at hno
    rw [levels_none hno] at hlev
    refine WP.exit <| WP.seq <| WP.region <| v0 (S0.move rfl) rfl <| v0 (S0.move rfl) rfl <| v0 (S0.move rfl) rfl <| ?_  -- op t29 := slice 9 t27 t28 none none
    refine v0 (S0.sliceSt (i := a) (j := s.length) rfl rfl rfl ⟨hai, hi⟩) rfl <| ?_
    rw [List.take_of_length_le (show (s.drop a).length ≤ s.length - a by simp)]
    refine vnv (S1.buildSlice rfl (qs := [(0, _)]) rfl rfl) rfl fun b30 => ?_  -- op t31 := append(t26, t30) :[22, 22]
    refine ve (S1.appendL rfl hsl rfl rfl (atS at0) rfl rfl (by rw [strs_len]; simp; omega)) rfl ?_
    rintro v2 _ ⟨row2, hsl2, rfl⟩
    refine v0 (S0.assign rfl) rfl <| vE <| WP.seq <| WP.region <| v0 (S0.move rfl) rfl <| v0 (S0.assign rfl) rfl <| vE <| WP.ret <| ?_  -- ret
    refine Leaves.drop (take1 at0 take0) ?_
    refine r1 rfl rfl ?_
    refine ⟨row2, ?_, rfl⟩
    rw [hlev]
    simpa [strs] using hsl2

theorem rname_spec (s : Str) (hl : s.length ≤ 1000000) : FN Tryd.prog 43 [sv s] [] (is (.bool (nameS s)) []) := by
  refine FN.intro 45 [(0, sv s)] Tryd.func43 rfl (enters Tryd.func43 (by kernel_rfl) rfl) Tryd.ntmps43 rfl rfl ?_
  refine WP.seq <| WP.region <| v0 (S0.assign rfl) rfl <| vE <| WP.seq <| WP.seq <| WP.region <| v0 (S0.assign rfl) rfl <| vE <| WP.block <| ?_  -- Code.loop
  refine WP.loop (fun i : Nat => i ≤ s.length ∧ (s.take i).all (fun c => okN c.toNat) = true) (fun i : Nat => [(0, sv s), (3, .int .i64 (i : Int))]) (fun i : Nat => []) (fun i : Nat => s.length - i) (0) (⟨Nat.zero_le _, by simp⟩) ⟨rfl, rfl, trivial⟩ ⟨_, take0⟩ (fun i hinv => ?_) 
  obtain ⟨hi, hall⟩ := hinv
  refine WP.seq <| WP.seq <| WP.region <| v0 (S0.move rfl) rfl <| v0 (S0.move rfl) rfl <| v0 (S0.lenSt rfl) rfl <| v0 (S0.cmp rfl rfl rfl) rfl <| vE <| ?_  -- cond
  first | refine WP.condP rfl (fun h1 => ?_) (fun h1 => ?_) | refine WP.condN rfl (fun h1 => ?_) (fun h1 => ?_) | refine WP.cond rfl (fun h1 => ?_) (fun h1 => ?_)
  · skip
    have hlt : i < s.length := by omega
    have hx : s[i]? = some s[i] := by simp [hlt]
    generalize s[i] = c at hx
    have hbad : okN (c.toNat : Int) = false → false = nameS s := fun e => by simp [nameS, not_all (q := fun c => okN c.toNat) hx e]
    have hgood : okN (c.toNat : Int) = true → (s.take (i + 1)).all (fun c => okN c.toNat) = true := fun e => all_take_succ hall hx e
    have hb : okN (c.toNat : Int) = ((decide (97 ≤ (c.toNat : Int)) && decide ((c.toNat : Int) ≤ 122)) || (decide (48 ≤ (c.toNat : Int)) && decide ((c.toNat : Int) ≤ 57)) || decide ((c.toNat : Int) = 45) || decide ((c.toNat : Int) = 95)) := rfl
    refine WP.skip <| WP.seq <| WP.block <| WP.seq <| WP.region <| v0 (S0.move rfl) rfl <| v0 (S0.move rfl) rfl <| ?_  -- op t13 := index 9 t11 t12
    refine v0 (S0.indexSt rfl rfl hx) rfl <| ?_
    clear hall hx
    generalize (c.toNat : Int) = n at hbad hgood hb
    refine v0 (S0.assign rfl) rfl <| vE <| WP.seq <| WP.region <| v0 (S0.move rfl) rfl <| v0 (S0.cmp rfl rfl rfl) rfl <| v0 (S0.move rfl) rfl <| ?_
    first | refine csP (t := 16) rfl (fun hq0 => ?_) (fun hq0 => ?_) | refine csN (t := 16) rfl (fun hq0 => ?_) (fun hq0 => ?_) | refine cs (t := 16) rfl (fun hq0 => ?_) (fun hq0 => ?_)
    ·
      refine gT rfl <| v0 (S0.move rfl) rfl <| gT rfl <| v0 (S0.cmp rfl rfl rfl) rfl <| v0 (S0.pickT rfl rfl) rfl <| v0 (S0.move rfl) rfl <| ?_
      first | refine csP (t := 20) rfl (fun hq1 => ?_) (fun hq1 => ?_) | refine csN (t := 20) rfl (fun hq1 => ?_) (fun hq1 => ?_) | refine cs (t := 20) rfl (fun hq1 => ?_) (fun hq1 => ?_)
      ·
        refine gF rfl rfl <| gF rfl rfl <| gF rfl rfl <| gF rfl rfl <| gF rfl rfl <| gF rfl rfl <| v0 (S0.pickT rfl rfl) rfl <| v0 (S0.move rfl) rfl <| gF rfl rfl <| gF rfl rfl <| v0 (S0.pickT rfl rfl) rfl <| v0 (S0.move rfl) rfl <| gF rfl rfl <| gF rfl rfl <| v0 (S0.pickT rfl rfl) rfl <| v0 (S0.not rfl) rfl <| vE <| WP.condF rfl <| WP.skip <| WP.region <| v0 (S0.move rfl) rfl <| v0 (S0.ari rfl rfl rfl (wrap_i64 (by omega))) rfl <| v0 (S0.assign rfl) rfl <| vE <| ?_
        exact ⟨i + 1, (by first | exact ⟨hlt, hgood (by rw [hb]; simp [*]; try omega)⟩ | (dsimp only; exact ⟨hlt, hgood (by rw [hb]; simp [*]; try omega)⟩)), (by omega), ⟨⟨rfl, rfl, trivial⟩, rfl, rfl⟩, ⟨_, take0⟩⟩
      ·
        refine gT rfl <| v0 (S0.move rfl) rfl <| gT rfl <| v0 (S0.cmp rfl rfl rfl) rfl <| gT rfl <| v0 (S0.move rfl) rfl <| ?_
        first | refine csP (t := 23) rfl (fun hq2 => ?_) (fun hq2 => ?_) | refine csN (t := 23) rfl (fun hq2 => ?_) (fun hq2 => ?_) | refine cs (t := 23) rfl (fun hq2 => ?_) (fun hq2 => ?_)
        ·
          refine gT rfl <| v0 (S0.move rfl) rfl <| gT rfl <| v0 (S0.cmp rfl rfl rfl) rfl <| gT rfl <| v0 (S0.pickT rfl rfl) rfl <| v0 (S0.pickF rfl rfl) rfl <| v0 (S0.move rfl) rfl <| ?_
          first | refine csP (t := 28) rfl (fun hq3 => ?_) (fun hq3 => ?_) | refine csN (t := 28) rfl (fun hq3 => ?_) (fun hq3 => ?_) | refine cs (t := 28) rfl (fun hq3 => ?_) (fun hq3 => ?_)
          ·
            refine gF rfl rfl <| gF rfl rfl <| v0 (S0.pickT rfl rfl) rfl <| v0 (S0.move rfl) rfl <| gF rfl rfl <| gF rfl rfl <| v0 (S0.pickT rfl rfl) rfl <| v0 (S0.not rfl) rfl <| vE <| WP.condF rfl <| WP.skip <| WP.region <| v0 (S0.move rfl) rfl <| v0 (S0.ari rfl rfl rfl (wrap_i64 (by omega))) rfl <| v0 (S0.assign rfl) rfl <| vE <| ?_
            exact ⟨i + 1, (by first | exact ⟨hlt, hgood (by rw [hb]; simp [*]; try omega)⟩ | (dsimp only; exact ⟨hlt, hgood (by rw [hb]; simp [*]; try omega)⟩)), (by omega), ⟨⟨rfl, rfl, trivial⟩, rfl, rfl⟩, ⟨_, take0⟩⟩
          ·
            refine gT rfl <| v0 (S0.move rfl) rfl <| gT rfl <| v0 (S0.cmp rfl rfl rfl) rfl <| v0 (S0.pickF rfl rfl) rfl <| v0 (S0.move rfl) rfl <| ?_
            first | refine csP (t := 32) rfl (fun hq4 => ?_) (fun hq4 => ?_) | refine csN (t := 32) rfl (fun hq4 => ?_) (fun hq4 => ?_) | refine cs (t := 32) rfl (fun hq4 => ?_) (fun hq4 => ?_)
            ·
              refine gF rfl rfl <| gF rfl rfl <| v0 (S0.pickT rfl rfl) rfl <| v0 (S0.not rfl) rfl <| vE <| WP.condF rfl <| WP.skip <| WP.region <| v0 (S0.move rfl) rfl <| v0 (S0.ari rfl rfl rfl (wrap_i64 (by omega))) rfl <| v0 (S0.assign rfl) rfl <| vE <| ?_
              exact ⟨i + 1, (by first | exact ⟨hlt, hgood (by rw [hb]; simp [*]; try omega)⟩ | (dsimp only; exact ⟨hlt, hgood (by rw [hb]; simp [*]; try omega)⟩)), (by omega), ⟨⟨rfl, rfl, trivial⟩, rfl, rfl⟩, ⟨_, take0⟩⟩
            ·
              refine gT rfl <| v0 (S0.move rfl) rfl <| gT rfl <| v0 (S0.cmp rfl rfl rfl) rfl <| v0 (S0.pickF rfl rfl) rfl <| v0 (S0.not rfl) rfl <| vE <| ?_
              first | refine WP.condP rfl (fun hq5 => ?_) (fun hq5 => ?_) | refine WP.condN rfl (fun hq5 => ?_) (fun hq5 => ?_) | refine WP.cond rfl (fun hq5 => ?_) (fun hq5 => ?_)
              ·
                refine WP.seq <| WP.region <| v0 (S0.assign rfl) rfl <| vE <| WP.ret <| ?_
                refine r1 rfl rfl ⟨?_, rfl⟩
                exact congrArg Value.bool (hbad (by rw [hb]; simp [*]; try omega))
              ·
                refine WP.skip <| WP.region <| v0 (S0.move rfl) rfl <| v0 (S0.ari rfl rfl rfl (wrap_i64 (by omega))) rfl <| v0 (S0.assign rfl) rfl <| vE <| ?_
                exact ⟨i + 1, (by first | exact ⟨hlt, hgood (by rw [hb]; simp [*]; try omega)⟩ | (dsimp only; exact ⟨hlt, hgood (by rw [hb]; simp [*]; try omega)⟩)), (by omega), ⟨⟨rfl, rfl, trivial⟩, rfl, rfl⟩, ⟨_, take0⟩⟩
        ·
          refine gF rfl rfl <| gF rfl rfl <| gT rfl <| v0 (S0.pickF rfl rfl) rfl <| v0 (S0.pickF rfl rfl) rfl <| v0 (S0.move rfl) rfl <| gT rfl <| v0 (S0.move rfl) rfl <| gT rfl <| v0 (S0.cmp rfl rfl rfl) rfl <| v0 (S0.pickF rfl rfl) rfl <| v0 (S0.move rfl) rfl <| ?_
          first | refine csP (t := 32) rfl (fun hq3 => ?_) (fun hq3 => ?_) | refine csN (t := 32) rfl (fun hq3 => ?_) (fun hq3 => ?_) | refine cs (t := 32) rfl (fun hq3 => ?_) (fun hq3 => ?_)
          ·
            refine gF rfl rfl <| gF rfl rfl <| v0 (S0.pickT rfl rfl) rfl <| v0 (S0.not rfl) rfl <| vE <| WP.condF rfl <| WP.skip <| WP.region <| v0 (S0.move rfl) rfl <| v0 (S0.ari rfl rfl rfl (wrap_i64 (by omega))) rfl <| v0 (S0.assign rfl) rfl <| vE <| ?_
            exact ⟨i + 1, (by first | exact ⟨hlt, hgood (by rw [hb]; simp [*]; try omega)⟩ | (dsimp only; exact ⟨hlt, hgood (by rw [hb]; simp [*]; try omega)⟩)), (by omega), ⟨⟨rfl, rfl, trivial⟩, rfl, rfl⟩, ⟨_, take0⟩⟩
          ·
            refine gT rfl <| v0 (S0.move rfl) rfl <| gT rfl <| v0 (S0.cmp rfl rfl rfl) rfl <| v0 (S0.pickF rfl rfl) rfl <| v0 (S0.not rfl) rfl <| vE <| ?_
            first | refine WP.condP rfl (fun hq4 => ?_) (fun hq4 => ?_) | refine WP.condN rfl (fun hq4 => ?_) (fun hq4 => ?_) | refine WP.cond rfl (fun hq4 => ?_) (fun hq4 => ?_)
            ·
              refine WP.seq <| WP.region <| v0 (S0.assign rfl) rfl <| vE <| WP.ret <| ?_
              refine r1 rfl rfl ⟨?_, rfl⟩
              exact congrArg Value.bool (hbad (by rw [hb]; simp [*]; try omega))
            ·
              refine WP.skip <| WP.region <| v0 (S0.move rfl) rfl <| v0 (S0.ari rfl rfl rfl (wrap_i64 (by omega))) rfl <| v0 (S0.assign rfl) rfl <| vE <| ?_
              exact ⟨i + 1, (by first | exact ⟨hlt, hgood (by rw [hb]; simp [*]; try omega)⟩ | (dsimp only; exact ⟨hlt, hgood (by rw [hb]; simp [*]; try omega)⟩)), (by omega), ⟨⟨rfl, rfl, trivial⟩, rfl, rfl⟩, ⟨_, take0⟩⟩
    ·
      refine gF rfl rfl <| gF rfl rfl <| v0 (S0.pickF rfl rfl) rfl <| v0 (S0.move rfl) rfl <| gT rfl <| v0 (S0.move rfl) rfl <| gT rfl <| v0 (S0.cmp rfl rfl rfl) rfl <| gT rfl <| v0 (S0.move rfl) rfl <| ?_
      first | refine csP (t := 23) rfl (fun hq1 => ?_) (fun hq1 => ?_) | refine csN (t := 23) rfl (fun hq1 => ?_) (fun hq1 => ?_) | refine cs (t := 23) rfl (fun hq1 => ?_) (fun hq1 => ?_)
      ·
        refine gT rfl <| v0 (S0.move rfl) rfl <| gT rfl <| v0 (S0.cmp rfl rfl rfl) rfl <| gT rfl <| v0 (S0.pickT rfl rfl) rfl <| v0 (S0.pickF rfl rfl) rfl <| v0 (S0.move rfl) rfl <| ?_
        first | refine csP (t := 28) rfl (fun hq2 => ?_) (fun hq2 => ?_) | refine csN (t := 28) rfl (fun hq2 => ?_) (fun hq2 => ?_) | refine cs (t := 28) rfl (fun hq2 => ?_) (fun hq2 => ?_)
        ·
          refine gF rfl rfl <| gF rfl rfl <| v0 (S0.pickT rfl rfl) rfl <| v0 (S0.move rfl) rfl <| gF rfl rfl <| gF rfl rfl <| v0 (S0.pickT rfl rfl) rfl <| v0 (S0.not rfl) rfl <| vE <| WP.condF rfl <| WP.skip <| WP.region <| v0 (S0.move rfl) rfl <| v0 (S0.ari rfl rfl rfl (wrap_i64 (by omega))) rfl <| v0 (S0.assign rfl) rfl <| vE <| ?_
          exact ⟨i + 1, (by first | exact ⟨hlt, hgood (by rw [hb]; simp [*]; try omega)⟩ | (dsimp only; exact ⟨hlt, hgood (by rw [hb]; simp [*]; try omega)⟩)), (by omega), ⟨⟨rfl, rfl, trivial⟩, rfl, rfl⟩, ⟨_, take0⟩⟩
        ·
          refine gT rfl <| v0 (S0.move rfl) rfl <| gT rfl <| v0 (S0.cmp rfl rfl rfl) rfl <| v0 (S0.pickF rfl rfl) rfl <| v0 (S0.move rfl) rfl <| ?_
          first | refine csP (t := 32) rfl (fun hq3 => ?_) (fun hq3 => ?_) | refine csN (t := 32) rfl (fun hq3 => ?_) (fun hq3 => ?_) | refine cs (t := 32) rfl (fun hq3 => ?_) (fun hq3 => ?_)
          ·
            refine gF rfl rfl <| gF rfl rfl <| v0 (S0.pickT rfl rfl) rfl <| v0 (S0.not rfl) rfl <| vE <| WP.condF rfl <| WP.skip <| WP.region <| v0 (S0.move rfl) rfl <| v0 (S0.ari rfl rfl rfl (wrap_i64 (by omega))) rfl <| v0 (S0.assign rfl) rfl <| vE <| ?_
            exact ⟨i + 1, (by first | exact ⟨hlt, hgood (by rw [hb]; simp [*]; try omega)⟩ | (dsimp only; exact ⟨hlt, hgood (by rw [hb]; simp [*]; try omega)⟩)), (by omega), ⟨⟨rfl, rfl, trivial⟩, rfl, rfl⟩, ⟨_, take0⟩⟩
          ·
            refine gT rfl <| v0 (S0.move rfl) rfl <| gT rfl <| v0 (S0.cmp rfl rfl rfl) rfl <| v0 (S0.pickF rfl rfl) rfl <| v0 (S0.not rfl) rfl <| vE <| ?_
            first | refine WP.condP rfl (fun hq4 => ?_) (fun hq4 => ?_) | refine WP.condN rfl (fun hq4 => ?_) (fun hq4 => ?_) | refine WP.cond rfl (fun hq4 => ?_) (fun hq4 => ?_)
            ·
              refine WP.seq <| WP.region <| v0 (S0.assign rfl) rfl <| vE <| WP.ret <| ?_
              refine r1 rfl rfl ⟨?_, rfl⟩
              exact congrArg Value.bool (hbad (by rw [hb]; simp [*]; try omega))
            ·
              refine WP.skip <| WP.region <| v0 (S0.move rfl) rfl <| v0 (S0.ari rfl rfl rfl (wrap_i64 (by omega))) rfl <| v0 (S0.assign rfl) rfl <| vE <| ?_
              exact ⟨i + 1, (by first | exact ⟨hlt, hgood (by rw [hb]; simp [*]; try omega)⟩ | (dsimp only; exact ⟨hlt, hgood (by rw [hb]; simp [*]; try omega)⟩)), (by omega), ⟨⟨rfl, rfl, trivial⟩, rfl, rfl⟩, ⟨_, take0⟩⟩
      ·
        refine gF rfl rfl <| gF rfl rfl <| gT rfl <| v0 (S0.pickF rfl rfl) rfl <| v0 (S0.pickF rfl rfl) rfl <| v0 (S0.move rfl) rfl <| gT rfl <| v0 (S0.move rfl) rfl <| gT rfl <| v0 (S0.cmp rfl rfl rfl) rfl <| v0 (S0.pickF rfl rfl) rfl <| v0 (S0.move rfl) rfl <| ?_
        first | refine csP (t := 32) rfl (fun hq2 => ?_) (fun hq2 => ?_) | refine csN (t := 32) rfl (fun hq2 => ?_) (fun hq2 => ?_) | refine cs (t := 32) rfl (fun hq2 => ?_) (fun hq2 => ?_)
        ·
          refine gF rfl rfl <| gF rfl rfl <| v0 (S0.pickT rfl rfl) rfl <| v0 (S0.not rfl) rfl <| vE <| WP.condF rfl <| WP.skip <| WP.region <| v0 (S0.move rfl) rfl <| v0 (S0.ari rfl rfl rfl (wrap_i64 (by omega))) rfl <| v0 (S0.assign rfl) rfl <| vE <| ?_
          exact ⟨i + 1, (by first | exact ⟨hlt, hgood (by rw [hb]; simp [*]; try omega)⟩ | (dsimp only; exact ⟨hlt, hgood (by rw [hb]; simp [*]; try omega)⟩)), (by omega), ⟨⟨rfl, rfl, trivial⟩, rfl, rfl⟩, ⟨_, take0⟩⟩
        ·
          refine gT rfl <| v0 (S0.move rfl) rfl <| gT rfl <| v0 (S0.cmp rfl rfl rfl) rfl <| v0 (S0.pickF rfl rfl) rfl <| v0 (S0.not rfl) rfl <| vE <| ?_
          first | refine WP.condP rfl (fun hq3 => ?_) (fun hq3 => ?_) | refine WP.condN rfl (fun hq3 => ?_) (fun hq3 => ?_) | refine WP.cond rfl (fun hq3 => ?_) (fun hq3 => ?_)
          ·
            refine WP.seq <| WP.region <| v0 (S0.assign rfl) rfl <| vE <| WP.ret <| ?_
            refine r1 rfl rfl ⟨?_, rfl⟩
            exact congrArg Value.bool (hbad (by rw [hb]; simp [*]; try omega))
          ·
            refine WP.skip <| WP.region <| v0 (S0.move rfl) rfl <| v0 (S0.ari rfl rfl rfl (wrap_i64 (by omega))) rfl <| v0 (S0.assign rfl) rfl <| vE <| ?_
            exact ⟨i + 1, (by first | exact ⟨hlt, hgood (by rw [hb]; simp [*]; try omega)⟩ | (dsimp only; exact ⟨hlt, hgood (by rw [hb]; simp [*]; try omega)⟩)), (by omega), ⟨⟨rfl, rfl, trivial⟩, rfl, rfl⟩, ⟨_, take0⟩⟩
  · skip
    have e : i = s.length := by omega
    subst e
    rw [List.take_length] at hall
    refine WP.exit <| WP.seq <| WP.region <| v0 (S0.move rfl) rfl <| v0 (S0.lenSt rfl) rfl <| v0 (S0.cmp rfl rfl rfl) rfl <| v0 (S0.move rfl) rfl <| ?_
    first | refine csP (t := 40) rfl (fun hq0 => ?_) (fun hq0 => ?_) | refine csN (t := 40) rfl (fun hq0 => ?_) (fun hq0 => ?_) | refine cs (t := 40) rfl (fun hq0 => ?_) (fun hq0 => ?_)
    ·
      refine gT rfl <| v0 (S0.move rfl) rfl <| gT rfl <| v0 (S0.lenSt rfl) rfl <| gT rfl <| v0 (S0.cmp rfl rfl rfl) rfl <| v0 (S0.pickT rfl rfl) rfl <| v0 (S0.assign rfl) rfl <| vE <| WP.ret <| ?_
      refine r1 rfl rfl ⟨?_, rfl⟩
      exact congrArg Value.bool (by rw [Bool.eq_iff_iff]; simp [nameS, hall, ← List.length_pos_iff]; try omega)
    ·
      refine gF rfl rfl <| gF rfl rfl <| gF rfl rfl <| v0 (S0.pickF rfl rfl) rfl <| v0 (S0.assign rfl) rfl <| vE <| WP.ret <| ?_
      refine r1 rfl rfl ⟨?_, rfl⟩
      exact congrArg Value.bool (by rw [Bool.eq_iff_iff]; simp [nameS, hall, ← List.length_pos_iff]; try omega)

theorem levels_mem_len : ∀ (s : Str) (x : Str), x ∈ levels s → x.length ≤ s.length
  | [], x, h => by simp [levels] at h; simp [h]
  | c :: s, x, h => by
    simp only [levels] at h
    split at h
    · rcases List.mem_cons.1 h with rfl | h
      · simp
      · have := levels_mem_len s x h; simp; omega
    · split at h
      · simp at h; simp [h]
      · rename_i l ls e
        rcases List.mem_cons.1 h with rfl | h
        · have := levels_mem_len s l (by rw [e]; simp); simp; omega
        · have := levels_mem_len s x (by rw [e]; simp [h]); simp; omega
theorem rright_spec {s : Str} (hl : s.length ≤ 900000) : FN Tryd.prog 28 [sv s] [] (is (.bool (rightS s)) []) := by
  have hll := levels_len s
  have hlm : ∀ x ∈ levels s, x.length ≤ 1000000 := fun x hx => by have := levels_mem_len s x hx; omega
  refine FN.intro 22 [(0, sv s)] Tryd.func28 rfl (enters Tryd.func28 (by kernel_rfl) rfl) Tryd.ntmps28 rfl rfl ?_
  refine WP.seq <| WP.region <| v0 (S0.assign rfl) rfl <| vE <| WP.seq <| WP.region <| v0 (S0.move rfl) rfl <| ?_  -- op t6 := call F42{rivulet/rivuletref03.Levels}(t5)
  refine vc (S1.callF rfl (rlevels_spec (by omega)) take0) rfl ?_
  rintro _ _ ⟨row, hsl, rfl⟩
  refine app ?_
  obtain ⟨a, cap, rfl, -, hrow⟩ := hsl.strsE
  refine v0 (S0.assign rfl) rfl <| vE <| WP.seq <| WP.seq <| WP.region <| v0 (S0.assign rfl) rfl <| vE <| WP.block <| ?_  -- Code.loop
  refine WP.loop (fun i : Nat => i ≤ (levels s).length ∧ ((levels s).take i).all nameS = true) (fun i : Nat => [(3, .slice a (levels s).length cap), (4, .int .i64 (i : Int))]) (fun i : Nat => [row]) (fun i : Nat => (levels s).length - i) (0) (⟨Nat.zero_le _, by simp⟩) ⟨rfl, rfl, trivial⟩ ⟨_, (take1 at0 take0)⟩ (fun i hinv => ?_) 
  obtain ⟨hi, hall⟩ := hinv
  refine WP.seq <| WP.seq <| WP.region <| v0 (S0.move rfl) rfl <| v0 (S0.move rfl) rfl <| v0 (S0.lenSl rfl) rfl <| v0 (S0.cmp rfl rfl rfl) rfl <| vE <| ?_  -- cond
  first | refine WP.condP rfl (fun h1 => ?_) (fun h1 => ?_) | refine WP.condN rfl (fun h1 => ?_) (fun h1 => ?_) | refine WP.cond rfl (fun h1 => ?_) (fun h1 => ?_)
  · skip
    have hlt : i < (levels s).length := by omega
    rcases hrow with ⟨e, -⟩ | ⟨b1, sp1, rfl, rfl, hsp1⟩
    · rw [e] at hlt; simp at hlt
    have hx : (levels s)[i]? = some (levels s)[i] := by simp [hlt]
    have hxm := hlm _ (List.getElem_mem hlt)
    generalize (levels s)[i] = x at hx hxm
    refine WP.skip <| WP.seq <| WP.block <| WP.seq <| WP.region <| v0 (S0.move rfl) rfl <| v0 (S0.move rfl) rfl <| ?_  -- op t15 := indexAddr 22 t13 t14
    refine v0 (S0.index1 rfl rfl hlt) rfl <| ?_
    refine v0 (S0.load rfl (strs_get hx)) rfl <| ?_
    -- (nothing to walk: op t17 := call F43{rivulet/rivuletref03.Name}(t16))
    refine vcd (S1.callF rfl (rname_spec x hxm) take0) rfl ?_
    refine v0 (S0.not rfl) rfl <| vE <| ?_  -- cond
    first | refine WP.condP rfl (fun h2 => ?_) (fun h2 => ?_) | refine WP.condN rfl (fun h2 => ?_) (fun h2 => ?_) | refine WP.cond rfl (fun h2 => ?_) (fun h2 => ?_)
    · skip
      refine WP.seq <| WP.region <| v0 (S0.assign rfl) rfl <| vE <| WP.ret <| ?_  -- ret
      refine Leaves.drop take0 ?_
      refine r1 rfl rfl ⟨?_, rfl⟩
      have h2' : nameS x = false := by simpa using h2
      have : (levels s).all nameS = false := by
        rw [List.all_eq_false]
        obtain ⟨hlt', e⟩ := List.getElem?_eq_some_iff.1 hx
        exact ⟨x, by rw [← e]; exact List.getElem_mem hlt', by simp [h2']⟩
      simp [rightS, this]
    · skip
      have h2' : nameS x = true := by simpa using h2
      refine WP.skip <| WP.region <| v0 (S0.move rfl) rfl <| v0 (S0.ari rfl rfl rfl (wrap_i64 (by omega))) rfl <| v0 (S0.assign rfl) rfl <| vE <| ?_  -- roundend
      exact ⟨i + 1, (by first | exact ⟨hlt, by rw [List.take_add_one, hx, List.all_append, hall]; simp [h2']⟩ | (dsimp only; exact ⟨hlt, by rw [List.take_add_one, hx, List.all_append, hall]; simp [h2']⟩)), (by omega), ⟨⟨rfl, rfl, trivial⟩, rfl, rfl⟩, ⟨_, (take1 at0 take0)⟩⟩
  · skip
    have e : i = (levels s).length := by omega
    subst e
    rw [List.take_length] at hall
    refine WP.exit <| WP.seq <| WP.region <| v0 (S0.move rfl) rfl <| v0 (S0.lenSl rfl) rfl <| v0 (S0.cmp rfl rfl rfl) rfl <| v0 (S0.assign rfl) rfl <| vE <| WP.ret <| ?_  -- ret
    refine Leaves.drop take0 ?_
    refine r1 rfl rfl ⟨?_, rfl⟩
    rw [rightS, hall, Bool.and_true]
    congr 1; rw [decide_eq_decide]; omega
theorem rfilter_spec {s : Str} (hl : s.length ≤ 900000) : FN Tryd.prog 23 [sv s] [] (is (.bool (filtS s)) []) := by
  have hll := levels_len s
  have hlm : ∀ x ∈ levels s, x.length ≤ 1000000 := fun x hx => by have := levels_mem_len s x hx; omega
  refine FN.intro 43 [(0, sv s)] Tryd.func23 rfl (enters Tryd.func23 (by kernel_rfl) rfl) Tryd.ntmps23 rfl rfl ?_
  refine WP.seq <| WP.region <| v0 (S0.assign rfl) rfl <| vE <| WP.seq <| WP.region <| v0 (S0.move rfl) rfl <| ?_  -- op t6 := call F42{rivulet/rivuletref03.Levels}(t5)
  refine vc (S1.callF rfl (rlevels_spec (by omega)) take0) rfl ?_
  rintro _ _ ⟨row, hsl, rfl⟩
  refine app ?_
  obtain ⟨a, cap, rfl, -, hrow⟩ := hsl.strsE
  refine v0 (S0.assign rfl) rfl <| vE <| WP.seq <| WP.seq <| WP.region <| v0 (S0.assign rfl) rfl <| vE <| WP.block <| ?_  -- Code.loop
  refine WP.loop (fun i : Nat => i ≤ (levels s).length ∧ ∀ j y, j < i → (levels s)[j]? = some y → badAt (levels s) j y = false) (fun i : Nat => [(3, .slice a (levels s).length cap), (4, .int .i64 (i : Int))]) (fun i : Nat => [row]) (fun i : Nat => (levels s).length - i) (0) (⟨by omega, fun j y hj => by omega⟩) ⟨rfl, rfl, trivial⟩ ⟨_, (take1 at0 take0)⟩ (fun i hinv => ?_) 
  obtain ⟨hi, hno⟩ := hinv
  refine WP.seq <| WP.seq <| WP.region <| v0 (S0.move rfl) rfl <| v0 (S0.move rfl) rfl <| v0 (S0.lenSl rfl) rfl <| v0 (S0.cmp rfl rfl rfl) rfl <| vE <| ?_  -- cond
  first | refine WP.condP rfl (fun h1 => ?_) (fun h1 => ?_) | refine WP.condN rfl (fun h1 => ?_) (fun h1 => ?_) | refine WP.cond rfl (fun h1 => ?_) (fun h1 => ?_)
  · skip
    have hlt : i < (levels s).length := by omega
    rcases hrow with ⟨e, -⟩ | ⟨b1, sp1, rfl, rfl, hsp1⟩
    · rw [e] at hlt; simp at hlt
    have hx : (levels s)[i]? = some (levels s)[i] := by simp [hlt]
    have hxm := hlm _ (List.getElem_mem hlt)
    generalize (levels s)[i] = x at hx hxm
    have hlast : ((i : Int) < ((levels s).length : Int) - 1) ↔ ¬ i + 1 = (levels s).length := by omega
    have hb : badAt (levels s) i x = (!nameS x && (!decide (x = [43]) && (!decide (x = [35]) || decide ((i : Int) < ((levels s).length : Int) - 1)))) := by simp [badAt, hlast]
    clear hlast
    have hbad : badAt (levels s) i x = true → false = filtS s := fun e => by
      have : ¬ filtL (levels s) = true := fun hf => by have := (filtL_iff _).1 hf i _ hx; rw [e] at this; cases this
      have : filtL (levels s) = false := by simpa using this
      simp [filtS, this]
    have hgood : badAt (levels s) i x = false → ∀ j y, j < i + 1 → (levels s)[j]? = some y → badAt (levels s) j y = false := fun e => below_at (p := fun j y => badAt (levels s) j y = false) hno hx e
    refine WP.skip <| WP.seq <| WP.block <| WP.seq <| WP.region <| v0 (S0.move rfl) rfl <| v0 (S0.move rfl) rfl <| ?_  -- op t15 := indexAddr 22 t13 t14
    refine v0 (S0.index1 rfl rfl hlt) rfl <| ?_
    refine v0 (S0.load rfl (strs_get hx)) rfl <| ?_
    -- (nothing to walk: op t17 := call F43{rivulet/rivuletref03.Name}(t16))
    refine vcd (S1.callF rfl (rname_spec x hxm) take0) rfl ?_
    refine v0 (S0.not rfl) rfl <| v0 (S0.move rfl) rfl <| ?_  -- guard t19 (wants True) at t20 := move t3 [if #6=True]
    first | refine csP (t := 19) rfl (fun h2 => ?_) (fun h2 => ?_) | refine csN (t := 19) rfl (fun h2 => ?_) (fun h2 => ?_) | refine cs (t := 19) rfl (fun h2 => ?_) (fun h2 => ?_)
    · skip
      refine gT rfl <| v0 (S0.move rfl) rfl <| gT rfl <| v0 (S0.move rfl) rfl <| ?_  -- op t22 := indexAddr 22 t20 t21 [if #6=True]
      refine gT rfl <| v0 (S0.index1 rfl rfl hlt) rfl <| ?_
      refine gT rfl <| v0 (S0.load rfl (strs_get hx)) rfl <| ?_
      refine gT rfl <| v0 (S0.cmpS rfl rfl rfl) rfl <| v0 (S0.pickT rfl rfl) rfl <| v0 (S0.move rfl) rfl <| ?_  -- guard t26 (wants True) at t27 := move t3 [if #13=True]
      first | refine csP (t := 26) rfl (fun h3 => ?_) (fun h3 => ?_) | refine csN (t := 26) rfl (fun h3 => ?_) (fun h3 => ?_) | refine cs (t := 26) rfl (fun h3 => ?_) (fun h3 => ?_)
      · skip
        refine gT rfl <| v0 (S0.move rfl) rfl <| gT rfl <| v0 (S0.move rfl) rfl <| ?_  -- op t29 := indexAddr 22 t27 t28 [if #13=True]
        refine gT rfl <| v0 (S0.index1 rfl rfl hlt) rfl <| ?_
        refine gT rfl <| v0 (S0.load rfl (strs_get hx)) rfl <| ?_
        refine gT rfl <| v0 (S0.cmpS rfl rfl rfl) rfl <| gT rfl <| v0 (S0.move rfl) rfl <| ?_  -- guard t32 (wants False) at t33 := move t4 [if #19=False]
        first | refine csP (t := 32) rfl (fun hq0 => ?_) (fun hq0 => ?_) | refine csN (t := 32) rfl (fun hq0 => ?_) (fun hq0 => ?_) | refine cs (t := 32) rfl (fun hq0 => ?_) (fun hq0 => ?_)
        ·
          refine gF rfl rfl <| gF rfl rfl <| gF rfl rfl <| gF rfl rfl <| gF rfl rfl <| gT rfl <| v0 (S0.pickT rfl rfl) rfl <| v0 (S0.pickT rfl rfl) rfl <| vE <| WP.condT rfl <| WP.seq <| WP.region <| v0 (S0.assign rfl) rfl <| vE <| WP.ret <| ?_
          refine Leaves.drop take0 ?_
          refine r1 rfl rfl ⟨?_, rfl⟩
          exact congrArg Value.bool (hbad (by rw [hb]; simp [not_name_rest, *]))
        ·
          refine gT rfl <| v0 (S0.move rfl) rfl <| gT rfl <| v0 (S0.move rfl) rfl <| gT rfl <| v0 (S0.lenSl rfl) rfl <| gT rfl <| v0 (S0.ari rfl rfl rfl (wrap_i64 (by omega))) rfl <| gT rfl <| v0 (S0.cmp rfl rfl rfl) rfl <| gT rfl <| v0 (S0.pickF rfl rfl) rfl <| v0 (S0.pickT rfl rfl) rfl <| vE <| ?_
          first | refine WP.condP rfl (fun hq1 => ?_) (fun hq1 => ?_) | refine WP.condN rfl (fun hq1 => ?_) (fun hq1 => ?_) | refine WP.cond rfl (fun hq1 => ?_) (fun hq1 => ?_)
          ·
            refine WP.seq <| WP.region <| v0 (S0.assign rfl) rfl <| vE <| WP.ret <| ?_
            refine Leaves.drop take0 ?_
            refine r1 rfl rfl ⟨?_, rfl⟩
            exact congrArg Value.bool (hbad (by rw [hb]; simp [not_name_rest, *]))
          ·
            refine WP.skip <| WP.region <| v0 (S0.move rfl) rfl <| v0 (S0.ari rfl rfl rfl (wrap_i64 (by omega))) rfl <| v0 (S0.assign rfl) rfl <| vE <| ?_
            exact ⟨i + 1, (by first | exact ⟨hlt, hgood (by rw [hb]; simp [not_name_rest, *])⟩ | (dsimp only; exact ⟨hlt, hgood (by rw [hb]; simp [not_name_rest, *])⟩)), (by omega), ⟨⟨rfl, rfl, trivial⟩, rfl, rfl⟩, ⟨_, (take1 at0 take0)⟩⟩
      · skip
        refine gF rfl rfl <| gF rfl rfl <| gF rfl rfl <| gF rfl rfl <| gF rfl rfl <| gF rfl rfl <| gF rfl rfl <| gF rfl rfl <| gF rfl rfl <| gF rfl rfl <| gF rfl rfl <| gF rfl rfl <| v0 (S0.pickF rfl rfl) rfl <| vE <| WP.condF rfl <| WP.skip <| WP.region <| v0 (S0.move rfl) rfl <| v0 (S0.ari rfl rfl rfl (wrap_i64 (by omega))) rfl <| v0 (S0.assign rfl) rfl <| vE <| ?_  -- roundend
        exact ⟨i + 1, (by first | exact ⟨hlt, hgood (by rw [hb]; simp [h3])⟩ | (dsimp only; exact ⟨hlt, hgood (by rw [hb]; simp [h3])⟩)), (by omega), ⟨⟨rfl, rfl, trivial⟩, rfl, rfl⟩, ⟨_, (take1 at0 take0)⟩⟩
    · skip
      refine gF rfl rfl <| gF rfl rfl <| gF rfl rfl <| gF rfl rfl <| gF rfl rfl <| v0 (S0.pickF rfl rfl) rfl <| v0 (S0.move rfl) rfl <| gF rfl rfl <| gF rfl rfl <| gF rfl rfl <| gF rfl rfl <| gF rfl rfl <| gF rfl rfl <| gF rfl rfl <| gF rfl rfl <| gF rfl rfl <| gF rfl rfl <| gF rfl rfl <| gF rfl rfl <| v0 (S0.pickF rfl rfl) rfl <| vE <| WP.condF rfl <| WP.skip <| WP.region <| v0 (S0.move rfl) rfl <| v0 (S0.ari rfl rfl rfl (wrap_i64 (by omega))) rfl <| v0 (S0.assign rfl) rfl <| vE <| ?_  -- roundend
      exact ⟨i + 1, (by first | exact ⟨hlt, hgood (by rw [hb]; simp at h2; simp [h2])⟩ | (dsimp only; exact ⟨hlt, hgood (by rw [hb]; simp at h2; simp [h2])⟩)), (by omega), ⟨⟨rfl, rfl, trivial⟩, rfl, rfl⟩, ⟨_, (take1 at0 take0)⟩⟩
  · skip
    have h8 : filtL (levels s) = true := (filtL_iff _).2 fun j y hj => hno j y (by have := (List.getElem?_eq_some_iff.1 hj).1; omega) hj
    refine WP.exit <| WP.seq <| WP.region <| v0 (S0.move rfl) rfl <| v0 (S0.lenSl rfl) rfl <| v0 (S0.cmp rfl rfl rfl) rfl <| v0 (S0.assign rfl) rfl <| vE <| WP.ret <| ?_  -- ret
    refine Leaves.drop take0 ?_
    refine r1 rfl rfl ⟨?_, rfl⟩
    rw [filtS, h8, Bool.and_true]
    congr 1; rw [decide_eq_decide]; omega

theorem rrow_spec {s : Str} {n : Nat} (hl : s.length ≤ 900000) (hn : n ≤ 900000) : FN Tryd.prog 44 [sv s, .int .i64 (n : Int)] [] (fun v h => ∃ rv row, IsSl 9 1 rv (strs (rowL (levels s) n).1) row ∧ v = .tuple ⟨[rv, .bool (rowL (levels s) n).2]⟩ ∧ h = [row]) := by
  have hll := levels_len s
  have hpos : 0 < (levels s).length := List.length_pos_iff.2 (levels_ne s)
  have hk : ((levels s).length : Int) - 1 = (((levels s).length - 1 : Nat) : Int) := by omega
  have hlt : (levels s).length - 1 < (levels s).length := by omega
  obtain ⟨x, hx⟩ : ∃ x, (levels s)[(levels s).length - 1]? = some x := ⟨_, List.getElem?_eq_getElem hlt⟩
  have hlast : (levels s).getLast? = some x := by rw [List.getLast?_eq_getElem?, hx]
  have erow : rowL (levels s) n = if x = [35] then ((levels s).take ((levels s).length - 1) ++ List.replicate (n - ((levels s).length - 1)) [43], decide ((levels s).length - 1 ≤ n)) else (levels s, decide ((levels s).length = n)) := by
    unfold rowL; rw [hlast]
  refine FN.intro 41 [(0, sv s), (1, .int .i64 (n : Int))] Tryd.func44 rfl (enters Tryd.func44 (by kernel_rfl) rfl) Tryd.ntmps44 rfl rfl ?_
  refine WP.seq <| WP.region <| v0 (S0.assign rfl) rfl <| v0 (S0.assign rfl) rfl <| vE <| WP.seq <| WP.region <| v0 (S0.move rfl) rfl <| ?_  -- op t10 := call F42{rivulet/rivuletref03.Levels}(t9)
  refine vc (S1.callF rfl (rlevels_spec (by omega)) take0) rfl ?_
  rintro _ _ ⟨row, hsl, rfl⟩
  refine app ?_
  obtain ⟨a, cap, rfl, hcap, hrow⟩ := hsl.strsE
  rcases hrow with ⟨e, -⟩ | ⟨b1, sp1, rfl, rfl, hsp1⟩
  · exact absurd e (levels_ne s)
  refine v0 (S0.assign rfl) rfl <| vE <| WP.seq <| WP.region <| v0 (S0.move rfl) rfl <| v0 (S0.lenSl rfl) rfl <| v0 (S0.assign rfl) rfl <| vE <| WP.seq <| WP.seq <| WP.region <| v0 (S0.move rfl) rfl <| v0 (S0.move rfl) rfl <| v0 (S0.ari rfl rfl rfl (wrap_i64 (by omega))) rfl <| ?_  -- op t16 := indexAddr 22 t13 t15
  rw [hk]
  refine v0 (S0.index1 rfl rfl hlt) rfl <| ?_
  refine v0 (S0.load rfl (strs_get hx)) rfl <| ?_
  refine v0 (S0.cmpS rfl rfl rfl) rfl <| vE <| ?_  -- cond
  first | refine WP.condP rfl (fun h1 => ?_) (fun h1 => ?_) | refine WP.condN rfl (fun h1 => ?_) (fun h1 => ?_) | refine WP.cond rfl (fun h1 => ?_) (fun h1 => ?_)
  · skip
    refine WP.seq <| WP.region <| v0 (S0.move rfl) rfl <| v0 (S0.move rfl) rfl <| v0 (S0.move rfl) rfl <| v0 (S0.cmp rfl rfl rfl) rfl <| v0 (S0.assign rfl) rfl <| v0 (S0.assign rfl) rfl <| vE <| WP.ret <| ?_  -- ret
    refine r2 rfl rfl rfl ?_
    rw [erow, if_neg h1, show decide (((levels s).length : Int) = (n : Int)) = decide ((levels s).length = n) from decide_eq_decide.2 (by omega)]
    exact ⟨_, _, hsl, rfl, rfl⟩
  · skip
    rw [erow, if_pos h1]
    obtain ⟨hw, hle⟩ := strs_cut sp1 (levels s) 0 ((levels s).length - 1) cap (Nat.zero_le _) (by omega) hcap
    rw [List.drop_zero, Nat.sub_zero] at hw
    have htl : ((levels s).take ((levels s).length - 1)).length = (levels s).length - 1 := by simp
    refine WP.skip <| WP.seq <| WP.region <| vnv (S1.buildSlice rfl (qs := []) rfl rfl) rfl fun b23 => v0 (S0.move rfl) rfl <| v0 (S0.move rfl) rfl <| v0 (S0.ari rfl rfl rfl (wrap_i64 (by omega))) rfl <| ?_  -- op t27 := slice 22 t24 none t26 none
    rw [hk]
    refine v0 (S0.slice (i := 0) (j := (levels s).length - 1) rfl rfl rfl ⟨Nat.zero_le _, by omega⟩) rfl <| ?_
    refine ve (S1.appendS rfl (IsSl.row (n := 0) (c := 0) (l := []) (sp := []) rfl rfl (Nat.le_refl _)) rfl hle hw at0 (strs_cv _) rfl (by rw [strs_len, htl]; simp only [List.length_nil]; omega)) rfl ?_
    rintro v2 _ ⟨row2, hsl2, rfl⟩
    refine v0 (S0.assign rfl) rfl <| vE <| WP.seq <| WP.block <| ?_  -- Code.loop
    refine WP.loop (fun st : Nat × Value × List Blk => st.1 ≤ n - ((levels s).length - 1) ∧ IsSl 9 1 st.2.1 (strs ((levels s).take ((levels s).length - 1) ++ List.replicate st.1 [43])) st.2.2) (fun st : Nat × Value × List Blk => [(1, .int .i64 (n : Int)), (8, st.2.1)]) (fun st : Nat × Value × List Blk => [st.2.2]) (fun st : Nat × Value × List Blk => n - st.1) ((0, v2, row2)) (⟨Nat.zero_le _, by simpa [strs] using hsl2⟩) ⟨rfl, rfl, trivial⟩ ⟨_, (take1 at0 take0)⟩ (fun st hinv => ?_) 
    obtain ⟨j, lv, lrow⟩ := st
    obtain ⟨hj, hsl3⟩ := hinv
    dsimp only at hj hsl3 ⊢
    have hlen : ((levels s).take ((levels s).length - 1) ++ List.replicate j [43]).length = (levels s).length - 1 + j := by simp
    obtain ⟨a3, c3, rfl, -, -⟩ := hsl3.strsE
    rw [hlen] at hsl3 ⊢
    refine WP.seq <| WP.seq <| WP.region <| v0 (S0.move rfl) rfl <| v0 (S0.lenSl rfl) rfl <| v0 (S0.move rfl) rfl <| v0 (S0.cmp rfl rfl rfl) rfl <| vE <| ?_  -- cond
    first | refine WP.condP rfl (fun h2 => ?_) (fun h2 => ?_) | refine WP.condN rfl (fun h2 => ?_) (fun h2 => ?_) | refine WP.cond rfl (fun h2 => ?_) (fun h2 => ?_)
    · skip
      refine WP.skip <| WP.block <| WP.region <| v0 (S0.move rfl) rfl <| vnv (S1.buildSlice rfl (qs := [(0, _)]) rfl rfl) rfl fun b34 => ?_  -- op t35 := append(t33, t34) :[22, 22]
      refine ve (S1.appendL rfl hsl3 rfl rfl (atS at0) rfl rfl (by rw [strs_len, hlen]; simp; omega)) rfl ?_
      rintro v4 _ ⟨row4, hsl4, rfl⟩
      have hsl5 : IsSl 9 1 v4 (strs ((levels s).take ((levels s).length - 1) ++ List.replicate (j + 1) [43])) row4 := by
        rw [List.replicate_succ']
        simpa [strs] using hsl4
      refine v0 (S0.assign rfl) rfl <| vE <| ?_  -- roundend
      exact ⟨(j + 1, v4, row4), (by first | exact ⟨by omega, hsl5⟩ | (dsimp only; exact ⟨by omega, hsl5⟩)), (show n - (j + 1) < n - j by omega), ⟨⟨rfl, rfl, trivial⟩, rfl, rfl⟩, ⟨_, (take1 at0 take0)⟩⟩
    · skip
      have e : j = n - ((levels s).length - 1) := by omega
      refine WP.exit <| WP.seq <| WP.region <| v0 (S0.move rfl) rfl <| v0 (S0.move rfl) rfl <| v0 (S0.lenSl rfl) rfl <| v0 (S0.move rfl) rfl <| v0 (S0.cmp rfl rfl rfl) rfl <| v0 (S0.assign rfl) rfl <| v0 (S0.assign rfl) rfl <| vE <| WP.ret <| ?_  -- ret
      refine r2 rfl rfl rfl ?_
      rw [show decide ((((levels s).length - 1 + j : Nat) : Int) = (n : Int)) = decide ((levels s).length - 1 ≤ n) from decide_eq_decide.2 (by omega)]
      exact ⟨_, _, by rw [← e]; exact hsl3, rfl, rfl⟩
theorem rowOk_take : ∀ (f t : List Str) (i : Nat) (x y : Str), f[i]? = some x → t[i]? = some y → (decide (x = [43]) || decide (x = y)) = false → rowOk f t = false
  | [], _, i, x, y, h, _, _ => by simp at h
  | _ :: _, [], i, x, y, _, h, _ => by simp at h
  | a :: f, b :: t, 0, x, y, h1, h2, h3 => by
    simp at h1 h2; subst h1 h2
    simp only [rowOk, h3, Bool.false_and]
  | a :: f, b :: t, i + 1, x, y, h1, h2, h3 => by
    simp only [rowOk, rowOk_take f t i x y (by simpa using h1) (by simpa using h2) h3, Bool.and_false]
theorem rowOk_all : ∀ (f t : List Str), (∀ (i : Nat) (x y : Str), f[i]? = some x → t[i]? = some y → (decide (x = [43]) || decide (x = y)) = true) → rowOk f t = true
  | [], _, _ => by simp [rowOk]
  | _ :: _, [], _ => by simp [rowOk]
  | a :: f, b :: t, h => by
    have h0 := h 0 a b rfl rfl
    simp only [rowOk, h0, Bool.true_and]
    exact rowOk_all f t fun i x y hx hy => h (i + 1) x y (by simpa using hx) (by simpa using hy)
theorem rmatch_spec {f t : Str} (hf : f.length ≤ 800000) (ht : t.length ≤ 800000) : FN Tryd.prog 27 [sv f, sv t] [] (is (.bool (matchS f t)) []) := by
  refine FN.intro 52 [(0, sv f), (1, sv t)] Tryd.func27 rfl (enters Tryd.func27 (by kernel_rfl) rfl) Tryd.ntmps27 rfl rfl ?_
  refine WP.seq <| WP.region <| v0 (S0.assign rfl) rfl <| vE <| WP.seq <| WP.seq <| WP.region <| v0 (S0.move rfl) rfl <| ?_  -- op t10 := call F23{rivulet/rivuletref03.Filter}(t9)
  refine vcd (S1.callF rfl (rfilter_spec (show f.length ≤ 900000 by omega)) take0) rfl ?_
  refine v0 (S0.not rfl) rfl <| v0 (S0.move rfl) rfl <| ?_  -- guard t12 (wants False) at t13 := move t1 [if #3=False]
  first | refine csP (t := 12) rfl (fun hF => ?_) (fun hF => ?_) | refine csN (t := 12) rfl (fun hF => ?_) (fun hF => ?_) | refine cs (t := 12) rfl (fun hF => ?_) (fun hF => ?_)
  · skip
    refine gF rfl rfl <| gF rfl rfl <| gF rfl rfl <| v0 (S0.pickT rfl rfl) rfl <| vE <| WP.condT rfl <| WP.seq <| WP.region <| v0 (S0.assign rfl) rfl <| vE <| WP.ret <| ?_  -- ret
    refine r1 rfl rfl ⟨?_, rfl⟩
    have : filtS f = false := by simpa using hF
    simp [matchS, this]
  · skip
    have hF : filtS f = true := by simpa using hF
    refine gT rfl <| v0 (S0.move rfl) rfl <| ?_  -- op t14 := call F28{rivulet/rivuletref03.Right}(t13) [if #3=False]
    refine gT rfl <| vcd (S1.callF rfl (rright_spec (show t.length ≤ 900000 by omega)) take0) rfl ?_
    refine gT rfl <| v0 (S0.not rfl) rfl <| v0 (S0.pickF rfl rfl) rfl <| vE <| ?_  -- cond
    first | refine WP.condP rfl (fun hR => ?_) (fun hR => ?_) | refine WP.condN rfl (fun hR => ?_) (fun hR => ?_) | refine WP.cond rfl (fun hR => ?_) (fun hR => ?_)
    · skip
      refine WP.seq <| WP.region <| v0 (S0.assign rfl) rfl <| vE <| WP.ret <| ?_  -- ret
      refine r1 rfl rfl ⟨?_, rfl⟩
      have : rightS t = false := by simpa using hR
      simp [matchS, this]
    · skip
      have hR : rightS t = true := by simpa using hR
      have htl := levels_len t
      have hFl : filtL (levels f) = true := by simp [filtS] at hF; exact hF.2
      have em : matchS f t = ((rowL (levels f) (levels t).length).2 && rowOk (rowL (levels f) (levels t).length).1 (levels t)) := by
        rw [matchS, hF, hR, matchL_row _ _ hFl (levels_ne f)]; rfl
      have hrl := rowL_len (l := levels f) (n := (levels t).length)
      rw [em]
      refine WP.skip <| WP.seq <| WP.region <| v0 (S0.move rfl) rfl <| ?_  -- op t18 := call F42{rivulet/rivuletref03.Levels}(t17)
      refine vc (S1.callF rfl (rlevels_spec (by omega)) take0) rfl ?_
      rintro _ _ ⟨rt, hst, rfl⟩
      refine app ?_
      obtain ⟨at', ct, rfl, -, hrt⟩ := hst.strsE
      refine v0 (S0.assign rfl) rfl <| vE <| WP.seq <| WP.region <| v0 (S0.move rfl) rfl <| v0 (S0.move rfl) rfl <| v0 (S0.lenSl rfl) rfl <| ?_  -- op t23 := call F44{rivulet/rivuletref03.Row}(t20, t22)
      refine vc (S1.callF rfl (rrow_spec (n := (levels t).length) (show f.length ≤ 900000 by omega) (by omega)) take0) rfl ?_
      rintro _ _ ⟨rv, rf, hsf, rfl, rfl⟩
      refine app ?_
      generalize (rowL (levels f) (levels t).length).2 = q at hrl
      generalize (rowL (levels f) (levels t).length).1 = F at hrl hsf
      obtain ⟨af, cf, rfl, -, hrf⟩ := hsf.strsE
      refine v0 (S0.move rfl) rfl <| v0 (S0.extract rfl rfl) rfl <| v0 (S0.extract rfl rfl) rfl <| v0 (S0.assign rfl) rfl <| v0 (S0.assign rfl) rfl <| vE <| WP.seq <| WP.seq <| WP.region <| v0 (S0.assign rfl) rfl <| vE <| WP.block <| ?_  -- Code.loop
      refine WP.loop (fun st : Nat × Bool => st.1 ≤ (levels t).length ∧ (st.2 = true → q = true ∧ ∀ j x y, j < st.1 → F[j]? = some x → (levels t)[j]? = some y → (decide (x = [43]) || decide (x = y)) = true) ∧ (st.2 = false → (q && rowOk F (levels t)) = false)) (fun st : Nat × Bool => [(5, .slice at' (levels t).length ct), (6, .slice af F.length cf), (7, .bool st.2), (8, .int .i64 (st.1 : Int))]) (fun st : Nat × Bool => [rf, rt]) (fun st : Nat × Bool => (levels t).length - st.1) ((0, q)) (⟨Nat.zero_le _, fun e => ⟨e, fun j x y hj => by omega⟩, fun e => by simp at e; simp [e]⟩) ⟨rfl, rfl, rfl, rfl, trivial⟩ ⟨_, (take1 at0 (take1 at0 take0))⟩ (fun st hinv => ?_) 
      obtain ⟨i, is⟩ := st
      obtain ⟨hi, htr, hfa⟩ := hinv
      dsimp only at hi htr hfa ⊢
      refine WP.seq <| WP.seq <| WP.region <| v0 (S0.move rfl) rfl <| v0 (S0.move rfl) rfl <| v0 (S0.lenSl rfl) rfl <| v0 (S0.cmp rfl rfl rfl) rfl <| v0 (S0.move rfl) rfl <| ?_  -- guard t30 (wants True) at t31 := move t7 [if #4=True]
      first | refine csP (t := 30) rfl (fun h1 => ?_) (fun h1 => ?_) | refine csN (t := 30) rfl (fun h1 => ?_) (fun h1 => ?_) | refine cs (t := 30) rfl (fun h1 => ?_) (fun h1 => ?_)
      · skip
        refine gT rfl <| v0 (S0.move rfl) rfl <| v0 (S0.pickT rfl rfl) rfl <| vE <| ?_  -- cond
        skip
        cases is with
        | true =>
          skip
          obtain ⟨rfl, hok⟩ := htr rfl
          have hFl := hrl rfl
          have hlt : i < (levels t).length := by omega
          have hlt2 : i < F.length := by omega
          rcases hrf with ⟨e, -⟩ | ⟨b1, sp1, rfl, rfl, hsp1⟩
          · rw [e] at hlt2; simp at hlt2
          rcases hrt with ⟨e, -⟩ | ⟨b2, sp2, rfl, rfl, hsp2⟩
          · rw [e] at hlt; simp at hlt
          have hx : F[i]? = some F[i] := by simp [hlt2]
          have hy : (levels t)[i]? = some (levels t)[i] := by simp [hlt]
          generalize F[i] = x at hx
          generalize (levels t)[i] = y at hy
          have hbad : (decide (x = [43]) || decide (x = y)) = false → (true && rowOk F (levels t)) = false := fun e => by rw [rowOk_take F _ i x y hx hy e]; rfl
          have hgood : (decide (x = [43]) || decide (x = y)) = true → ∀ (j : Nat) (x y : Str), j < i + 1 → F[j]? = some x → (levels t)[j]? = some y → (decide (x = [43]) || decide (x = y)) = true := fun e j x' y' hj hx' hy' => by
            by_cases ej : j = i
            · subst ej; rw [hx] at hx'; rw [hy] at hy'; cases hx'; cases hy'; exact e
            · exact hok j x' y' (by omega) hx' hy'
          refine WP.condTh rfl (rfl) ?_
          skip
          refine WP.skip <| WP.seq <| WP.block <| WP.drawP [(0, none), (1, none), (2, none), (3, none), (4, none), (5, none), (6, none), (7, none), (8, none), (9, none), (10, none), (11, none), (12, none), (13, none), (14, none), (15, none), (16, none)] mixed (by kernel_rfl) (by kernel_rfl) (by kernel_rfl) (take1 at0 (take1 at0 take0)) <| w0 rfl rfl rfl (S0.move rfl) rfl <| w0 rfl rfl rfl (S0.move rfl) rfl <| ?_  -- op t37 := indexAddr 22 t35 t36
          refine w0 rfl rfl rfl (S0.index1 rfl rfl hlt2) rfl <| ?_
          refine w0 rfl rfl rfl (S0.load rfl (strs_get hx)) rfl <| ?_
          refine w0 rfl rfl rfl (S0.cmpS rfl rfl rfl) rfl <| w0 rfl rfl rfl (S0.move rfl) rfl <| ?_  -- guard t40 (wants False) at t41 := move t6 [if #5=False]
          first | refine wcsP (t := 40) rfl (fun h2 => ?_) (fun h2 => ?_) | refine wcsN (t := 40) rfl (fun h2 => ?_) (fun h2 => ?_) | refine wcs (t := 40) rfl (fun h2 => ?_) (fun h2 => ?_)
          · skip
            refine wF rfl rfl rfl rfl <| wF rfl rfl rfl rfl <| wF rfl rfl rfl rfl <| wF rfl rfl rfl rfl <| wF rfl rfl rfl rfl <| wF rfl rfl rfl rfl <| wF rfl rfl rfl rfl <| wF rfl rfl rfl rfl <| wF rfl rfl rfl rfl <| w0 rfl rfl rfl (S0.pickT rfl rfl) rfl <| w0 rfl rfl rfl (S0.assign rfl) rfl <| wE <| WP.region <| v0 (S0.move rfl) rfl <| v0 (S0.ari rfl rfl rfl (wrap_i64 (by omega))) rfl <| v0 (S0.assign rfl) rfl <| vE <| ?_  -- roundend
            exact ⟨(i + 1, true), (by first | exact ⟨hlt, fun _ => ⟨rfl, hgood (by simp [h2])⟩, fun e => by cases e⟩ | (dsimp only; exact ⟨hlt, fun _ => ⟨rfl, hgood (by simp [h2])⟩, fun e => by cases e⟩)), (show (levels t).length - (i + 1) < (levels t).length - i by omega), ⟨⟨rfl, rfl, rfl, rfl, trivial⟩, rfl, rfl⟩, ⟨_, (take1 at0 (take1 at0 take0))⟩⟩
          · skip
            refine w0 rfl rfl rfl (S0.move rfl) rfl <| w0 rfl rfl rfl (S0.move rfl) rfl <| ?_  -- op t43 := indexAddr 22 t41 t42 [if #5=False]
            refine w0 rfl rfl rfl (S0.index1 rfl rfl hlt2) rfl <| ?_
            refine w0 rfl rfl rfl (S0.load rfl (strs_get hx)) rfl <| ?_
            refine w0 rfl rfl rfl (S0.move rfl) rfl <| w0 rfl rfl rfl (S0.move rfl) rfl <| ?_  -- op t47 := indexAddr 22 t45 t46 [if #5=False]
            refine w0 rfl rfl rfl (S0.index1 rfl rfl hlt) rfl <| ?_
            refine w0 rfl rfl rfl (S0.load rfl (strs_get hy)) rfl <| ?_
            refine w0 rfl rfl rfl (S0.cmpS rfl rfl rfl) rfl <| w0 rfl rfl rfl (S0.pickF rfl rfl) rfl <| w0 rfl rfl rfl (S0.assign rfl) rfl <| wE <| WP.region <| v0 (S0.move rfl) rfl <| v0 (S0.ari rfl rfl rfl (wrap_i64 (by omega))) rfl <| v0 (S0.assign rfl) rfl <| vE <| ?_  -- roundend
            exact ⟨(i + 1, decide (x = y)), (by first | exact ⟨hlt, fun e => ⟨rfl, hgood (by simp at e; simp [e])⟩, fun e => hbad (by simp at e; simp [e, h2])⟩ | (dsimp only; exact ⟨hlt, fun e => ⟨rfl, hgood (by simp at e; simp [e])⟩, fun e => hbad (by simp at e; simp [e, h2])⟩)), (show (levels t).length - (i + 1) < (levels t).length - i by omega), ⟨⟨rfl, rfl, rfl, rfl, trivial⟩, rfl, rfl⟩, ⟨_, (take1 at0 (take1 at0 take0))⟩⟩
        | false =>
          skip
          refine WP.condFh rfl (rfl) ?_
          refine WP.exit <| WP.seq <| WP.region <| v0 (S0.move rfl) rfl <| v0 (S0.assign rfl) rfl <| vE <| WP.ret <| ?_  -- ret
          refine Leaves.drop take0 ?_
          refine r1 rfl rfl ⟨?_, rfl⟩
          rw [hfa rfl]
      · skip
        refine gF rfl rfl <| v0 (S0.pickF rfl rfl) rfl <| vE <| WP.condF rfl <| WP.exit <| WP.seq <| WP.region <| v0 (S0.move rfl) rfl <| v0 (S0.assign rfl) rfl <| vE <| WP.ret <| ?_  -- ret
        refine Leaves.drop take0 ?_
        refine r1 rfl rfl ⟨?_, rfl⟩
        cases is with
        | true =>
          obtain ⟨rfl, hok⟩ := htr rfl
          rw [rowOk_all F (levels t) fun j x y hx hy => hok j x y (by have := (List.getElem?_eq_some_iff.1 hy).1; omega) hx hy]
          rfl
        | false => rw [hfa rfl]
end Go.Proofs.YtnoicafjkgbokaaDoor
