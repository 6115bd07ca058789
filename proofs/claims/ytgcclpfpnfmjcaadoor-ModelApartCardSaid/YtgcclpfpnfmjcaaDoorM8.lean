import Derived.Test.YtgcclpfpnfmjcaaDoorM7
namespace Go.Proofs.YtgcclpfpnfmjcaaDoor
open Go

theorem mem_keys {κ : Type} [DecidableEq κ] {L : ML κ} {k : κ} : k ∈ L.map (·.1) ↔ (getM L k).isSome = true := by
  have := get_none_iff (L := L) (k := k)
  cases h : getM L k with
  | none => rw [h] at this; simpa using this.1 rfl
  | some v => rw [h] at this; simp at this ⊢; exact this
theorem had_ex {l : List Se} {n d o s : Int} : hadB l n d o s = true ↔ ∃ x ∈ l, isBy x n d = true ∧ x.v.o = o ∧ x.v.s = s := by
  simp only [hadB, List.any_eq_true, isBy, Bool.and_eq_true, decide_eq_true_eq, and_assoc]
theorem keys_le {l : List Se} {L : ML Int} (hk : (L.map (·.1)).Nodup) {g : Se → Int} (h : ∀ k, (getM L k).isSome = true → ∃ x ∈ l, g x = k) : L.length ≤ l.length := by
  have h2 : ∀ k ∈ L.map (·.1), k ∈ l.map g := fun k hk => by
    obtain ⟨x, hx, e⟩ := h k (mem_keys.1 hk)
    exact List.mem_map.2 ⟨x, hx, e⟩
  have := hk.length_le_of_subset h2
  simpa using this
theorem hole_some {l pre : List Se} {n d o : Int} : (holeF l pre n d o).isSome = true ↔ ∃ x ∈ pre, isBy x n d = true ∧ x.v.o = o ∧ (firstN l n d o : Int) < x.v.s := by
  unfold holeF
  split
  · rename_i h
    simp only [Option.isSome_some, true_iff]
    obtain ⟨x, hx, h2⟩ := List.any_eq_true.1 h
    simp only [Bool.and_eq_true, decide_eq_true_eq] at h2
    exact ⟨x, hx, h2⟩
  · rename_i h
    simp only [Option.isSome_none, Bool.false_eq_true, false_iff]
    rintro ⟨x, hx, h2⟩
    exact h (List.any_eq_true.2 ⟨x, hx, by simp [h2]⟩)
theorem hole_val {l pre : List Se} {n d o v : Int} (h : holeF l pre n d o = some v) : v = (firstN l n d o : Int) := by
  unfold holeF at h; split at h <;> cases h; rfl
theorem marks_len {l pre : List Se} {n d : Int} {R : BM} (h : MarksOf (holeF l pre n d) R) : R.length ≤ pre.length := by
  have h1 : (R.map (·.1)).Nodup := (List.pairwise_map.2 h.srt).imp fun hlt e => by omega
  have h2 : ∀ k ∈ R.map (·.1), k ∈ pre.map (·.v.o) := fun k hk => by
    obtain ⟨x, hx, rfl⟩ := List.mem_map.1 hk
    have h3 := (gB_iff h.srt (k := x.1) (t := x.2)).2 hx
    rw [h.get] at h3
    obtain ⟨y, hy, -, e, -⟩ := hole_some.1 (by rw [h3]; rfl)
    exact List.mem_map.2 ⟨y, hy, e⟩
  have := h1.length_le_of_subset h2
  simpa using this
/-- marks out of sorted origins -/
theorem marks_of_keys {f : Int → Option Int} {K : List Int} (hs : K.Pairwise (· < ·)) (hk : ∀ k, (f k).isSome = true → k ∈ K) : MarksOf f (K.filterMap fun k => (f k).map fun v => (k, v)) := by
  have hsr : (K.filterMap fun k => (f k).map fun v => (k, v)).Pairwise (fun a b => a.1 < b.1) := by
    rw [List.pairwise_filterMap]
    refine hs.imp fun {a b} hab x hx y hy => ?_
    obtain ⟨v, -, rfl⟩ := Option.map_eq_some_iff.1 hx
    obtain ⟨w, -, rfl⟩ := Option.map_eq_some_iff.1 hy
    exact hab
  refine ⟨hsr, fun k => Option.ext fun s => ?_⟩
  rw [gB_iff hsr, List.mem_filterMap]
  constructor
  · rintro ⟨k', -, h⟩
    obtain ⟨v, h1, h2⟩ := Option.map_eq_some_iff.1 h
    cases h2; exact h1
  · intro h
    exact ⟨k, hk k (by rw [h]; rfl), by rw [h]; rfl⟩

theorem max_spec {v : Value} {zs : List Int} {row : List Blk} (hs : IsSl 3 1 v (ints zs) row) (hne : zs ≠ []) (hl : zs.length ≤ 1000000) : FN Tryd.prog 41 [v] [row] (fun v' h => ∃ m, v' = .int .i64 m ∧ m ∈ zs ∧ (∀ z ∈ zs, z ≤ m) ∧ h = [row]) := by
  obtain ⟨a, cap, rfl, hcap, hrow⟩ := hs.intsE
  rcases hrow with ⟨e, -⟩ | ⟨b, sp, rfl, rfl, -⟩
  · exact absurd e hne
  have hpos : 0 < zs.length := List.length_pos_iff.2 hne
  have h0 : zs[0]? = some zs[0] := by simp
  refine FN.intro 25 [(0, .slice (some ⟨b, 0, none⟩) zs.length cap)] Tryd.func41 rfl (enters Tryd.func41 (by kernel_rfl) rfl) Tryd.ntmps41 rfl rfl ?_
  refine WP.seq <| WP.region <| v0 (S0.assign rfl) rfl <| vE <| WP.seq <| WP.seq <| WP.region <| v0 (S0.move rfl) rfl <| v0 (S0.lenSl rfl) rfl <| v0 (S0.cmp rfl rfl rfl) rfl <| vE <| ?_  -- cond
  refine WP.condFh rfl ((decide_eq_false (by omega))) ?_
  refine WP.skip <| WP.seq <| WP.region <| v0 (S0.move rfl) rfl <| ?_  -- op t10 := indexAddr 54 t9 0:i64
  refine v0 (S0.index1 (i := 0) rfl rfl hpos) rfl <| ?_
  refine v0 (S0.load rfl (ints_get h0)) rfl <| ?_
  refine v0 (S0.assign rfl) rfl <| vE <| WP.seq <| WP.seq <| WP.region <| v0 (S0.assign rfl) rfl <| vE <| WP.block <| ?_  -- Code.loop
  refine WP.loop (fun st : Nat × Int => 1 ≤ st.1 ∧ st.1 ≤ zs.length ∧ st.2 ∈ zs ∧ ∀ z ∈ zs.take st.1, z ≤ st.2) (fun st : Nat × Int => [(0, .slice (some ⟨b, 0, none⟩) zs.length cap), (3, .int .i64 st.2), (4, .int .i64 (st.1 : Int))]) (fun st : Nat × Int => [[(b, .cells ⟨ints zs ++ sp⟩ 3 (0, 0))]]) (fun st : Nat × Int => zs.length - st.1) ((1, zs[0])) (⟨Nat.le_refl _, hpos, List.getElem_mem _, by show ∀ z ∈ zs.take (0 + 1), z ≤ zs[0]; rw [take_snoc h0]; simp⟩) ⟨rfl, rfl, rfl, trivial⟩ ⟨_, (take1 at0 take0)⟩ (fun st hinv => ?_) 
  obtain ⟨i, m⟩ := st
  obtain ⟨hi1, hi, hm, hle⟩ := hinv
  dsimp only at hi1 hi hm hle ⊢
  refine WP.seq <| WP.seq <| WP.region <| v0 (S0.move rfl) rfl <| v0 (S0.move rfl) rfl <| v0 (S0.lenSl rfl) rfl <| v0 (S0.cmp rfl rfl rfl) rfl <| vE <| ?_  -- cond
  first | refine WP.condP rfl (fun h1 => ?_) (fun h1 => ?_) | refine WP.condN rfl (fun h1 => ?_) (fun h1 => ?_) | refine WP.cond rfl (fun h1 => ?_) (fun h1 => ?_)
  · skip
    have hlt : i < zs.length := by omega
    have hx : zs[i]? = some zs[i] := by simp [hlt]
    have hmm := List.getElem_mem hlt
    generalize zs[i] = x at hx hmm
    refine WP.skip <| WP.seq <| WP.block <| WP.region <| v0 (S0.move rfl) rfl <| v0 (S0.move rfl) rfl <| v0 (S0.move rfl) rfl <| ?_  -- op t21 := indexAddr 54 t19 t20
    refine v0 (S0.index1 rfl rfl hlt) rfl <| ?_
    refine v0 (S0.load rfl (ints_get hx)) rfl <| ?_
    refine v0 (S0.max2 rfl rfl rfl) rfl <| v0 (S0.assign rfl) rfl <| vE <| WP.region <| v0 (S0.move rfl) rfl <| v0 (S0.ari rfl rfl rfl (wrap_i64 (by omega))) rfl <| v0 (S0.assign rfl) rfl <| vE <| ?_  -- roundend
    exact ⟨(i + 1, if x > m then x else m), (by first | exact ⟨by omega, hlt, by split <;> assumption, all_snoc (p := fun z => z ≤ if x > m then x else m) (fun z hz => by have := hle z hz; split <;> omega) hx (by split <;> omega)⟩ | (dsimp only; exact ⟨by omega, hlt, by split <;> assumption, all_snoc (p := fun z => z ≤ if x > m then x else m) (fun z hz => by have := hle z hz; split <;> omega) hx (by split <;> omega)⟩)), (show zs.length - (i + 1) < zs.length - i by omega), ⟨⟨rfl, rfl, rfl, trivial⟩, rfl, rfl⟩, ⟨_, (take1 at0 take0)⟩⟩
  · skip
    rw [List.take_of_length_le (by omega)] at hle
    refine WP.exit <| WP.seq <| WP.region <| v0 (S0.move rfl) rfl <| v0 (S0.assign rfl) rfl <| vE <| WP.ret <| ?_  -- ret
    refine r1 rfl rfl ?_
    exact ⟨m, rfl, hm, hle, rfl⟩

theorem holes_spec {v : Value} {l : List Se} {c : List Blk} (hr : Rd 7 seB v l c) (hl : l.length ≤ 1000) (n d : Int) : FN Tryd.prog 22 [v, .int .i64 n, .int .i64 d] [c] (fun v' h => ∃ R row, MarksOf (holeF l l n d) R ∧ IsSl 49 2 v' (R.flatMap mkB) row ∧ h = [row, c]) := by
  have hr' := hr
  obtain ⟨a, cap, rfl, -, -⟩ := hr
  refine FN.intro 48 [(0, .slice a l.length cap), (1, .int .i64 n), (2, .int .i64 d)] Tryd.func22 rfl (enters Tryd.func22 (by kernel_rfl) rfl) Tryd.ntmps22 rfl rfl ?_
  refine WP.seq <| WP.region <| v0 (S0.assign rfl) rfl <| vE <| WP.seq <| WP.region <| v0 (S0.move rfl) rfl <| v0 (S0.move rfl) rfl <| v0 (S0.move rfl) rfl <| v0 (S0.build rfl (qs := [(0, _), (1, _)]) rfl) rfl <| ?_  -- op t16 := call F36{rivulet/model.numbers}(t12, t15)
  refine vc (S1.callF rfl (numbers_spec hr' (by omega) n d) (take1 at0 take0)) rfl ?_
  rintro _ _ ⟨mo, cn, rfl, hnum, rfl⟩
  refine app ?_
  obtain ⟨L, ck, hLwf, hLm, hsome, hlook⟩ := hnum.look
  have hLl : L.length ≤ l.length := keys_le (g := fun x => x.v.o) hLwf.keys fun k hk => by
    obtain ⟨s, hs⟩ := (hsome k).1 hk
    obtain ⟨x, hx, -, e, -⟩ := had_ex.1 hs
    exact ⟨x, hx, e⟩
  refine v0 (S0.assign rfl) rfl <| vE <| WP.seq <| WP.region <| v0 (S0.assign rfl) rfl <| vE <| WP.seq <| WP.seq <| WP.region <| v0 (S0.move rfl) rfl <| ?_  -- op t18 := call F40{maps.Keys[map[int]map[int]bool,int,map[int]bool]}(t17)
  refine vc (S1.callF rfl (keysM_spec mo) take0) rfl ?_
  rintro _ _ ⟨bx, rfl, rfl⟩
  refine app ?_
  -- (nothing to walk: op t19 := call F27{slices.Sorted[int]}(t18))
  refine vc (S1.callF rfl (sortedM_keys (L := L) (ck := ck) (cm := cn) hLwf (by omega)) (take1 at0 (take1 at0 take0))) rfl ?_
  rintro kv _ ⟨xs, krow, hp, hks, rfl⟩
  refine app ?_
  have hnd : (sortI (xs.map (·.1))).Nodup := (sortI_perm _).nodup_iff.2 ((hp.map _).nodup_iff.2 hLwf.keys)
  have hsort : (sortI (xs.map (·.1))).Pairwise (· < ·) := (List.pairwise_and_iff.2 ⟨sortI_pairwise _, hnd⟩).imp fun ⟨h1, h2⟩ => by omega
  have hmem : ∀ k, k ∈ sortI (xs.map (·.1)) ↔ ∃ s, hadB l n d k s = true := fun k => by
    rw [(sortI_perm _).mem_iff, (hp.map _).mem_iff, mem_keys]; exact hsome k
  have hkl : (sortI (xs.map (·.1))).length ≤ 1000 := by
    rw [(sortI_perm _).length_eq, List.length_map, hp.length_eq]; omega
  generalize sortI (xs.map (·.1)) = K at hks hsort hmem hkl
  have hfin : MarksOf (holeF l l n d) (K.filterMap fun k => (holeF l l n d k).map fun v => (k, v)) := marks_of_keys hsort fun k hk => by
    obtain ⟨x, hx, h1, h2, -⟩ := hole_some.1 hk
    exact (hmem k).2 ⟨x.v.s, had_ex.2 ⟨x, hx, h1, h2, rfl⟩⟩
  obtain ⟨ka, kc, rfl, -, hkr⟩ := hks.intsE
  refine v0 (S0.lenSl rfl) rfl <| v0 (S0.move rfl) rfl <| vE <| WP.block <| ?_  -- Code.loop
  refine WP.loop (fun st : Nat × Value × List Blk => st.1 ≤ K.length ∧ IsSl 49 2 st.2.1 (((K.take st.1).filterMap fun k => (holeF l l n d k).map fun v => (k, v)).flatMap mkB) st.2.2) (fun st : Nat × Value × List Blk => [(7, .map (some mo)), (8, st.2.1), (19, .slice ka K.length kc), (20, .int .i64 (K.length : Int)), (21, .int .i64 (st.1 : Int))]) (fun st : Nat × Value × List Blk => [st.2.2, krow, cn, c]) (fun st : Nat × Value × List Blk => K.length - st.1) ((0, _, [])) (⟨Nat.zero_le _, .nil⟩) ⟨rfl, rfl, rfl, rfl, rfl, trivial⟩ ⟨[], by simp⟩ (fun st hinv => ?_) 
  obtain ⟨j, ov, orow⟩ := st
  obtain ⟨hj, hosl⟩ := hinv
  dsimp only at hj hosl ⊢
  have hRl : ((K.take j).filterMap fun k => (holeF l l n d k).map fun v => (k, v)).length ≤ 1000 := by
    have := List.length_filterMap_le (fun k => (holeF l l n d k).map fun v => (k, v)) (K.take j)
    rw [List.length_take] at this; omega
  refine WP.seq <| WP.region <| v0 (S0.cmp rfl rfl rfl) rfl <| vE <| WP.seq <| ?_  -- cond
  first | refine WP.condP rfl (fun h1 => ?_) (fun h1 => ?_) | refine WP.condN rfl (fun h1 => ?_) (fun h1 => ?_) | refine WP.cond rfl (fun h1 => ?_) (fun h1 => ?_)
  · skip
    have hlt : j < K.length := by omega
    rcases hkr with ⟨e, -⟩ | ⟨b1, sp1, rfl, rfl, -⟩
    · rw [e] at hlt; simp at hlt
    have hx : K[j]? = some K[j] := by simp [hlt]
    have hkK := List.getElem_mem hlt
    generalize K[j] = k at hx hkK
    obtain ⟨s0, hs0⟩ := (hmem k).1 hkK
    rcases hlook k with ⟨-, e⟩ | ⟨m, L', ck', hgm, hwf', hmc, hg'⟩
    · rw [e] at hs0; cases hs0
    have : HasC cn m (mapO (Value.int .i64) L' ck') := ⟨hmc⟩
    have hgb : ∀ s, (getM L' s).getD (.bool false) = .bool (hadB l n d k s) := fun s => by rw [hg']; cases hadB l n d k s <;> rfl
    have hstep : ((K.take (j + 1)).filterMap fun k => (holeF l l n d k).map fun v => (k, v)) = ((K.take j).filterMap fun k => (holeF l l n d k).map fun v => (k, v)) ++ ((holeF l l n d k).map fun v => (k, v)).toList := by
      rw [take_snoc hx, List.filterMap_append]; cases hh : holeF l l n d k <;> simp [hh]
    refine WP.skip <| WP.seq <| WP.block <| WP.seq <| WP.region <| ?_  -- op t23 := indexAddr 54 t19 t21
    refine v0 (S0.index1 rfl rfl hlt) rfl <| ?_
    refine v0 (S0.load rfl (ints_get hx)) rfl <| ?_
    refine v0 (S0.assign rfl) rfl <| vE <| WP.seq <| WP.region <| v0 (S0.assign rfl) rfl <| vE <| WP.seq <| WP.block <| ?_  -- Code.loop
    refine WP.loop (fun q : Nat => 1 ≤ q ∧ q ≤ l.length + 1 ∧ ∀ i : Nat, 1 ≤ i → i < q → hadB l n d k i = true) (fun q : Nat => [(7, .map (some mo)), (8, ov), (10, .int .i64 k), (11, .int .i64 (q : Int)), (19, .slice (some ⟨b1, 0, none⟩) K.length kc), (20, .int .i64 (K.length : Int)), (21, .int .i64 (j : Int))]) (fun q : Nat => [orow, [(b1, .cells ⟨ints K ++ sp1⟩ 3 (0, 0))], cn, c]) (fun q : Nat => l.length + 1 - q) (1) (⟨Nat.le_refl _, by omega, fun i h1 h2 => by omega⟩) ⟨rfl, rfl, rfl, rfl, rfl, rfl, rfl, trivial⟩ ⟨_, (take1 at0 (take1 at0 (take1 at0 (take1 at0 take0))))⟩ (fun q hinv => ?_) 
    obtain ⟨hq1, hq2, hqb⟩ := hinv
    refine WP.seq <| WP.seq <| WP.region <| v0 (S0.move rfl) rfl <| v0 (S0.move rfl) rfl <| ?_  -- op t27 := lookup 71 t25 t26 false
    refine v0 (S0.lookupV (ek := Value.int .i64) rfl rfl hgm) rfl <| ?_
    refine v0 (S0.move rfl) rfl <| ?_  -- op t29 := lookup 74 t27 t28 false
    refine v0 (S0.lookupV (ek := Value.int .i64) rfl rfl (hgb q)) rfl <| ?_
    refine vE <| ?_  -- cond
    first | refine WP.condP rfl (fun h2 => ?_) (fun h2 => ?_) | refine WP.condN rfl (fun h2 => ?_) (fun h2 => ?_) | refine WP.cond rfl (fun h2 => ?_) (fun h2 => ?_)
    · skip
      have hqb' : ∀ i : Nat, 1 ≤ i → i < q + 1 → hadB l n d k i = true := fun i h3 h4 => by
        by_cases e : i = q
        · rw [e]; exact h2
        · exact hqb i h3 (by omega)
      have hmany := had_many (l := l) (n := n) (d := d) (o := k) (m := q) fun i h3 h4 => hqb' i h3 (by omega)
      refine WP.skip <| WP.block <| WP.region <| v0 (S0.move rfl) rfl <| v0 (S0.ari rfl rfl rfl (wrap_i64 (by omega))) rfl <| v0 (S0.assign rfl) rfl <| vE <| ?_  -- roundend
      exact ⟨q + 1, (by first | exact ⟨by omega, by omega, hqb'⟩ | (dsimp only; exact ⟨by omega, by omega, hqb'⟩)), (by omega), ⟨⟨rfl, rfl, rfl, rfl, rfl, rfl, rfl, trivial⟩, rfl, rfl⟩, ⟨_, (take1 at0 (take1 at0 (take1 at0 (take1 at0 take0))))⟩⟩
    · skip
      have hfst : firstN l n d k = q := firstN_eq ⟨hq1, h2, hqb⟩
      have hL'l : L'.length ≤ l.length := keys_le (g := fun x => x.v.s) hwf'.keys fun s hs => by
        rw [hg'] at hs
        cases hh : hadB l n d k s with
        | false => rw [hh] at hs; cases hs
        | true => obtain ⟨x, hx, -, -, e⟩ := had_ex.1 hh; exact ⟨x, hx, e⟩
      refine WP.exit <| WP.seq <| WP.region <| v0 (S0.move rfl) rfl <| v0 (S0.move rfl) rfl <| ?_  -- op t34 := lookup 71 t32 t33 false
      refine v0 (S0.lookupV (ek := Value.int .i64) rfl rfl hgm) rfl <| ?_
      -- (nothing to walk: op t35 := call F43{maps.Keys[map[int]bool,int,bool]}(t34))
      refine vc (S1.callF rfl (keysB_spec m) take0) rfl ?_
      rintro _ _ ⟨by', rfl, rfl⟩
      refine app ?_
      -- (nothing to walk: op t36 := call F42{slices.Collect[int]}(t35))
      refine vc (S1.callF rfl (collectB_keys (L := L') (ck := ck') (cm := cn) hwf' (by omega)) (take1 at0 (take1 (atS (atS at0)) take0))) rfl ?_
      rintro zv _ ⟨ys, zrow, hyp, hzs, rfl⟩
      refine app ?_
      have hys : ∀ s, s ∈ ys.map (·.1) ↔ hadB l n d k s = true := fun s => by
        rw [(hyp.map _).mem_iff, mem_keys, hg']; cases hadB l n d k s <;> simp
      have hyl : (ys.map (·.1)).length ≤ 1000 := by rw [List.length_map, hyp.length_eq]; omega
      have hyne : ys.map (·.1) ≠ [] := fun e => by have := (hys s0).2 hs0; rw [e] at this; cases this
      -- (nothing to walk: op t37 := call F41{slices.Max[[]int,int]}(t36))
      refine vc (S1.callF rfl (max_spec hzs hyne (by omega)) (take1 at0 take0)) rfl ?_
      rintro _ _ ⟨mx, rfl, hmx, hmxle, rfl⟩
      refine app ?_
      have hdec : (holeF l l n d k).isSome = true ↔ (q : Int) < mx := by
        rw [hole_some, hfst]
        constructor
        · rintro ⟨x, hx, h3, h4, h5⟩
          have := hmxle x.v.s ((hys _).2 (had_ex.2 ⟨x, hx, h3, h4, rfl⟩))
          omega
        · intro h5
          obtain ⟨x, hx, h3, h4, h6⟩ := had_ex.1 ((hys mx).1 hmx)
          exact ⟨x, hx, h3, h4, by omega⟩
      refine v0 (S0.move rfl) rfl <| v0 (S0.cmp rfl rfl rfl) rfl <| vE <| ?_  -- cond
      first | refine WP.condP rfl (fun h3 => ?_) (fun h3 => ?_) | refine WP.condN rfl (fun h3 => ?_) (fun h3 => ?_) | refine WP.cond rfl (fun h3 => ?_) (fun h3 => ?_)
      · skip
        obtain ⟨hv, hhv⟩ := Option.isSome_iff_exists.1 (hdec.2 (by simpa using h3))
        have hhv2 := hole_val hhv
        rw [hfst] at hhv2
        subst hhv2
        rw [hhv] at hstep
        refine WP.region <| v0 (S0.move rfl) rfl <| v0 (S0.move rfl) rfl <| v0 (S0.move rfl) rfl <| v0 (S0.build rfl (qs := [(0, _), (1, _)]) rfl) rfl <| vnv (S1.buildSlice rfl (qs := [(0, _)]) rfl rfl) rfl fun b44 => ?_  -- op t45 := append(t40, t44) :[30, 30]
        refine ve (S1.appendL rfl hosl rfl rfl (atS (atS (atS at0))) rfl rfl (by rw [flat_len mkB_len]; simp; omega)) rfl ?_
        rintro v2 _ ⟨row2, hsl2, rfl⟩
        refine v0 (S0.assign rfl) rfl <| vE <| WP.region <| v0 (S0.ari rfl rfl rfl (wrap_i64 (by omega))) rfl <| v0 (S0.move rfl) rfl <| vE <| ?_  -- roundend
        exact ⟨(j + 1, v2, row2), (by first | exact ⟨hlt, by rw [hstep]; simpa using hsl2⟩ | (dsimp only; exact ⟨hlt, by rw [hstep]; simpa using hsl2⟩)), (show K.length - (j + 1) < K.length - j by omega), ⟨⟨rfl, rfl, rfl, rfl, rfl, trivial⟩, rfl, rfl⟩, ⟨_, (take1 at0 (take1 (atS (atS (atS at0))) (take1 (atS (atS at0)) (take1 (atS (atS at0)) take0))))⟩⟩
      · skip
        have hno : holeF l l n d k = none := by
          cases hh : holeF l l n d k with
          | none => rfl
          | some v => exact absurd (hdec.1 (by rw [hh]; rfl)) (by simpa using h3)
        rw [hno] at hstep
        refine WP.skip <| WP.region <| v0 (S0.ari rfl rfl rfl (wrap_i64 (by omega))) rfl <| v0 (S0.move rfl) rfl <| vE <| ?_  -- roundend
        exact ⟨(j + 1, ov, orow), (by first | exact ⟨hlt, by rw [hstep]; simpa using hosl⟩ | (dsimp only; exact ⟨hlt, by rw [hstep]; simpa using hosl⟩)), (show K.length - (j + 1) < K.length - j by omega), ⟨⟨rfl, rfl, rfl, rfl, rfl, trivial⟩, rfl, rfl⟩, ⟨_, (take1 (atS (atS at0)) (take1 (atS (atS at0)) (take1 (atS at0) (take1 (atS at0) take0))))⟩⟩
  · skip
    rw [List.take_of_length_le (by omega)] at hosl
    refine WP.exit <| WP.seq <| WP.region <| v0 (S0.move rfl) rfl <| v0 (S0.assign rfl) rfl <| vE <| WP.ret <| ?_  -- ret
    refine Leaves.drop (take1 at0 (take1 (atS (atS at0)) take0)) ?_
    refine r1 rfl rfl ?_
    exact ⟨_, orow, hfin, hosl, rfl⟩

theorem rholes_spec {v : Value} {l : List Se} {c : List Blk} (hr : Rd 7 seB v l c) (hl : l.length ≤ 100) (n d : Int) : FN Tryd.prog 23 [v, .int .i64 n, .int .i64 d] [c] (fun v' h => ∃ R row, MarksOf (holeF l l n d) R ∧ IsSl 49 2 v' (R.flatMap mkB) row ∧ h = [row, c]) := by
  have hr' := hr
  obtain ⟨a, cap, rfl, -, hr⟩ := hr
  refine FN.intro 65 [(0, .slice a l.length cap), (1, .int .i64 n), (2, .int .i64 d)] Tryd.func23 rfl (enters Tryd.func23 (by kernel_rfl) rfl) Tryd.ntmps23 rfl rfl ?_
  refine WP.seq <| WP.region <| v0 (S0.assign rfl) rfl <| vE <| WP.seq <| WP.region <| vnv (S1.buildSlice rfl (qs := []) rfl rfl) rfl fun b10 => v0 (S0.assign rfl) rfl <| vE <| WP.seq <| WP.seq <| WP.region <| v0 (S0.assign rfl) rfl <| vE <| WP.block <| ?_  -- Code.loop
  refine WP.loop (fun st : Nat × BM × Value × List Blk => st.1 ≤ l.length ∧ MarksOf (holeF l (l.take st.1) n d) st.2.1 ∧ IsSl 49 2 st.2.2.1 (st.2.1.flatMap mkB) st.2.2.2) (fun st : Nat × BM × Value × List Blk => [(0, .slice a l.length cap), (1, .int .i64 n), (2, .int .i64 d), (7, st.2.2.1), (8, .int .i64 (st.1 : Int))]) (fun st : Nat × BM × Value × List Blk => [st.2.2.2, c]) (fun st : Nat × BM × Value × List Blk => l.length - st.1) ((0, [], _, [(b10, .cells ⟨[]⟩ 49 (0, 0))])) (⟨Nat.zero_le _, MarksOf.nil, IsSl.row (n := 0) (c := 0) (l := []) (sp := []) rfl rfl (Nat.le_refl _)⟩) ⟨rfl, rfl, rfl, rfl, rfl, trivial⟩ ⟨_, (take1 at0 (take1 at0 take0))⟩ (fun st hinv => ?_) 
  obtain ⟨i, R, rv, rrow⟩ := st
  obtain ⟨hi, hm, hsl⟩ := hinv
  dsimp only at hi hm hsl ⊢
  refine WP.seq <| WP.seq <| WP.region <| v0 (S0.move rfl) rfl <| v0 (S0.move rfl) rfl <| v0 (S0.lenSl rfl) rfl <| v0 (S0.cmp rfl rfl rfl) rfl <| vE <| ?_  -- cond
  first | refine WP.condP rfl (fun h1 => ?_) (fun h1 => ?_) | refine WP.condN rfl (fun h1 => ?_) (fun h1 => ?_) | refine WP.cond rfl (fun h1 => ?_) (fun h1 => ?_)
  · skip
    have hlt : i < l.length := by omega
    rcases hr with e | ⟨b, o, GL, U, fz, rfl, hmem, hel⟩
    · rw [e] at hlt; simp at hlt
    have : HasC c b (.cells ⟨GL⟩ U fz) := ⟨hmem⟩
    have hx : l[i]? = some l[i] := by simp [hlt]
    have hxm := List.getElem_mem hlt
    generalize l[i] = x at hx hxm
    have hele := hel i x hx
    have hrl := marks_len hm
    rw [List.length_take] at hrl
    have hsn : ∀ k, holeF l (l.take (i + 1)) n d k = if isBy x n d && (decide (x.v.o = k) && decide ((firstN l n d k : Int) < x.v.s)) then some (firstN l n d k : Int) else holeF l (l.take i) n d k := fun k => by rw [take_snoc hx, holeF_snoc]
    have hskip : isBy x n d = false → MarksOf (holeF l (l.take (i + 1)) n d) R := fun e => hm.congr fun k => by rw [hsn, e]; rfl
    refine WP.skip <| WP.seq <| WP.block <| WP.seq <| WP.seq <| WP.region <| v0 (S0.move rfl) rfl <| v0 (S0.move rfl) rfl <| ?_  -- op t19 := indexAddr 25 t17 t18
    refine v0 (S0.indexO rfl rfl hlt) rfl <| ?_
    refine v0 (S0.fieldAddr rfl) rfl <| ?_  -- limit
    refine v0 (S0.load rfl (rd_get (k := 7) hele (j := 0) (by omega))) rfl <| ?_
    refine v0 (S0.move rfl) rfl <| v0 (S0.cmp rfl rfl rfl) rfl <| v0 (S0.move rfl) rfl <| ?_  -- guard t24 (wants False) at t25 := move t0 [if #7=False]
    first | refine csP (t := 24) rfl (fun h2 => ?_) (fun h2 => ?_) | refine csN (t := 24) rfl (fun h2 => ?_) (fun h2 => ?_) | refine cs (t := 24) rfl (fun h2 => ?_) (fun h2 => ?_)
    · skip
      refine gF rfl rfl <| gF rfl rfl <| gF rfl rfl <| gF rfl rfl <| gF rfl rfl <| gF rfl rfl <| gF rfl rfl <| v0 (S0.pickT rfl rfl) rfl <| vE <| WP.condT rfl <| WP.exit <| WP.region <| v0 (S0.move rfl) rfl <| v0 (S0.ari rfl rfl rfl (wrap_i64 (by omega))) rfl <| v0 (S0.assign rfl) rfl <| vE <| ?_  -- roundend
      exact ⟨(i + 1, R, rv, rrow), (by first | exact ⟨hlt, hskip (by simp [isBy]; intro h; exact absurd h (by simpa using h2)), hsl⟩ | (dsimp only; exact ⟨hlt, hskip (by simp [isBy]; intro h; exact absurd h (by simpa using h2)), hsl⟩)), (show l.length - (i + 1) < l.length - i by omega), ⟨⟨rfl, rfl, rfl, rfl, rfl, trivial⟩, rfl, rfl⟩, ⟨_, (take1 at0 (take1 at0 take0))⟩⟩
    · skip
      refine gT rfl <| v0 (S0.move rfl) rfl <| gT rfl <| v0 (S0.move rfl) rfl <| ?_  -- op t27 := indexAddr 25 t25 t26 [if #7=False]
      refine gT rfl <| v0 (S0.indexO rfl rfl hlt) rfl <| ?_
      refine gT rfl <| v0 (S0.fieldAddr rfl) rfl <| ?_  -- limit
      refine gT rfl <| v0 (S0.load rfl (rd_get (k := 7) hele (j := 1) (by omega))) rfl <| ?_
      refine gT rfl <| v0 (S0.move rfl) rfl <| gT rfl <| v0 (S0.cmp rfl rfl rfl) rfl <| v0 (S0.pickF rfl rfl) rfl <| vE <| ?_  -- cond
      first | refine WP.condP rfl (fun h3 => ?_) (fun h3 => ?_) | refine WP.condN rfl (fun h3 => ?_) (fun h3 => ?_) | refine WP.cond rfl (fun h3 => ?_) (fun h3 => ?_)
      · skip
        refine WP.exit <| WP.region <| v0 (S0.move rfl) rfl <| v0 (S0.ari rfl rfl rfl (wrap_i64 (by omega))) rfl <| v0 (S0.assign rfl) rfl <| vE <| ?_  -- roundend
        exact ⟨(i + 1, R, rv, rrow), (by first | exact ⟨hlt, hskip (by simp [isBy]; intro _; exact h3), hsl⟩ | (dsimp only; exact ⟨hlt, hskip (by simp [isBy]; intro _; exact h3), hsl⟩)), (show l.length - (i + 1) < l.length - i by omega), ⟨⟨rfl, rfl, rfl, rfl, rfl, trivial⟩, rfl, rfl⟩, ⟨_, (take1 at0 (take1 at0 take0))⟩⟩
      · skip
        have hby : isBy x n d = true := by
          have h2' : x.n = n := by simpa using h2
          have h3' : x.d = d := by simpa using h3
          simp [isBy, h2', h3']
        rw [hby] at hsn
        simp only [Bool.true_and] at hsn
        refine WP.skip <| WP.seq <| WP.region <| v0 (S0.assign rfl) rfl <| vE <| WP.seq <| WP.block <| ?_  -- Code.loop
        refine WP.loop (fun q : Nat => 1 ≤ q ∧ q ≤ l.length + 1 ∧ ∀ i : Nat, 1 ≤ i → i < q → hadB l n d x.v.o i = true) (fun q : Nat => [(0, .slice (some ⟨b, o, none⟩) l.length cap), (1, .int .i64 n), (2, .int .i64 d), (7, rv), (8, .int .i64 (i : Int)), (9, .int .i64 (q : Int))]) (fun q : Nat => [rrow, c]) (fun q : Nat => l.length + 1 - q) (1) (⟨Nat.le_refl _, by omega, fun i h1 h2 => by omega⟩) ⟨rfl, rfl, rfl, rfl, rfl, rfl, trivial⟩ ⟨_, (take1 at0 (take1 at0 take0))⟩ (fun q hinv => ?_) 
        obtain ⟨hq1, hq2, hqb⟩ := hinv
        refine WP.seq <| WP.seq <| WP.region <| v0 (S0.move rfl) rfl <| v0 (S0.move rfl) rfl <| v0 (S0.move rfl) rfl <| v0 (S0.move rfl) rfl <| v0 (S0.move rfl) rfl <| ?_  -- op t38 := indexAddr 25 t36 t37
        refine v0 (S0.indexO rfl rfl hlt) rfl <| ?_
        refine v0 (S0.fieldAddr rfl) rfl <| v0 (S0.fieldAddr rfl) rfl <| ?_  -- limit
        refine v0 (S0.load rfl (rd_get (k := 7) hele (j := 2) (by omega))) rfl <| ?_
        refine v0 (S0.move rfl) rfl <| ?_  -- op t43 := call F39{rivulet/rivuletref22.had}(t33, t34, t35, t41, t42)
        refine vcd (S1.callF rfl (had_spec hr' (by omega) n d x.v.o q) (take1 (atS at0) take0)) rfl ?_
        refine vE <| ?_  -- cond
        first | refine WP.condP rfl (fun h4 => ?_) (fun h4 => ?_) | refine WP.condN rfl (fun h4 => ?_) (fun h4 => ?_) | refine WP.cond rfl (fun h4 => ?_) (fun h4 => ?_)
        · skip
          have hqb' : ∀ i : Nat, 1 ≤ i → i < q + 1 → hadB l n d x.v.o i = true := fun i h5 h6 => by
            by_cases e : i = q
            · rw [e]; exact h4
            · exact hqb i h5 (by omega)
          have hmany := had_many (l := l) (n := n) (d := d) (o := x.v.o) (m := q) fun i h5 h6 => hqb' i h5 (by omega)
          refine WP.skip <| WP.block <| WP.region <| v0 (S0.move rfl) rfl <| v0 (S0.ari rfl rfl rfl (wrap_i64 (by omega))) rfl <| v0 (S0.assign rfl) rfl <| vE <| ?_  -- roundend
          exact ⟨q + 1, (by first | exact ⟨by omega, by omega, hqb'⟩ | (dsimp only; exact ⟨by omega, by omega, hqb'⟩)), (by omega), ⟨⟨rfl, rfl, rfl, rfl, rfl, rfl, trivial⟩, rfl, rfl⟩, ⟨_, (take1 (atS at0) (take1 at0 take0))⟩⟩
        · skip
          have hfst : firstN l n d x.v.o = q := firstN_eq ⟨hq1, h4, hqb⟩
          refine WP.exit <| WP.seq <| WP.region <| v0 (S0.move rfl) rfl <| v0 (S0.move rfl) rfl <| ?_  -- op t48 := indexAddr 25 t46 t47
          refine v0 (S0.indexO rfl rfl hlt) rfl <| ?_
          refine v0 (S0.fieldAddr rfl) rfl <| v0 (S0.fieldAddr rfl) rfl <| ?_  -- limit
          refine v0 (S0.load rfl (rd_get (k := 7) hele (j := 3) (by omega))) rfl <| ?_
          refine v0 (S0.move rfl) rfl <| v0 (S0.cmp rfl rfl rfl) rfl <| vE <| ?_  -- cond
          first | refine WP.condP rfl (fun h5 => ?_) (fun h5 => ?_) | refine WP.condN rfl (fun h5 => ?_) (fun h5 => ?_) | refine WP.cond rfl (fun h5 => ?_) (fun h5 => ?_)
          · skip
            refine WP.region <| v0 (S0.move rfl) rfl <| v0 (S0.move rfl) rfl <| v0 (S0.move rfl) rfl <| ?_  -- op t57 := indexAddr 25 t55 t56
            refine v0 (S0.indexO rfl rfl hlt) rfl <| ?_
            refine v0 (S0.fieldAddr rfl) rfl <| v0 (S0.fieldAddr rfl) rfl <| ?_  -- limit
            refine v0 (S0.load rfl (rd_get (k := 7) hele (j := 2) (by omega))) rfl <| ?_
            refine v0 (S0.move rfl) rfl <| v0 (S0.build rfl (qs := [(0, _), (1, _)]) rfl) rfl <| ?_  -- op t63 := call F29{rivulet/rivuletref11.Mark}(t54, t62)
            refine vc (S1.callF rfl (mark_spec hsl (by omega) (x.v.o, (q : Int))) (take1 (atS at0) take0)) rfl ?_
            rintro v2 _ ⟨row2, hsl2, rfl⟩
            refine app ?_
            have hyes : MarksOf (holeF l (l.take (i + 1)) n d) (markB R (x.v.o, (q : Int))) := (hm.mark x.v.o q).congr fun k => by
              rw [hsn]
              by_cases e : k = x.v.o
              · subst e; rw [hfst]; simp [h5]
              · rw [if_neg e, decide_eq_false (fun e2 => e e2.symm)]; simp
            refine v0 (S0.assign rfl) rfl <| vE <| WP.region <| v0 (S0.move rfl) rfl <| v0 (S0.ari rfl rfl rfl (wrap_i64 (by omega))) rfl <| v0 (S0.assign rfl) rfl <| vE <| ?_  -- roundend
            exact ⟨(i + 1, markB R (x.v.o, (q : Int)), v2, row2), (by first | exact ⟨hlt, hyes, hsl2⟩ | (dsimp only; exact ⟨hlt, hyes, hsl2⟩)), (show l.length - (i + 1) < l.length - i by omega), ⟨⟨rfl, rfl, rfl, rfl, rfl, trivial⟩, rfl, rfl⟩, ⟨_, (take1 at0 (take1 (atS at0) take0))⟩⟩
          · skip
            have hno : MarksOf (holeF l (l.take (i + 1)) n d) R := hm.congr fun k => by
              rw [hsn]
              by_cases e : x.v.o = k
              · subst e; rw [hfst, decide_eq_false (show ¬ (q : Int) < x.v.s from h5)]; simp
              · simp [e]
            refine WP.skip <| WP.region <| v0 (S0.move rfl) rfl <| v0 (S0.ari rfl rfl rfl (wrap_i64 (by omega))) rfl <| v0 (S0.assign rfl) rfl <| vE <| ?_  -- roundend
            exact ⟨(i + 1, R, rv, rrow), (by first | exact ⟨hlt, hno, hsl⟩ | (dsimp only; exact ⟨hlt, hno, hsl⟩)), (show l.length - (i + 1) < l.length - i by omega), ⟨⟨rfl, rfl, rfl, rfl, rfl, trivial⟩, rfl, rfl⟩, ⟨_, (take1 (atS at0) (take1 at0 take0))⟩⟩
  · skip
    rw [List.take_of_length_le (by omega)] at hm
    refine WP.exit <| WP.seq <| WP.region <| v0 (S0.move rfl) rfl <| v0 (S0.assign rfl) rfl <| vE <| WP.ret <| ?_  -- ret
    refine r1 rfl rfl ?_
    exact ⟨R, rrow, hm, hsl, rfl⟩
end Go.Proofs.YtgcclpfpnfmjcaaDoor
