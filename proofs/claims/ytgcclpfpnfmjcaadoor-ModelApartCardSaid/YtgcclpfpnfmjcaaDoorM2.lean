import Derived.Test.YtgcclpfpnfmjcaaDoorM1
namespace Go.Proofs.YtgcclpfpnfmjcaaDoor
open Go

theorem lastO_len {l : List Ev} {R : BM} (h : MarksOf (lastO l) R) : R.length ≤ l.length := by
  have h1 : (R.map (·.1)).Nodup := (List.pairwise_map.2 h.srt).imp fun hlt e => by omega
  have h2 : ∀ k ∈ R.map (·.1), k ∈ l.map (·.o) := fun k hk => by
    obtain ⟨x, hx, rfl⟩ := List.mem_map.1 hk
    have := (gB_iff h.srt (k := x.1) (t := x.2)).2 hx
    rw [h.get] at this
    obtain ⟨e, he, h3, -⟩ := lastO_mem this
    exact List.mem_map.2 ⟨e, he, h3⟩
  have := h1.length_le_of_subset h2
  simpa using this
theorem MarksOf.snoc {l : List Ev} {R : BM} (h : MarksOf (lastO l) R) (e : Ev) : MarksOf (lastO (l ++ [e])) (markB R (e.o, e.s)) :=
  (h.mark e.o e.s).congr fun k => by
    rw [lastO_snoc]
    by_cases hk : k = e.o
    · subst hk; simp
    · rw [if_neg hk, if_neg (fun e => hk e.symm)]
theorem rmarks_spec {v : Value} {l : List Ev} {c : List Blk} (hr : Rd 5 evB v l c) (hl : l.length ≤ 100) : FN Tryd.prog 15 [v] [c] (fun v' h => ∃ R row, MarksOf (lastO l) R ∧ IsSl 49 2 v' (R.flatMap mkB) row ∧ h = [row, c]) := by
  obtain ⟨a, cap, rfl, hcap, hr⟩ := hr
  refine FN.intro 26 [(0, .slice a l.length cap)] Tryd.func15 rfl (enters Tryd.func15 (by kernel_rfl) rfl) Tryd.ntmps15 rfl rfl ?_
  refine WP.seq <| WP.region <| v0 (S0.assign rfl) rfl <| vE <| WP.seq <| WP.region <| vnv (S1.buildSlice rfl (qs := []) rfl rfl) rfl fun b5 => v0 (S0.assign rfl) rfl <| vE <| WP.seq <| WP.seq <| WP.region <| v0 (S0.assign rfl) rfl <| vE <| WP.block <| ?_  -- Code.loop
  refine WP.loop (fun st : Nat × BM × Value × List Blk => st.1 ≤ l.length ∧ MarksOf (lastO (l.take st.1)) st.2.1 ∧ IsSl 49 2 st.2.2.1 (st.2.1.flatMap mkB) st.2.2.2) (fun st : Nat × BM × Value × List Blk => [(0, .slice a l.length cap), (3, st.2.2.1), (4, .int .i64 (st.1 : Int))]) (fun st : Nat × BM × Value × List Blk => [st.2.2.2, c]) (fun st : Nat × BM × Value × List Blk => l.length - st.1) ((0, [], _, [(b5, .cells ⟨[]⟩ 49 (0, 0))])) (⟨Nat.zero_le _, MarksOf.nil, IsSl.row (n := 0) (c := 0) (l := []) (sp := []) rfl rfl (Nat.le_refl _)⟩) ⟨rfl, rfl, rfl, trivial⟩ ⟨_, (take1 at0 (take1 at0 take0))⟩ (fun st hinv => ?_) 
  obtain ⟨i, R, rv, rrow⟩ := st
  obtain ⟨hi, hm, hsl⟩ := hinv
  dsimp only at hi hm hsl ⊢
  refine WP.seq <| WP.seq <| WP.region <| v0 (S0.move rfl) rfl <| v0 (S0.move rfl) rfl <| v0 (S0.lenSl rfl) rfl <| v0 (S0.cmp rfl rfl rfl) rfl <| vE <| ?_  -- cond
  first | refine WP.condP rfl (fun h1 => ?_) (fun h1 => ?_) | refine WP.condN rfl (fun h1 => ?_) (fun h1 => ?_) | refine WP.cond rfl (fun h1 => ?_) (fun h1 => ?_)
  · skip
    have hlt : i < l.length := by omega
    rcases hr with e | ⟨b, o, GL, U, fz, rfl, hmem, hel⟩
    · rw [e] at hlt; simp at hlt
    have : HasC c b (.cells ⟨GL⟩ U fz) := ⟨hmem⟩
    have hx : l[i]? = some l[i] := by simp [hlt]
    generalize l[i] = e at hx
    have hele := hel i e hx
    have hrl := lastO_len hm
    rw [List.length_take] at hrl
    skip
    refine WP.skip <| WP.seq <| WP.block <| WP.drawP [(0, none), (1, none), (2, none), (3, none), (4, none), (5, none), (6, none), (7, none), (8, none), (9, none), (10, none), (11, none), (12, none), (13, none)] mixed (by kernel_rfl) (by kernel_rfl) (by kernel_rfl) (take1 (atS at0) take0) <| w0 rfl rfl rfl (S0.move rfl) rfl <| w0 rfl rfl rfl (S0.move rfl) rfl <| w0 rfl rfl rfl (S0.move rfl) rfl <| ?_  -- op t15 := indexAddr 22 t13 t14
    refine w0 rfl rfl rfl (S0.indexO rfl rfl hlt) rfl <| ?_
    refine w0 rfl rfl rfl (S0.fieldAddr rfl) rfl <| ?_  -- limit
    refine w0 rfl rfl rfl (S0.load rfl (rd_get (k := 5) hele (j := 0) (by omega))) rfl <| ?_
    refine w0 rfl rfl rfl (S0.move rfl) rfl <| w0 rfl rfl rfl (S0.move rfl) rfl <| ?_  -- op t20 := indexAddr 22 t18 t19
    refine w0 rfl rfl rfl (S0.indexO rfl rfl hlt) rfl <| ?_
    refine w0 rfl rfl rfl (S0.fieldAddr rfl) rfl <| ?_  -- limit
    refine w0 rfl rfl rfl (S0.load rfl (rd_get (k := 5) hele (j := 1) (by omega))) rfl <| ?_
    refine w0 rfl rfl rfl (S0.build rfl (qs := [(0, _), (1, _)]) rfl) rfl <| ?_  -- op t24 := call F29{rivulet/rivuletref11.Mark}(t12, t23)
    refine wc rfl rfl rfl rfl (S1.callF rfl (mark_spec hsl (by omega) (e.o, e.s)) (take1 at0 take0)) rfl ?_
    rintro v2 _ ⟨row2, hsl2, rfl⟩
    refine wapp ?_
    refine w0 rfl rfl rfl (S0.assign rfl) rfl <| wE <| WP.region <| v0 (S0.move rfl) rfl <| v0 (S0.ari rfl rfl rfl (wrap_i64 (by omega))) rfl <| v0 (S0.assign rfl) rfl <| vE <| ?_  -- roundend
    exact ⟨(i + 1, markB R (e.o, e.s), v2, row2), (by first | exact ⟨hlt, by rw [take_snoc hx]; exact hm.snoc e, hsl2⟩ | (dsimp only; exact ⟨hlt, by rw [take_snoc hx]; exact hm.snoc e, hsl2⟩)), (show l.length - (i + 1) < l.length - i by omega), ⟨⟨rfl, rfl, rfl, trivial⟩, rfl, rfl⟩, ⟨_, (take1 (atS at0) (take1 at0 take0))⟩⟩
  · skip
    rw [List.take_of_length_le (by omega)] at hm
    refine WP.exit <| WP.seq <| WP.region <| v0 (S0.move rfl) rfl <| v0 (S0.assign rfl) rfl <| vE <| WP.ret <| ?_  -- ret
    refine r1 rfl rfl ?_
    exact ⟨R, rrow, hm, hsl, rfl⟩

/-- the sorted keys of a map are the marks' origins -/
theorem keys_marks {f : Int → Option Int} {L : ML Int} {ck : Nat} (h : RepF f L ck) {xs : ML Int} (hp : xs.Perm L) : MarksOf f ((sortI (xs.map (·.1))).map fun k => (k, (f k).getD 0)) := by
  have hnd : (sortI (xs.map (·.1))).Nodup := (sortI_perm _).nodup_iff.2 ((hp.map _).nodup_iff.2 h.wf.keys)
  have hs : (sortI (xs.map (·.1))).Pairwise (· < ·) := (List.pairwise_and_iff.2 ⟨sortI_pairwise _, hnd⟩).imp fun ⟨h1, h2⟩ => by omega
  have hsr : ((sortI (xs.map (·.1))).map fun k => (k, (f k).getD 0)).Pairwise (fun a b => a.1 < b.1) := List.pairwise_map.2 hs
  refine ⟨hsr, fun k => Option.ext fun s => ?_⟩
  rw [gB_iff hsr]
  have hmem : k ∈ sortI (xs.map (·.1)) ↔ (f k).isSome := by
    rw [(sortI_perm _).mem_iff, (hp.map _).mem_iff]
    have h1 := get_none_iff (L := L) (k := k)
    rw [h.get] at h1
    cases hk : f k with
    | none => rw [hk] at h1; simpa using h1
    | some t => rw [hk] at h1; simp at h1 ⊢; exact h1
  simp only [List.mem_map, Prod.mk.injEq]
  constructor
  · rintro ⟨k', hk, rfl, rfl⟩
    obtain ⟨t, ht⟩ := Option.isSome_iff_exists.1 (hmem.1 hk)
    rw [ht]; rfl
  · intro hs2
    exact ⟨k, hmem.2 (by rw [hs2]; rfl), rfl, by rw [hs2]; rfl⟩
theorem RepF.len {l : List Ev} {L : ML Int} {ck : Nat} (h : RepF (lastO l) L ck) : L.length ≤ l.length := by
  have h2 : ∀ k ∈ L.map (·.1), k ∈ l.map (·.o) := fun k hk => by
    have h1 := get_none_iff (L := L) (k := k)
    rw [h.get] at h1
    cases hk2 : lastO l k with
    | none => rw [hk2] at h1; simp at h1; obtain ⟨x, hx, rfl⟩ := List.mem_map.1 hk; exact absurd hx (h1 _ _)
    | some t => obtain ⟨e, he, h3, -⟩ := lastO_mem hk2; exact List.mem_map.2 ⟨e, he, h3⟩
  have := h.wf.keys.length_le_of_subset h2
  simpa using this
theorem marks_spec {v : Value} {l : List Ev} {c : List Blk} (hr : Rd 5 evB v l c) (hl : l.length ≤ 100) : FN Tryd.prog 14 [v] [c] (fun v' h => ∃ R row, MarksOf (lastO l) R ∧ IsSl 49 2 v' (R.flatMap mkB) row ∧ h = [row, c]) := by
  obtain ⟨a, cap, rfl, hcap, hr⟩ := hr
  refine FN.intro 40 [(0, .slice a l.length cap)] Tryd.func14 rfl (enters Tryd.func14 (by kernel_rfl) rfl) Tryd.ntmps14 rfl rfl ?_
  refine WP.seq <| WP.region <| v0 (S0.assign rfl) rfl <| vE <| WP.seq <| WP.region <| vnv (S1.makeMap) rfl fun b9 => v0 (S0.assign rfl) rfl <| vE <| WP.seq <| WP.seq <| WP.region <| v0 (S0.move rfl) rfl <| v0 (S0.lenSl rfl) rfl <| v0 (S0.move rfl) rfl <| vE <| WP.block <| ?_  -- Code.loop
  refine WP.loop (fun st : Nat × ML Int × Nat => st.1 ≤ l.length ∧ RepF (lastO (l.take st.1)) st.2.1 st.2.2) (fun st : Nat × ML Int × Nat => [(3, .map (some b9)), (10, .slice a l.length cap), (11, .int .i64 (l.length : Int)), (12, .int .i64 (st.1 : Int))]) (fun st : Nat × ML Int × Nat => [[(b9, mapO (Value.int .i64) st.2.1 st.2.2)], c]) (fun st : Nat × ML Int × Nat => l.length - st.1) ((0, [], 0)) (⟨Nat.zero_le _, .nil⟩) ⟨rfl, rfl, rfl, rfl, trivial⟩ ⟨_, (take1 at0 (take1 at0 take0))⟩ (fun st hinv => ?_) 
  obtain ⟨i, L, ck⟩ := st
  obtain ⟨hi, hrep⟩ := hinv
  dsimp only at hi hrep ⊢
  refine WP.seq <| WP.region <| v0 (S0.cmp rfl rfl rfl) rfl <| vE <| WP.seq <| ?_  -- cond
  first | refine WP.condP rfl (fun h1 => ?_) (fun h1 => ?_) | refine WP.condN rfl (fun h1 => ?_) (fun h1 => ?_) | refine WP.cond rfl (fun h1 => ?_) (fun h1 => ?_)
  · skip
    have hlt : i < l.length := by omega
    rcases hr with e | ⟨b, o, GL, U, fz, rfl, hmem, hel⟩
    · rw [e] at hlt; simp at hlt
    have : HasC c b (.cells ⟨GL⟩ U fz) := ⟨hmem⟩
    have hx : l[i]? = some l[i] := by simp [hlt]
    generalize l[i] = e at hx
    have hele := hel i e hx
    refine WP.skip <| WP.seq <| WP.block <| WP.seq <| WP.region <| ?_  -- op t14 := indexAddr 22 t10 t12
    refine v0 (S0.indexO rfl rfl hlt) rfl <| ?_
    refine v0 (S0.loadA (vs := evB e) rfl hele rfl) rfl <| ?_
    refine vn (S1.alloc) rfl fun b5 => vs (S1.storeA rfl rfl rfl) <| vE <| WP.region <| v0 (S0.move rfl) rfl <| v0 (S0.fieldAddr rfl) rfl <| v0 (S0.load rfl rfl) rfl <| v0 (S0.fieldAddr rfl) rfl <| v0 (S0.load rfl rfl) rfl <| ?_  -- op mapUpdate 52 t16 t18 t20
    refine vs (S1.mapUpdate (ek := Value.int .i64) rfl rfl rfl) <| ?_
    refine vE <| WP.region <| v0 (S0.ari rfl rfl rfl (wrap_i64 (by omega))) rfl <| v0 (S0.move rfl) rfl <| vE <| ?_  -- roundend
    exact ⟨(i + 1, _, _), (by first | exact ⟨hlt, by rw [take_snoc hx]; exact hrep.snoc e⟩ | (dsimp only; exact ⟨hlt, by rw [take_snoc hx]; exact hrep.snoc e⟩)), (show l.length - (i + 1) < l.length - i by omega), ⟨⟨rfl, rfl, rfl, rfl, trivial⟩, rfl, rfl⟩, ⟨_, (take1 (atS at0) (take1 (atS at0) take0))⟩⟩
  · skip
    rw [List.take_of_length_le (by omega)] at hrep
    have hLl := hrep.len
    refine WP.exit <| WP.seq <| WP.region <| v0 (S0.assign rfl) rfl <| vE <| WP.seq <| WP.seq <| WP.region <| v0 (S0.move rfl) rfl <| ?_  -- op t23 := call F28{maps.Keys[map[int]int,int,int]}(t22)
    refine vc (S1.callF rfl (keys_spec b9) take0) rfl ?_
    rintro _ _ ⟨bx, rfl, rfl⟩
    refine app ?_
    -- (nothing to walk: op t24 := call F27{slices.Sorted[int]}(t23))
    refine vc (S1.callF rfl (sorted_keys (L := L) (ck := ck) hrep.wf (by omega)) (take1 at0 (take1 at0 take0))) rfl ?_
    rintro kv _ ⟨xs, krow, hp, hks, rfl⟩
    refine app ?_
    have hmo := keys_marks hrep hp
    have hkl : (sortI (xs.map (·.1))).length ≤ 100 := by
      rw [(sortI_perm _).length_eq, List.length_map, hp.length_eq]; omega
    generalize sortI (xs.map (·.1)) = K at hks hmo hkl
    obtain ⟨ka, kc, rfl, -, hkr⟩ := hks.intsE
    refine v0 (S0.lenSl rfl) rfl <| v0 (S0.move rfl) rfl <| vE <| WP.block <| ?_  -- Code.loop
    refine WP.loop (fun st : Nat × Value × List Blk => st.1 ≤ K.length ∧ IsSl 49 2 st.2.1 (((K.take st.1).map fun k => (k, (lastO l k).getD 0)).flatMap mkB) st.2.2) (fun st : Nat × Value × List Blk => [(3, .map (some b9)), (6, st.2.1), (24, .slice ka K.length kc), (25, .int .i64 (K.length : Int)), (26, .int .i64 (st.1 : Int))]) (fun st : Nat × Value × List Blk => [st.2.2, krow, [(b9, mapO (Value.int .i64) L ck)], c]) (fun st : Nat × Value × List Blk => K.length - st.1) ((0, _, [])) (⟨Nat.zero_le _, .nil⟩) ⟨rfl, rfl, rfl, rfl, rfl, trivial⟩ ⟨[], List.Perm.of_eq (by simp)⟩ (fun st hinv => ?_) 
    obtain ⟨j, ov, orow⟩ := st
    obtain ⟨hj, hosl⟩ := hinv
    dsimp only at hj hosl ⊢
    refine WP.seq <| WP.region <| v0 (S0.cmp rfl rfl rfl) rfl <| vE <| WP.seq <| ?_  -- cond
    first | refine WP.condP rfl (fun h2 => ?_) (fun h2 => ?_) | refine WP.condN rfl (fun h2 => ?_) (fun h2 => ?_) | refine WP.cond rfl (fun h2 => ?_) (fun h2 => ?_)
    · skip
      have hlt : j < K.length := by omega
      rcases hkr with ⟨e, -⟩ | ⟨b1, sp1, rfl, rfl, -⟩
      · rw [e] at hlt; simp at hlt
      have hx : K[j]? = some K[j] := by simp [hlt]
      generalize K[j] = k at hx
      have hg := hrep.getD k
      refine WP.skip <| WP.seq <| WP.block <| WP.seq <| WP.region <| ?_  -- op t28 := indexAddr 54 t24 t26
      refine v0 (S0.index1 rfl rfl hlt) rfl <| ?_
      refine v0 (S0.load rfl (ints_get hx)) rfl <| ?_
      refine v0 (S0.assign rfl) rfl <| vE <| WP.region <| v0 (S0.move rfl) rfl <| v0 (S0.move rfl) rfl <| v0 (S0.move rfl) rfl <| v0 (S0.move rfl) rfl <| ?_  -- op t34 := lookup 52 t32 t33 false
      refine v0 (S0.lookupV (ek := Value.int .i64) rfl rfl hg) rfl <| ?_
      refine v0 (S0.build rfl (qs := [(0, _), (1, _)]) rfl) rfl <| vnv (S1.buildSlice rfl (qs := [(0, _)]) rfl rfl) rfl fun b36 => ?_  -- op t37 := append(t30, t36) :[30, 30]
      refine ve (S1.appendL rfl hosl rfl rfl (atS at0) rfl rfl (by rw [flat_len mkB_len]; simp; omega)) rfl ?_
      rintro v2 _ ⟨row2, hsl2, rfl⟩
      refine v0 (S0.assign rfl) rfl <| vE <| WP.region <| v0 (S0.ari rfl rfl rfl (wrap_i64 (by omega))) rfl <| v0 (S0.move rfl) rfl <| vE <| ?_  -- roundend
      exact ⟨(j + 1, v2, row2), (by first | exact ⟨hlt, by rw [take_snoc hx]; simpa using hsl2⟩ | (dsimp only; exact ⟨hlt, by rw [take_snoc hx]; simpa using hsl2⟩)), (show K.length - (j + 1) < K.length - j by omega), ⟨⟨rfl, rfl, rfl, rfl, rfl, trivial⟩, rfl, rfl⟩, ⟨_, (take1 at0 (take1 (atS at0) (take1 (atS at0) (take1 (atS at0) take0))))⟩⟩
    · skip
      rw [List.take_of_length_le (by omega)] at hosl
      refine WP.exit <| WP.seq <| WP.region <| v0 (S0.move rfl) rfl <| v0 (S0.assign rfl) rfl <| vE <| WP.ret <| ?_  -- ret
      refine Leaves.drop (take1 at0 (take1 (atS (atS at0)) take0)) ?_
      refine r1 rfl rfl ?_
      exact ⟨_, orow, hmo, hosl, rfl⟩
theorem eqMk_spec {v1 v2 : Value} {a b : BM} {q1 q2 : List Blk} (h1 : Rd 2 mkB v1 a q1) (h2 : Rd 2 mkB v2 b q2) (hl : a.length ≤ 1000000) : FN Tryd.prog 13 [v1, v2] [q1, q2] (is (.bool (decide (a = b))) [q1, q2]) := by
  obtain ⟨a1, c1, rfl, hc1, hr1⟩ := h1
  obtain ⟨a2, c2, rfl, hc2, hr2⟩ := h2
  refine FN.intro 26 [(0, .slice a1 a.length c1), (1, .slice a2 b.length c2)] Tryd.func13 rfl (enters Tryd.func13 (by kernel_rfl) rfl) Tryd.ntmps13 rfl rfl ?_
  refine WP.seq <| WP.region <| v0 (S0.assign rfl) rfl <| vE <| WP.seq <| WP.seq <| WP.region <| v0 (S0.move rfl) rfl <| v0 (S0.lenSl rfl) rfl <| v0 (S0.move rfl) rfl <| v0 (S0.lenSl rfl) rfl <| v0 (S0.cmp rfl rfl rfl) rfl <| vE <| ?_  -- cond
  first | refine WP.condP rfl (fun hl => ?_) (fun hl => ?_) | refine WP.condN rfl (fun hl => ?_) (fun hl => ?_) | refine WP.cond rfl (fun hl => ?_) (fun hl => ?_)
  · skip
    refine WP.seq <| WP.region <| v0 (S0.assign rfl) rfl <| vE <| WP.ret <| ?_  -- ret
    refine r1 rfl rfl ⟨?_, rfl⟩
    have : a ≠ b := fun e => hl (by rw [e])
    simp [this]
  · skip
    refine WP.skip <| WP.seq <| WP.seq <| WP.region <| v0 (S0.assign rfl) rfl <| vE <| WP.block <| ?_  -- Code.loop
    refine WP.loop (fun i : Nat => i ≤ a.length ∧ a.take i = b.take i) (fun i : Nat => [(0, .slice a1 a.length c1), (1, .slice a2 b.length c2), (5, .int .i64 (i : Int))]) (fun i : Nat => [q1, q2]) (fun i : Nat => a.length - i) (0) (⟨Nat.zero_le _, rfl⟩) ⟨rfl, rfl, rfl, trivial⟩ ⟨_, (take1 at0 (take1 at0 take0))⟩ (fun i hinv => ?_) 
    obtain ⟨hi, htk⟩ := hinv
    refine WP.seq <| WP.seq <| WP.region <| v0 (S0.move rfl) rfl <| v0 (S0.move rfl) rfl <| v0 (S0.lenSl rfl) rfl <| v0 (S0.cmp rfl rfl rfl) rfl <| vE <| ?_  -- cond
    first | refine WP.condP rfl (fun h3 => ?_) (fun h3 => ?_) | refine WP.condN rfl (fun h3 => ?_) (fun h3 => ?_) | refine WP.cond rfl (fun h3 => ?_) (fun h3 => ?_)
    · skip
      have hlt : i < a.length := by omega
      have hlt2 : i < b.length := by omega
      rcases hr1 with rfl | ⟨b1, o1, L1, U1, f1, rfl, hm1, he1⟩
      · simp at hlt
      rcases hr2 with rfl | ⟨b2, o2, L2, U2, f2, rfl, hm2, he2⟩
      · simp at hlt2
      have : HasC q1 b1 (.cells ⟨L1⟩ U1 f1) := ⟨hm1⟩
      have : HasC q2 b2 (.cells ⟨L2⟩ U2 f2) := ⟨hm2⟩
      have hx : a[i]? = some a[i] := by simp [hlt]
      have hy : b[i]? = some b[i] := by simp [hlt2]
      generalize a[i] = x at hx
      generalize b[i] = y at hy
      skip
      refine WP.skip <| WP.seq <| WP.block <| WP.seq <| WP.drawP [(0, none), (1, none), (2, none), (3, none), (4, none), (5, none), (6, none), (7, none), (8, none)] mixed (by kernel_rfl) (by kernel_rfl) (by kernel_rfl) (take1 at0 (take1 at0 take0)) <| w0 rfl rfl rfl (S0.move rfl) rfl <| w0 rfl rfl rfl (S0.move rfl) rfl <| ?_  -- op t19 := indexAddr 30 t17 t18
      refine w0 rfl rfl rfl (S0.indexO rfl rfl hlt) rfl <| ?_
      refine w0 rfl rfl rfl (S0.loadA (vs := mkB x) rfl (he1 i x hx) rfl) rfl <| ?_
      refine w0 rfl rfl rfl (S0.move rfl) rfl <| w0 rfl rfl rfl (S0.move rfl) rfl <| ?_  -- op t23 := indexAddr 30 t21 t22
      refine w0 rfl rfl rfl (S0.indexO rfl rfl hlt2) rfl <| ?_
      refine w0 rfl rfl rfl (S0.loadA (vs := mkB y) rfl (he2 i y hy) rfl) rfl <| ?_
      refine w0 rfl rfl rfl (S0.eqAg rfl rfl rfl rfl) rfl <| wE <| ?_  -- cond
      first | refine WP.condP rfl (fun h4 => ?_) (fun h4 => ?_) | refine WP.condN rfl (fun h4 => ?_) (fun h4 => ?_) | refine WP.cond rfl (fun h4 => ?_) (fun h4 => ?_)
      · skip
        refine WP.seq <| WP.region <| v0 (S0.assign rfl) rfl <| vE <| WP.ret <| ?_  -- ret
        refine r1 rfl rfl ⟨?_, rfl⟩
        have : a ≠ b := fun e => by subst e; rw [hx] at hy; cases hy; simp at h4
        simp [this]
      · skip
        have hxy : x = y := Prod.ext_iff.2 (by simpa using h4)
        refine WP.skip <| WP.region <| v0 (S0.move rfl) rfl <| v0 (S0.ari rfl rfl rfl (wrap_i64 (by omega))) rfl <| v0 (S0.assign rfl) rfl <| vE <| ?_  -- roundend
        exact ⟨i + 1, (by first | exact ⟨hlt, by rw [take_snoc hx, take_snoc hy, htk, hxy]⟩ | (dsimp only; exact ⟨hlt, by rw [take_snoc hx, take_snoc hy, htk, hxy]⟩)), (by omega), ⟨⟨rfl, rfl, rfl, trivial⟩, rfl, rfl⟩, ⟨_, (take1 at0 (take1 at0 take0))⟩⟩
    · skip
      refine WP.exit <| WP.seq <| WP.region <| v0 (S0.assign rfl) rfl <| vE <| WP.ret <| ?_  -- ret
      refine r1 rfl rfl ⟨?_, rfl⟩
      have : a = b := by
        rw [List.take_of_length_le (by omega), List.take_of_length_le (by omega)] at htk
        exact htk
      simp [this]
theorem eqEv_spec {v1 v2 : Value} {a b : List Ev} {q1 q2 : List Blk} (h1 : Rd 5 evB v1 a q1) (h2 : Rd 5 evB v2 b q2) (hl : a.length ≤ 1000000) : FN Tryd.prog 19 [v1, v2] [q1, q2] (is (.bool (decide (a = b))) [q1, q2]) := by
  obtain ⟨a1, c1, rfl, hc1, hr1⟩ := h1
  obtain ⟨a2, c2, rfl, hc2, hr2⟩ := h2
  refine FN.intro 26 [(0, .slice a1 a.length c1), (1, .slice a2 b.length c2)] Tryd.func19 rfl (enters Tryd.func19 (by kernel_rfl) rfl) Tryd.ntmps19 rfl rfl ?_
  refine WP.seq <| WP.region <| v0 (S0.assign rfl) rfl <| vE <| WP.seq <| WP.seq <| WP.region <| v0 (S0.move rfl) rfl <| v0 (S0.lenSl rfl) rfl <| v0 (S0.move rfl) rfl <| v0 (S0.lenSl rfl) rfl <| v0 (S0.cmp rfl rfl rfl) rfl <| vE <| ?_  -- cond
  first | refine WP.condP rfl (fun hl => ?_) (fun hl => ?_) | refine WP.condN rfl (fun hl => ?_) (fun hl => ?_) | refine WP.cond rfl (fun hl => ?_) (fun hl => ?_)
  · skip
    refine WP.seq <| WP.region <| v0 (S0.assign rfl) rfl <| vE <| WP.ret <| ?_  -- ret
    refine r1 rfl rfl ⟨?_, rfl⟩
    have : a ≠ b := fun e => hl (by rw [e])
    simp [this]
  · skip
    refine WP.skip <| WP.seq <| WP.seq <| WP.region <| v0 (S0.assign rfl) rfl <| vE <| WP.block <| ?_  -- Code.loop
    refine WP.loop (fun i : Nat => i ≤ a.length ∧ a.take i = b.take i) (fun i : Nat => [(0, .slice a1 a.length c1), (1, .slice a2 b.length c2), (5, .int .i64 (i : Int))]) (fun i : Nat => [q1, q2]) (fun i : Nat => a.length - i) (0) (⟨Nat.zero_le _, rfl⟩) ⟨rfl, rfl, rfl, trivial⟩ ⟨_, (take1 at0 (take1 at0 take0))⟩ (fun i hinv => ?_) 
    obtain ⟨hi, htk⟩ := hinv
    refine WP.seq <| WP.seq <| WP.region <| v0 (S0.move rfl) rfl <| v0 (S0.move rfl) rfl <| v0 (S0.lenSl rfl) rfl <| v0 (S0.cmp rfl rfl rfl) rfl <| vE <| ?_  -- cond
    first | refine WP.condP rfl (fun h3 => ?_) (fun h3 => ?_) | refine WP.condN rfl (fun h3 => ?_) (fun h3 => ?_) | refine WP.cond rfl (fun h3 => ?_) (fun h3 => ?_)
    · skip
      have hlt : i < a.length := by omega
      have hlt2 : i < b.length := by omega
      rcases hr1 with rfl | ⟨b1, o1, L1, U1, f1, rfl, hm1, he1⟩
      · simp at hlt
      rcases hr2 with rfl | ⟨b2, o2, L2, U2, f2, rfl, hm2, he2⟩
      · simp at hlt2
      have : HasC q1 b1 (.cells ⟨L1⟩ U1 f1) := ⟨hm1⟩
      have : HasC q2 b2 (.cells ⟨L2⟩ U2 f2) := ⟨hm2⟩
      have hx : a[i]? = some a[i] := by simp [hlt]
      have hy : b[i]? = some b[i] := by simp [hlt2]
      generalize a[i] = x at hx
      generalize b[i] = y at hy
      skip
      refine WP.skip <| WP.seq <| WP.block <| WP.seq <| WP.drawP [(0, none), (1, none), (2, none), (3, none), (4, none), (5, none), (6, none), (7, none), (8, none)] mixed (by kernel_rfl) (by kernel_rfl) (by kernel_rfl) (take1 at0 (take1 at0 take0)) <| w0 rfl rfl rfl (S0.move rfl) rfl <| w0 rfl rfl rfl (S0.move rfl) rfl <| ?_  -- op t19 := indexAddr 22 t17 t18
      refine w0 rfl rfl rfl (S0.indexO rfl rfl hlt) rfl <| ?_
      refine w0 rfl rfl rfl (S0.loadA (vs := evB x) rfl (he1 i x hx) rfl) rfl <| ?_
      refine w0 rfl rfl rfl (S0.move rfl) rfl <| w0 rfl rfl rfl (S0.move rfl) rfl <| ?_  -- op t23 := indexAddr 22 t21 t22
      refine w0 rfl rfl rfl (S0.indexO rfl rfl hlt2) rfl <| ?_
      refine w0 rfl rfl rfl (S0.loadA (vs := evB y) rfl (he2 i y hy) rfl) rfl <| ?_
      refine w0 rfl rfl rfl (S0.eqAg rfl rfl rfl rfl) rfl <| wE <| ?_  -- cond
      first | refine WP.condP rfl (fun h4 => ?_) (fun h4 => ?_) | refine WP.condN rfl (fun h4 => ?_) (fun h4 => ?_) | refine WP.cond rfl (fun h4 => ?_) (fun h4 => ?_)
      · skip
        refine WP.seq <| WP.region <| v0 (S0.assign rfl) rfl <| vE <| WP.ret <| ?_  -- ret
        refine r1 rfl rfl ⟨?_, rfl⟩
        have : a ≠ b := fun e => by subst e; rw [hx] at hy; cases hy; simp at h4
        simp [this]
      · skip
        have hxy : x = y := by
          simp only [Bool.not_eq_eq_eq_not, Bool.not_false, Bool.not_true, Bool.and_eq_true, decide_eq_true_eq, Bool.and_true] at h4
          cases x; cases y; simp_all
        refine WP.skip <| WP.region <| v0 (S0.move rfl) rfl <| v0 (S0.ari rfl rfl rfl (wrap_i64 (by omega))) rfl <| v0 (S0.assign rfl) rfl <| vE <| ?_  -- roundend
        exact ⟨i + 1, (by first | exact ⟨hlt, by rw [take_snoc hx, take_snoc hy, htk, hxy]⟩ | (dsimp only; exact ⟨hlt, by rw [take_snoc hx, take_snoc hy, htk, hxy]⟩)), (by omega), ⟨⟨rfl, rfl, rfl, trivial⟩, rfl, rfl⟩, ⟨_, (take1 at0 (take1 at0 take0))⟩⟩
    · skip
      refine WP.exit <| WP.seq <| WP.region <| v0 (S0.assign rfl) rfl <| vE <| WP.ret <| ?_  -- ret
      refine r1 rfl rfl ⟨?_, rfl⟩
      have : a = b := by
        rw [List.take_of_length_le (by omega), List.take_of_length_le (by omega)] at htk
        exact htk
      simp [this]
end Go.Proofs.YtgcclpfpnfmjcaaDoor
