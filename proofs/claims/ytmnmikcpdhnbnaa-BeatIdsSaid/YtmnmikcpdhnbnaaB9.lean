import Derived.Test.YtmnmikcpdhnbnaaB7
namespace Go.Proofs.Ytmnmikcpdhnbnaa
open Go

theorem perm_mem {ins : List Int} {R : BM} (hp : ins.Perm (idsB R)) (k : Int) : k ∈ ins ↔ (gB R k).isSome = true := by
  rw [hp.mem_iff]
  have := gB_none (R := R) (k := k)
  unfold idsB
  cases h : gB R k with
  | none => rw [h] at this; simpa using this.1 rfl
  | some t =>
    simp only [Option.isSome_some, iff_true]
    exact List.mem_map.2 ⟨_, gB_mem h, rfl⟩
theorem had_iff {ins : List Int} (k : Int) : (ins.filter fun x => decide (x ≠ k)).length < ins.length ↔ k ∈ ins := by
  induction ins with
  | nil => simp
  | cons x ins ih =>
    have hle := List.length_filter_le (fun x => decide (x ≠ k)) ins
    by_cases e : x = k
    · subst e
      simp only [List.filter_cons, ne_eq, not_true_eq_false, decide_false, Bool.false_eq_true, if_false, List.length_cons, List.mem_cons, true_or, iff_true]
      simp only [ne_eq] at hle
      omega
    · simp only [List.filter_cons, ne_eq, e, not_false_eq_true, decide_true, if_true, List.length_cons, List.mem_cons]
      simp only [ne_eq] at ih
      constructor
      · intro h; exact .inr (ih.1 (by omega))
      · intro h; have := ih.2 (h.resolve_left (fun h => e h.symm)); omega
theorem ids_ins {R : BM} {k t : Int} : (idsB (insB R k t)).Perm (k :: idsB R) := by
  unfold idsB
  induction R with
  | nil => exact List.Perm.refl _
  | cons x R ih =>
    simp only [insB]
    split
    · simp only [List.map_cons]
      exact (ih.cons _).trans (List.Perm.swap _ _ _)
    · exact List.Perm.refl _
theorem ids_del {R : BM} (ho : OkB R) (k : Int) : idsB (delB R k) = (idsB R).filter fun x => decide (x ≠ k) := by
  have hk := ho.keys
  clear ho
  unfold idsB
  induction R with
  | nil => rfl
  | cons x R ih =>
    simp only [List.map_cons, List.nodup_cons] at hk
    simp only [delB]
    split
    · rename_i e
      subst e
      simp only [List.map_cons, List.filter_cons, ne_eq, not_true_eq_false, decide_false, Bool.false_eq_true, if_false]
      symm
      rw [List.filter_eq_self]
      intro a ha
      have : a ≠ x.1 := fun e => hk.1 (e ▸ ha)
      simp [this]
    · rename_i e
      have : x.1 ≠ k := fun h => e h.symm
      simp only [List.map_cons, List.filter_cons, ne_eq, this, not_false_eq_true, decide_true, if_true]
      congr 1
      simpa using ih hk.2
theorem ids_heard {R : BM} {k now : Int} : idsB (heardR R k now) = idsB R := by
  unfold heardR idsB
  split
  · rw [set_fst]
  · rfl
theorem ids_at {R : BM} (ho : OkB R) {i : Nat} {k : Int} (h : (idsB R)[i]? = some k) : ∃ t, gB R k = some t ∧ 0 ≤ t ∧ t ≤ 1099511627776 := by
  unfold idsB at h
  rw [List.getElem?_map] at h
  cases hx : R[i]? with
  | none => rw [hx] at h; cases h
  | some x =>
    rw [hx] at h
    simp only [Option.map_some, Option.some.injEq] at h
    subst h
    have hm := List.mem_of_getElem? hx
    exact ⟨x.2, gB_of_mem ho hm, (ho.tm _ hm).2⟩
theorem ids_rise {R : BM} (ho : OkB R) {i : Nat} {k k' : Int} (h : (idsB R)[i]? = some k) (h' : (idsB R)[i + 1]? = some k') : k < k' := by
  have hp : (idsB R).Pairwise (· < ·) := List.pairwise_map.2 ho.srt
  obtain ⟨h1, e1⟩ := List.getElem?_eq_some_iff.1 h
  obtain ⟨h2, e2⟩ := List.getElem?_eq_some_iff.1 h'
  rw [← e1, ← e2]
  exact List.pairwise_iff_getElem.1 hp i (i + 1) h1 h2 (by omega)
theorem late_mem {R : BM} (ho : OkB R) {limit k now t : Int} (h : gB R k = some t) : k ∈ lateB R limit now ↔ isTime now = true ∧ limit ≤ now - t := by
  unfold lateB
  split
  · rename_i hT
    simp only [hT, true_and, List.mem_map, List.mem_filter, decide_eq_true_eq]
    constructor
    · rintro ⟨x, ⟨hx, hl⟩, rfl⟩
      rw [gB_of_mem ho hx] at h
      cases h
      exact hl
    · intro hl
      exact ⟨(k, t), ⟨gB_mem h, hl⟩, rfl⟩
  · rename_i hT
    simp [hT]

theorem beatIds_walk (W : World) (g : Value) (hg : ArgI W 3 g) : FN Try.prog 6 [g] [whole W] (fun v h => v = .bool true ∧ h = [whole W]) := by
  obtain ⟨ga, glen, gcap, rfl, -, hgs⟩ := hg
  refine FN.intro 187 [(0, .slice ga glen gcap)] Try.func6 rfl (enters Try.func6 (by kernel_rfl) rfl) Try.ntmps6 rfl rfl ?_
  refine WP.seq <| WP.region <| v0 (S0.assign rfl) rfl <| vE <| WP.seq <| WP.region <| ?_  -- op t20 := call F8{rivulet/beat.New}(2:i64, 7:i64)
  refine vc (S1.callF rfl (new_ok (every := 2) (limit := 7) (by decide)) take0) rfl ?_
  rintro _ _ ⟨b, c0, rfl, rfl, hc0⟩
  refine app ?_
  refine v0 (S0.move rfl) rfl <| v0 (S0.extract rfl rfl) rfl <| v0 (S0.extract rfl rfl) rfl <| v0 (S0.assign rfl) rfl <| v0 (S0.assign rfl) rfl <| vE <| WP.seq <| WP.seq <| WP.region <| v0 (S0.move rfl) rfl <| v0 (S0.nilP rfl rfl rfl rfl) rfl <| v0 (S0.move rfl) rfl <| ?_  -- guard t25 (wants False) at t26 := move t4 [if #2=False]
  refine csFh (t := 25) rfl (rfl) ?_
  refine gT rfl <| v0 (S0.move rfl) rfl <| gT rfl <| v0 (S0.cmp rfl rfl rfl) rfl <| v0 (S0.pickF rfl rfl) rfl <| vE <| ?_  -- cond
  refine WP.condFh rfl (rfl) ?_
  refine WP.skip <| WP.seq <| WP.region <| vnv (S1.buildSlice rfl (qs := []) rfl rfl) rfl fun b29 => v0 (S0.assign rfl) rfl <| vE <| ?_  -- cut
  refine WP.cutS (fun s : Nat => True) (fun s : Nat => [(0, .slice ga glen gcap)]) (fun s : Nat => [whole W]) ?_ (fun s hinv => ?_)
  · refine WP.seq <| WP.region <| v0 (S0.assign rfl) rfl <| vE <| WP.block <| ?_  -- Code.loop
    refine WP.loop (fun s : Nat × Value × List Blk × List Int × BM × List Blk => s.1 ≤ 80 ∧ IsSl 3 1 s.2.1 (ints s.2.2.2.1) s.2.2.1 ∧ s.2.2.2.1.Perm (idsB s.2.2.2.2.1) ∧ s.2.2.2.2.1.length ≤ s.1 ∧ OkB s.2.2.2.2.1 ∧ IsB b 2 7 (-1) s.2.2.2.2.1 s.2.2.2.2.2) (fun s : Nat × Value × List Blk × List Int × BM × List Blk => [(0, .slice ga glen gcap), (3, .pointer (some ⟨b, 0, none⟩)), (5, s.2.1), (6, .int .i64 (s.1 : Int))]) (fun s : Nat × Value × List Blk × List Int × BM × List Blk => [s.2.2.1, s.2.2.2.2.2, whole W]) (fun s : Nat × Value × List Blk × List Int × BM × List Blk => 80 - s.1) ((0, _, [(b29, .cells ⟨[]⟩ 3 (0, 0))], [], [], c0)) (⟨Nat.zero_le _, IsSl.row (n := 0) (c := 0) (l := []) (sp := []) rfl rfl (Nat.le_refl _), List.Perm.refl _, Nat.le_refl _, .nil, hc0⟩) ⟨rfl, rfl, rfl, rfl, trivial⟩ ⟨_, (take1 at0 (take1 at0 (take1 at0 take0)))⟩ (fun s hinv => ?_) 
    obtain ⟨i, vin, rin, ins, R, c⟩ := s
    obtain ⟨hi, hsl, hpm, hlen, hO, hc⟩ := hinv
    dsimp only at hi hsl hpm hlen hO hc ⊢
    have hil : ins.length ≤ 80 := by have := hpm.length_eq; simp [idsB] at this; omega
    obtain ⟨ain, cin, rfl, hcin, hin⟩ := hsl.intsE
    refine WP.seq <| WP.seq <| WP.region <| v0 (S0.move rfl) rfl <| v0 (S0.move rfl) rfl <| v0 (S0.lenSl rfl) rfl <| v0 (S0.cmp rfl rfl rfl) rfl <| v0 (S0.move rfl) rfl <| ?_  -- guard t34 (wants True) at t35 := move t6 [if #4=True]
    first | refine csP (t := 34) rfl (fun h1 => ?_) (fun h1 => ?_) | refine csN (t := 34) rfl (fun h1 => ?_) (fun h1 => ?_) | refine cs (t := 34) rfl (fun h1 => ?_) (fun h1 => ?_)
    · skip
      refine gT rfl <| v0 (S0.move rfl) rfl <| gT rfl <| v0 (S0.cmp rfl rfl rfl) rfl <| v0 (S0.pickT rfl rfl) rfl <| vE <| ?_  -- cond
      first | refine WP.condP rfl (fun h2 => ?_) (fun h2 => ?_) | refine WP.condN rfl (fun h2 => ?_) (fun h2 => ?_) | refine WP.cond rfl (fun h2 => ?_) (fun h2 => ?_)
      · skip
        rcases hgs with h0 | ⟨gb, go, GL, GU, gfz, rfl, hgb, hcell⟩
        · omega
        have hlt : i < glen := by omega
        obtain ⟨kd, hkd, -⟩ := hcell i 0 hlt (by decide)
        obtain ⟨id, hid, -⟩ := hcell i 1 hlt (by decide)
        obtain ⟨now, hnow, -⟩ := hcell i 2 hlt (by decide)
        have : HasC (whole W) gb (.cells ⟨GL⟩ GU gfz) := ⟨whole_mem.2 hgb⟩
        refine WP.skip <| WP.seq <| WP.block <| WP.seq <| WP.region <| v0 (S0.move rfl) rfl <| v0 (S0.move rfl) rfl <| ?_  -- op t42 := indexAddr 22 t40 t41
        refine v0 (S0.indexO rfl rfl hlt) rfl <| ?_
        refine v0 (S0.loadA rfl (take3_of hkd hid hnow) rfl) rfl <| ?_
        refine vn (S1.alloc rfl) rfl fun b7 => vs (S1.storeA rfl rfl rfl) <| vE <| WP.seq <| WP.region <| vnv (S1.buildSlice rfl (qs := []) rfl rfl) rfl fun b44 => v0 (S0.assign rfl) rfl <| vE <| ?_  -- cut
        refine WP.cutS (fun s : Value × List Blk => IsSl 3 1 s.1 (ints (ins.filter fun x => decide (x ≠ id))) s.2) (fun s : Value × List Blk => [(0, .slice (some ⟨gb, go, none⟩) glen gcap), (3, .pointer (some ⟨b, 0, none⟩)), (5, .slice ain ins.length cin), (6, .int .i64 (i : Int)), (7, .pointer (some ⟨b7, 0, none⟩)), (8, s.1)]) (fun s : Value × List Blk => [[(b7, cel [.int .i64 kd, .int .i64 id, .int .i64 now] 31)], s.2, rin, c, whole W]) ?_ (fun s hinv => ?_)
        · refine WP.seq <| WP.region <| v0 (S0.assign rfl) rfl <| vE <| WP.block <| ?_  -- Code.loop
          refine WP.loop (fun s : Nat × Value × List Blk => s.1 ≤ ins.length ∧ IsSl 3 1 s.2.1 (ints ((ins.take s.1).filter fun x => decide (x ≠ id))) s.2.2) (fun s : Nat × Value × List Blk => [(0, .slice (some ⟨gb, go, none⟩) glen gcap), (3, .pointer (some ⟨b, 0, none⟩)), (5, .slice ain ins.length cin), (6, .int .i64 (i : Int)), (7, .pointer (some ⟨b7, 0, none⟩)), (8, s.2.1), (9, .int .i64 (s.1 : Int))]) (fun s : Nat × Value × List Blk => [[(b7, cel [.int .i64 kd, .int .i64 id, .int .i64 now] 31)], s.2.2, rin, c, whole W]) (fun s : Nat × Value × List Blk => ins.length - s.1) ((0, _, [(b44, .cells ⟨[]⟩ 3 (0, 0))])) (⟨Nat.zero_le _, IsSl.row (n := 0) (c := 0) (l := []) (sp := []) rfl rfl (Nat.le_refl _)⟩) ⟨rfl, rfl, rfl, rfl, rfl, rfl, rfl, trivial⟩ ⟨_, (take1 (atS at0) (take1 at0 (take1 at0 (take1 at0 (take1 at0 take0)))))⟩ (fun s hinv => ?_) 
          obtain ⟨j, vr, rr⟩ := s
          obtain ⟨hj, hslr⟩ := hinv
          dsimp only at hj hslr ⊢
          refine WP.seq <| WP.seq <| WP.region <| v0 (S0.move rfl) rfl <| v0 (S0.move rfl) rfl <| v0 (S0.lenSl rfl) rfl <| v0 (S0.cmp rfl rfl rfl) rfl <| vE <| ?_  -- cond
          first | refine WP.condP rfl (fun h3 => ?_) (fun h3 => ?_) | refine WP.condN rfl (fun h3 => ?_) (fun h3 => ?_) | refine WP.cond rfl (fun h3 => ?_) (fun h3 => ?_)
          · skip
            have hjl : j < ins.length := by omega
            rcases hin with ⟨rfl, -⟩ | ⟨bi, spi, rfl, rfl, hspi⟩
            · simp at hjl
            have hx : ins[j]? = some ins[j] := by simp [hjl]
            have hrl : (ints ((ins.take j).filter fun x => decide (x ≠ id))).length ≤ 80 := by
              rw [ints_len]; exact Nat.le_trans (List.length_filter_le _ _) (by rw [List.length_take]; omega)
            refine WP.skip <| WP.seq <| WP.block <| WP.seq <| WP.drawP [0, 1, 2, 3, 4, 5, 6] mixed (by kernel_rfl) (by kernel_rfl) (by kernel_rfl) (take1 at0 (take1 (atS at0) take0)) <| w0 rfl rfl rfl (S0.move rfl) rfl <| w0 rfl rfl rfl (S0.move rfl) rfl <| ?_  -- op t53 := indexAddr 37 t51 t52
            refine w0 rfl rfl rfl (S0.index1 rfl rfl hjl) rfl <| ?_
            refine w0 rfl rfl rfl (S0.load rfl (ints_get hx)) rfl <| ?_
            refine w0 rfl rfl rfl (S0.fieldAddr rfl) rfl <| w0 rfl rfl rfl (S0.load rfl rfl) rfl <| w0 rfl rfl rfl (S0.cmp rfl rfl rfl) rfl <| wE <| ?_  -- cond
            first | refine WP.condP rfl (fun h4 => ?_) (fun h4 => ?_) | refine WP.condN rfl (fun h4 => ?_) (fun h4 => ?_) | refine WP.cond rfl (fun h4 => ?_) (fun h4 => ?_)
            · skip
              refine WP.region <| v0 (S0.move rfl) rfl <| v0 (S0.move rfl) rfl <| v0 (S0.move rfl) rfl <| ?_  -- op t61 := indexAddr 37 t59 t60
              refine v0 (S0.index1 rfl rfl hjl) rfl <| ?_
              refine v0 (S0.load rfl (ints_get hx)) rfl <| ?_
              refine vnv (S1.buildSlice rfl (qs := [(0, _)]) rfl rfl) rfl fun b63 => ?_  -- op t64 := append(t58, t63) :[37, 37]
              refine ve (S1.appendL rfl hslr rfl rfl (atS (atS (atS at0))) rfl rfl (by simp only [List.length_cons, List.length_nil]; omega)) rfl ?_
              rintro v2 _ ⟨row2, hsl2, rfl⟩
              refine v0 (S0.assign rfl) rfl <| vE <| WP.region <| v0 (S0.move rfl) rfl <| v0 (S0.ari rfl rfl rfl (wrap_i64 (by omega))) rfl <| v0 (S0.assign rfl) rfl <| vE <| ?_  -- roundend
              have e : ints ((ins.take (j + 1)).filter fun x => decide (x ≠ id)) = ints ((ins.take j).filter fun x => decide (x ≠ id)) ++ [.int .i64 ins[j]] := by
                rw [List.take_add_one, hx, List.filter_append]
                simp only [Option.toList, List.filter_cons, List.filter_nil, ne_eq, h4, not_false_eq_true, decide_true, if_true, ints, List.map_append, List.map_cons, List.map_nil]
              exact ⟨(j + 1, v2, row2), (by first | exact ⟨hjl, by rw [e]; exact hsl2⟩ | (dsimp only; exact ⟨hjl, by rw [e]; exact hsl2⟩)), (show ins.length - (j + 1) < ins.length - j by omega), ⟨⟨rfl, rfl, rfl, rfl, rfl, rfl, rfl, trivial⟩, rfl, rfl⟩, ⟨_, (take1 (atS (atS at0)) (take1 at0 (take1 (atS at0) (take1 (atS at0) (take1 (atS at0) take0)))))⟩⟩
            · skip
              refine WP.skip <| WP.region <| v0 (S0.move rfl) rfl <| v0 (S0.ari rfl rfl rfl (wrap_i64 (by omega))) rfl <| v0 (S0.assign rfl) rfl <| vE <| ?_  -- roundend
              have e : (ins.take (j + 1)).filter (fun x => decide (x ≠ id)) = (ins.take j).filter fun x => decide (x ≠ id) := by
                rw [List.take_add_one, hx, List.filter_append]
                have h4' : ins[j] = id := by simpa using h4
                simp [h4']
              exact ⟨(j + 1, vr, rr), (by first | exact ⟨hjl, by rw [e]; exact hslr⟩ | (dsimp only; exact ⟨hjl, by rw [e]; exact hslr⟩)), (show ins.length - (j + 1) < ins.length - j by omega), ⟨⟨rfl, rfl, rfl, rfl, rfl, rfl, rfl, trivial⟩, rfl, rfl⟩, ⟨_, (take1 at0 (take1 (atS at0) (take1 at0 (take1 at0 (take1 at0 take0)))))⟩⟩
          · skip
            refine WP.exit <| ?_  -- cutend
            exact ⟨(vr, rr), (by first | exact (by rw [List.take_of_length_le (by omega)] at hslr; exact hslr) | (dsimp only; exact (by rw [List.take_of_length_le (by omega)] at hslr; exact hslr))), ⟨⟨rfl, rfl, rfl, rfl, rfl, rfl, trivial⟩, rfl, rfl⟩, ⟨_, (take1 at0 (take1 at0 (take1 at0 (take1 at0 (take1 at0 take0)))))⟩⟩
        · skip
          obtain ⟨vr, rr⟩ := s
          dsimp only at hinv ⊢
          obtain ⟨ar, cr, rfl, -, -⟩ := hinv.intsE
          have hhad : decide (((ins.filter fun x => decide (x ≠ id)).length : Int) < (ins.length : Int)) = (gB R id).isSome := by
            rw [Bool.eq_iff_iff, decide_eq_true_eq, ← perm_mem hpm, ← had_iff]; omega
          have hfl : (ins.filter fun x => decide (x ≠ id)).length ≤ ins.length := List.length_filter_le _ _
          refine WP.seq <| WP.region <| v0 (S0.move rfl) rfl <| v0 (S0.lenSl rfl) rfl <| v0 (S0.move rfl) rfl <| v0 (S0.lenSl rfl) rfl <| v0 (S0.cmp rfl rfl rfl) rfl <| v0 (S0.assign rfl) rfl <| vE <| ?_  -- cut
          refine WP.cutS (fun s : Value × List Blk × List Int × BM × List Blk => IsSl 3 1 s.1 (ints s.2.2.1) s.2.1 ∧ s.2.2.1.Perm (idsB s.2.2.2.1) ∧ s.2.2.2.1.length ≤ i + 1 ∧ OkB s.2.2.2.1 ∧ IsB b 2 7 (-1) s.2.2.2.1 s.2.2.2.2) (fun s : Value × List Blk × List Int × BM × List Blk => [(0, .slice (some ⟨gb, go, none⟩) glen gcap), (3, .pointer (some ⟨b, 0, none⟩)), (5, s.1), (6, .int .i64 (i : Int)), (7, .pointer (some ⟨b7, 0, none⟩))]) (fun s : Value × List Blk × List Int × BM × List Blk => [[(b7, cel [.int .i64 kd, .int .i64 id, .int .i64 now] 31)], s.2.1, s.2.2.2.2, whole W]) ?_ (fun s hinv => ?_)
          · refine WP.seq <| WP.region <| v0 (S0.fieldAddr rfl) rfl <| v0 (S0.load rfl rfl) rfl <| vE <| WP.block <| WP.seq <| WP.region <| v0 (S0.cmp rfl rfl rfl) rfl <| v0 (S0.assign rfl) rfl <| vE <| ?_  -- cond
            first | refine WP.condP rfl (fun hk0 => ?_) (fun hk0 => ?_) | refine WP.condN rfl (fun hk0 => ?_) (fun hk0 => ?_) | refine WP.cond rfl (fun hk0 => ?_) (fun hk0 => ?_)
            · skip
              refine WP.seq <| WP.region <| v0 (S0.move rfl) rfl <| v0 (S0.fieldAddr rfl) rfl <| v0 (S0.load rfl rfl) rfl <| v0 (S0.fieldAddr rfl) rfl <| v0 (S0.load rfl rfl) rfl <| ?_  -- op t79 := call F10{(*rivulet/beat.Beats).Watch}(t74, t76, t78)
              refine vc (S1.callF rfl (watch_spec hc id now) (take1 (atS (atS (atS at0))) take0)) rfl ?_
              rintro _ _ ⟨rfl, c2, rfl, hc2⟩
              refine app ?_
              refine v0 (S0.assign rfl) rfl <| vE <| WP.seq <| WP.seq <| WP.region <| v0 (S0.move rfl) rfl <| v0 (S0.cmp rfl rfl rfl) rfl <| v0 (S0.move rfl) rfl <| ?_  -- guard t82 (wants True) at t83 := move t10 [if #2=True]
              have hw : watchE R id now = 9 → (gB R id).isSome = true := by
                intro h; unfold watchE at h; split at h
                · split at h
                  · assumption
                  · cases h
                · cases h
              skip
              by_cases h9 : watchE R id now = 9
              · skip
                refine csTh (t := 82) rfl ((decide_eq_true h9)) ?_
                refine gT rfl <| v0 (S0.move rfl) rfl <| gT rfl <| v0 (S0.not rfl) rfl <| v0 (S0.pickT rfl rfl) rfl <| vE <| ?_  -- cond
                refine WP.condFh rfl ((by rw [hhad, hw h9]; rfl)) ?_
                refine WP.skip <| WP.seq <| WP.region <| v0 (S0.move rfl) rfl <| v0 (S0.cmp rfl rfl rfl) rfl <| vE <| ?_  -- cond
                refine WP.condFh rfl ((by rw [h9]; rfl)) ?_
                refine WP.skip <| ?_  -- cutend
                exact ⟨(.slice ain ins.length cin, rin, ins, watchR R id now, c2), (by first | exact ⟨hsl, by rw [watchR, if_neg (by rw [h9]; decide)]; exact hpm, by have := watch_len R id now; omega, hO.watch id now, hc2⟩ | (dsimp only; exact ⟨hsl, by rw [watchR, if_neg (by rw [h9]; decide)]; exact hpm, by have := watch_len R id now; omega, hO.watch id now, hc2⟩)), ⟨⟨rfl, rfl, rfl, rfl, rfl, trivial⟩, rfl, rfl⟩, ⟨_, (take1 (atS at0) (take1 (atS (atS at0)) (take1 at0 (take1 (atS at0) take0))))⟩⟩
              · skip
                refine csFh (t := 82) rfl ((decide_eq_false h9)) ?_
                refine gF rfl rfl <| gF rfl rfl <| v0 (S0.pickF rfl rfl) rfl <| vE <| WP.condF rfl <| WP.skip <| WP.seq <| WP.region <| v0 (S0.move rfl) rfl <| v0 (S0.cmp rfl rfl rfl) rfl <| vE <| ?_  -- cond
                first | refine WP.condP rfl (fun h0 => ?_) (fun h0 => ?_) | refine WP.condN rfl (fun h0 => ?_) (fun h0 => ?_) | refine WP.cond rfl (fun h0 => ?_) (fun h0 => ?_)
                · skip
                  refine WP.region <| v0 (S0.move rfl) rfl <| v0 (S0.fieldAddr rfl) rfl <| v0 (S0.load rfl rfl) rfl <| vnv (S1.buildSlice rfl (qs := [(0, _)]) rfl rfl) rfl fun b91 => ?_  -- op t92 := append(t88, t91) :[37, 37]
                  refine ve (S1.appendL rfl hsl rfl rfl (atS (atS (atS (atS at0)))) rfl rfl (by rw [ints_len]; simp only [List.length_cons, List.length_nil]; omega)) rfl ?_
                  rintro v2 _ ⟨row2, hsl2, rfl⟩
                  refine v0 (S0.assign rfl) rfl <| vE <| ?_  -- cutend
                  have hp2 : (ins ++ [id]).Perm (idsB (watchR R id now)) := by
                    rw [watchR, if_pos h0]
                    exact (List.perm_append_comm (l₂ := [id])).trans ((hpm.cons id).trans ids_ins.symm)
                  have e : ints (ins ++ [id]) = ints ins ++ [.int .i64 id] := by simp [ints]
                  exact ⟨(v2, row2, ins ++ [id], watchR R id now, c2), (by first | exact ⟨by rw [e]; exact hsl2, hp2, by have := watch_len R id now; omega, hO.watch id now, hc2⟩ | (dsimp only; exact ⟨by rw [e]; exact hsl2, hp2, by have := watch_len R id now; omega, hO.watch id now, hc2⟩)), ⟨⟨rfl, rfl, rfl, rfl, rfl, trivial⟩, rfl, rfl⟩, ⟨_, (take1 (atS (atS (atS at0))) (take1 at0 (take1 (atS at0) (take1 (atS (atS at0)) take0))))⟩⟩
                · skip
                  refine WP.skip <| ?_  -- cutend
                  exact ⟨(.slice ain ins.length cin, rin, ins, watchR R id now, c2), (by first | exact ⟨hsl, by rw [watchR, if_neg h0]; exact hpm, by have := watch_len R id now; omega, hO.watch id now, hc2⟩ | (dsimp only; exact ⟨hsl, by rw [watchR, if_neg h0]; exact hpm, by have := watch_len R id now; omega, hO.watch id now, hc2⟩)), ⟨⟨rfl, rfl, rfl, rfl, rfl, trivial⟩, rfl, rfl⟩, ⟨_, (take1 (atS at0) (take1 (atS (atS at0)) (take1 at0 (take1 (atS at0) take0))))⟩⟩
            · skip
              refine WP.seq <| WP.region <| v0 (S0.cmp rfl rfl rfl) rfl <| v0 (S0.assign rfl) rfl <| vE <| ?_  -- cond
              first | refine WP.condP rfl (fun hk1 => ?_) (fun hk1 => ?_) | refine WP.condN rfl (fun hk1 => ?_) (fun hk1 => ?_) | refine WP.cond rfl (fun hk1 => ?_) (fun hk1 => ?_)
              · skip
                refine WP.region <| v0 (S0.move rfl) rfl <| v0 (S0.fieldAddr rfl) rfl <| v0 (S0.load rfl rfl) rfl <| v0 (S0.fieldAddr rfl) rfl <| v0 (S0.load rfl rfl) rfl <| ?_  -- op t100 := call F12{(*rivulet/beat.Beats).Heard}(t95, t97, t99)
                refine vc (S1.callF rfl (heard_spec hc id now) (take1 (atS (atS (atS at0))) take0)) rfl ?_
                rintro _ _ ⟨rfl, c2, rfl, hc2⟩
                refine app ?_
                refine vE <| ?_  -- cutend
                exact ⟨(.slice ain ins.length cin, rin, ins, heardR R id now, c2), (by first | exact ⟨hsl, by rw [ids_heard]; exact hpm, by have := heard_len R id now; omega, hO.heard id now, hc2⟩ | (dsimp only; exact ⟨hsl, by rw [ids_heard]; exact hpm, by have := heard_len R id now; omega, hO.heard id now, hc2⟩)), ⟨⟨rfl, rfl, rfl, rfl, rfl, trivial⟩, rfl, rfl⟩, ⟨_, (take1 (atS at0) (take1 (atS (atS at0)) (take1 at0 (take1 (atS at0) take0))))⟩⟩
              · skip
                refine WP.seq <| WP.region <| v0 (S0.cmp rfl rfl rfl) rfl <| v0 (S0.assign rfl) rfl <| vE <| ?_  -- cond
                first | refine WP.condP rfl (fun hk2 => ?_) (fun hk2 => ?_) | refine WP.condN rfl (fun hk2 => ?_) (fun hk2 => ?_) | refine WP.cond rfl (fun hk2 => ?_) (fun hk2 => ?_)
                · skip
                  refine WP.seq <| WP.seq <| WP.region <| v0 (S0.move rfl) rfl <| v0 (S0.fieldAddr rfl) rfl <| v0 (S0.load rfl rfl) rfl <| ?_  -- op t106 := call F14{(*rivulet/beat.Beats).Drop}(t103, t105)
                  refine vc (S1.callF rfl (drop_spec hc hO id) (take1 (atS (atS (atS at0))) take0)) rfl ?_
                  rintro _ _ ⟨rfl, c2, rfl, hc2⟩
                  refine app ?_
                  refine v0 (S0.move rfl) rfl <| v0 (S0.cmpB rfl rfl rfl) rfl <| vE <| ?_  -- cond
                  refine WP.condFh rfl ((by rw [hhad]; simp)) ?_
                  refine WP.skip <| WP.region <| v0 (S0.move rfl) rfl <| v0 (S0.assign rfl) rfl <| vE <| ?_  -- cutend
                  exact ⟨(.slice ar (ins.filter fun x => decide (x ≠ id)).length cr, rr, ins.filter fun x => decide (x ≠ id), delB R id, c2), (by first | exact ⟨hinv, by rw [ids_del hO]; exact hpm.filter _, by have := del_len R id; omega, hO.del id, hc2⟩ | (dsimp only; exact ⟨hinv, by rw [ids_del hO]; exact hpm.filter _, by have := del_len R id; omega, hO.del id, hc2⟩)), ⟨⟨rfl, rfl, rfl, rfl, rfl, trivial⟩, rfl, rfl⟩, ⟨_, (take1 (atS at0) (take1 (atS at0) (take1 at0 (take1 (atS at0) take0))))⟩⟩
                · skip
                  refine WP.skip <| ?_  -- cutend
                  exact ⟨(.slice ain ins.length cin, rin, ins, R, c), (by first | exact ⟨hsl, hpm, by omega, hO, hc⟩ | (dsimp only; exact ⟨hsl, hpm, by omega, hO, hc⟩)), ⟨⟨rfl, rfl, rfl, rfl, rfl, trivial⟩, rfl, rfl⟩, ⟨_, (take1 at0 (take1 (atS at0) (take1 (atS at0) (take1 (atS at0) take0))))⟩⟩
          · skip
            obtain ⟨vin2, rin2, ins2, R2, c2⟩ := s
            obtain ⟨hsl2, hpm2, hlen2, hO2, hc2⟩ := hinv
            dsimp only at hsl2 hpm2 hlen2 hO2 hc2 ⊢
            obtain ⟨ain2, cin2, rfl, -, -⟩ := hsl2.intsE
            have hil2 : ins2.length = (idsB R2).length := hpm2.length_eq
            have hidl : (idsB R2).length ≤ 81 := by simp [idsB]; omega
            refine WP.seq <| WP.region <| v0 (S0.move rfl) rfl <| ?_  -- op t111 := call F23{(*rivulet/beat.Beats).Ids}(t110)
            refine vc (S1.callF rfl (ids_spec hc2 hO2 (by omega)) (take1 (atS (atS at0)) take0)) rfl ?_
            rintro v3 _ ⟨q3, hq3, rfl⟩
            refine app ?_
            obtain ⟨a3, p3, rfl, -, h3⟩ := hq3.intsE
            refine v0 (S0.assign rfl) rfl <| vE <| WP.seq <| WP.seq <| WP.region <| v0 (S0.move rfl) rfl <| v0 (S0.lenSl rfl) rfl <| v0 (S0.move rfl) rfl <| v0 (S0.lenSl rfl) rfl <| v0 (S0.cmp rfl rfl rfl) rfl <| vE <| ?_  -- cond
            refine WP.condFh rfl ((by simp [hil2])) ?_
            refine WP.skip <| WP.seq <| WP.region <| v0 (S0.move rfl) rfl <| v0 (S0.fieldAddr rfl) rfl <| v0 (S0.load rfl rfl) rfl <| ?_  -- op t120 := call F21{(*rivulet/beat.Beats).Late}(t117, t119)
            refine vc (S1.callF rfl (late_spec hc2 hO2 (by omega) now) (take1 (atS at0) take0)) rfl ?_
            rintro v4 _ ⟨q4, hq4, rfl⟩
            refine app ?_
            obtain ⟨a4, p4, rfl, -, h4⟩ := hq4.intsE
            refine v0 (S0.assign rfl) rfl <| vE <| WP.seq <| WP.region <| v0 (S0.assign rfl) rfl <| vE <| WP.block <| ?_  -- Code.loop
            refine WP.loop (fun k : Nat => k ≤ (idsB R2).length) (fun k : Nat => [(0, .slice (some ⟨gb, go, none⟩) glen gcap), (3, .pointer (some ⟨b, 0, none⟩)), (5, .slice ain2 ins2.length cin2), (6, .int .i64 (i : Int)), (7, .pointer (some ⟨b7, 0, none⟩)), (12, .slice a3 (idsB R2).length p3), (13, .slice a4 (lateB R2 7 now).length p4), (14, .int .i64 (k : Int))]) (fun k : Nat => [[(b7, cel [.int .i64 kd, .int .i64 id, .int .i64 now] 31)], q3, q4, rin2, c2, whole W]) (fun k : Nat => (idsB R2).length - k) (0) (Nat.zero_le _) ⟨rfl, rfl, rfl, rfl, rfl, rfl, rfl, rfl, trivial⟩ ⟨_, (take1 (atS (atS (atS at0))) (take1 (atS (atS at0)) (take1 at0 (take1 (atS at0) (take1 at0 (take1 at0 take0))))))⟩ (fun k hinv => ?_) 
            refine WP.seq <| WP.seq <| WP.region <| v0 (S0.move rfl) rfl <| v0 (S0.move rfl) rfl <| v0 (S0.lenSl rfl) rfl <| v0 (S0.cmp rfl rfl rfl) rfl <| vE <| ?_  -- cond
            first | refine WP.condP rfl (fun hk => ?_) (fun hk => ?_) | refine WP.condN rfl (fun hk => ?_) (fun hk => ?_) | refine WP.cond rfl (fun hk => ?_) (fun hk => ?_)
            · skip
              have hkl : k < (idsB R2).length := by omega
              rcases h3 with ⟨e3, -⟩ | ⟨b3, sp3, rfl, rfl, -⟩
              · rw [e3] at hkl; simp at hkl
              have hx : (idsB R2)[k]? = some (idsB R2)[k] := by simp [hkl]
              obtain ⟨t, hgt, ht0, ht1⟩ := ids_at hO2 hx
              generalize hlk : (idsB R2)[k] = lk at hx hgt
              have hlm := late_mem hO2 (limit := 7) (now := now) hgt
              have hll : (lateB R2 7 now).length ≤ 81 := by
                unfold lateB; split
                · rw [List.length_map]; exact Nat.le_trans (List.length_filter_le _ _) (by omega)
                · simp
              refine WP.skip <| WP.seq <| WP.block <| WP.seq <| WP.drawP [0, 1, 2, 3, 4, 5, 6, 7, 8, 9, 10, 11, 12] mixed (by kernel_rfl) (by kernel_rfl) (by kernel_rfl) (take1 at0 (take1 at0 take0)) <| w0 rfl rfl rfl (S0.move rfl) rfl <| w0 rfl rfl rfl (S0.move rfl) rfl <| w0 rfl rfl rfl (S0.move rfl) rfl <| ?_  -- op t131 := indexAddr 37 t129 t130
              refine w0 rfl rfl rfl (S0.index1 rfl rfl hkl) rfl <| ?_
              refine w0 rfl rfl rfl (S0.load rfl (ints_get hx)) rfl <| ?_
              refine w0 rfl rfl rfl (S0.fieldAddr rfl) rfl <| w0 rfl rfl rfl (S0.load rfl rfl) rfl <| ?_  -- op t135 := call F18{(*rivulet/beat.Beats).Left}(t128, t132, t134)
              refine wcd rfl rfl rfl (S1.callF rfl (left_spec hc2 hO2 (by decide) lk now) (take1 (atS (atS at0)) take0)) rfl ?_
              refine w0 rfl rfl rfl (S0.move rfl) rfl <| w0 rfl rfl rfl (S0.extract rfl rfl) rfl <| w0 rfl rfl rfl (S0.extract rfl rfl) rfl <| w0 rfl rfl rfl (S0.assign rfl) rfl <| w0 rfl rfl rfl (S0.assign rfl) rfl <| wE <| WP.seq <| WP.region <| v0 (S0.assign rfl) rfl <| vE <| ?_  -- cut
              refine WP.cutS (fun s : Bool => s = decide (lk ∈ lateB R2 7 now)) (fun s : Bool => [(0, .slice (some ⟨gb, go, none⟩) glen gcap), (3, .pointer (some ⟨b, 0, none⟩)), (5, .slice ain2 ins2.length cin2), (6, .int .i64 (i : Int)), (7, .pointer (some ⟨b7, 0, none⟩)), (12, .slice (some ⟨b3, 0, none⟩) (idsB R2).length p3), (13, .slice a4 (lateB R2 7 now).length p4), (14, .int .i64 (k : Int)), (15, .int .i64 (leftB R2 7 lk now).1), (16, .bool (leftB R2 7 lk now).2), (17, .bool s)]) (fun s : Bool => [[(b7, cel [.int .i64 kd, .int .i64 id, .int .i64 now] 31)], [(b3, .cells ⟨ints (idsB R2) ++ sp3⟩ 3 (0, 0))], q4, rin2, c2, whole W]) ?_ (fun s hinv => ?_)
              · refine WP.seq <| WP.region <| v0 (S0.assign rfl) rfl <| vE <| WP.block <| ?_  -- Code.loop
                refine WP.loop (fun s : Nat × Bool => s.1 ≤ (lateB R2 7 now).length ∧ s.2 = decide (lk ∈ (lateB R2 7 now).take s.1)) (fun s : Nat × Bool => [(0, .slice (some ⟨gb, go, none⟩) glen gcap), (3, .pointer (some ⟨b, 0, none⟩)), (5, .slice ain2 ins2.length cin2), (6, .int .i64 (i : Int)), (7, .pointer (some ⟨b7, 0, none⟩)), (12, .slice (some ⟨b3, 0, none⟩) (idsB R2).length p3), (13, .slice a4 (lateB R2 7 now).length p4), (14, .int .i64 (k : Int)), (15, .int .i64 (leftB R2 7 lk now).1), (16, .bool (leftB R2 7 lk now).2), (17, .bool s.2), (18, .int .i64 (s.1 : Int))]) (fun s : Nat × Bool => [[(b7, cel [.int .i64 kd, .int .i64 id, .int .i64 now] 31)], [(b3, .cells ⟨ints (idsB R2) ++ sp3⟩ 3 (0, 0))], q4, rin2, c2, whole W]) (fun s : Nat × Bool => (lateB R2 7 now).length - s.1) ((0, false)) (⟨Nat.zero_le _, by simp⟩) ⟨rfl, rfl, rfl, rfl, rfl, rfl, rfl, rfl, rfl, rfl, rfl, rfl, trivial⟩ ⟨_, (take1 at0 (take1 at0 (take1 (atS at0) (take1 (atS at0) (take1 at0 (take1 at0 take0))))))⟩ (fun s hinv => ?_) 
                obtain ⟨j, il⟩ := s
                obtain ⟨hj, hil3⟩ := hinv
                dsimp only at hj hil3 ⊢
                refine WP.seq <| WP.seq <| WP.region <| v0 (S0.move rfl) rfl <| v0 (S0.move rfl) rfl <| v0 (S0.lenSl rfl) rfl <| v0 (S0.cmp rfl rfl rfl) rfl <| vE <| ?_  -- cond
                first | refine WP.condP rfl (fun hj1 => ?_) (fun hj1 => ?_) | refine WP.condN rfl (fun hj1 => ?_) (fun hj1 => ?_) | refine WP.cond rfl (fun hj1 => ?_) (fun hj1 => ?_)
                · skip
                  have hjl : j < (lateB R2 7 now).length := by omega
                  rcases h4 with ⟨e4, -⟩ | ⟨b4, sp4, rfl, rfl, -⟩
                  · rw [e4] at hjl; simp at hjl
                  have hy : (lateB R2 7 now)[j]? = some (lateB R2 7 now)[j] := by simp [hjl]
                  have htk : decide (lk ∈ (lateB R2 7 now).take (j + 1)) = (il || decide ((lateB R2 7 now)[j] = lk)) := by
                    rw [List.take_add_one, hy, hil3, Bool.eq_iff_iff, Bool.or_eq_true, decide_eq_true_eq, decide_eq_true_eq, decide_eq_true_eq, List.mem_append]; simp only [Option.toList, List.mem_singleton]; exact or_congr Iff.rfl eq_comm
                  refine WP.skip <| WP.seq <| WP.block <| WP.drawP [0, 1, 2, 3, 4, 5, 6, 7, 8, 9, 10, 11, 12] mixed (by kernel_rfl) (by kernel_rfl) (by kernel_rfl) (take1 at0 (take1 at0 (take1 at0 take0))) <| w0 rfl rfl rfl (S0.move rfl) rfl <| w0 rfl rfl rfl (S0.move rfl) rfl <| ?_  -- guard t145 (wants False) at t146 := move t13 [if #1=False]
                  first | refine wcsP (t := 145) rfl (fun hil4 => ?_) (fun hil4 => ?_) | refine wcsN (t := 145) rfl (fun hil4 => ?_) (fun hil4 => ?_) | refine wcs (t := 145) rfl (fun hil4 => ?_) (fun hil4 => ?_)
                  · skip
                    refine wF rfl rfl rfl <| wF rfl rfl rfl <| wF rfl rfl rfl <| wF rfl rfl rfl <| wF rfl rfl rfl <| wF rfl rfl rfl <| wF rfl rfl rfl <| wF rfl rfl rfl <| wF rfl rfl rfl <| w0 rfl rfl rfl (S0.pickT rfl rfl) rfl <| w0 rfl rfl rfl (S0.assign rfl) rfl <| wE <| WP.region <| v0 (S0.move rfl) rfl <| v0 (S0.ari rfl rfl rfl (wrap_i64 (by omega))) rfl <| v0 (S0.assign rfl) rfl <| vE <| ?_  -- roundend
                    exact ⟨(j + 1, true), (by first | exact ⟨hjl, by rw [htk, hil4]; rfl⟩ | (dsimp only; exact ⟨hjl, by rw [htk, hil4]; rfl⟩)), (show (lateB R2 7 now).length - (j + 1) < (lateB R2 7 now).length - j by omega), ⟨⟨rfl, rfl, rfl, rfl, rfl, rfl, rfl, rfl, rfl, rfl, rfl, rfl, trivial⟩, rfl, rfl⟩, ⟨_, (take1 at0 (take1 at0 (take1 at0 (take1 at0 (take1 at0 (take1 at0 take0))))))⟩⟩
                  · skip
                    refine w0 rfl rfl rfl (S0.move rfl) rfl <| w0 rfl rfl rfl (S0.move rfl) rfl <| ?_  -- op t148 := indexAddr 37 t146 t147 [if #1=False]
                    refine w0 rfl rfl rfl (S0.index1 rfl rfl hjl) rfl <| ?_
                    refine w0 rfl rfl rfl (S0.load rfl (ints_get hy)) rfl <| ?_
                    refine w0 rfl rfl rfl (S0.move rfl) rfl <| w0 rfl rfl rfl (S0.move rfl) rfl <| ?_  -- op t152 := indexAddr 37 t150 t151 [if #1=False]
                    refine w0 rfl rfl rfl (S0.index1 rfl rfl hkl) rfl <| ?_
                    refine w0 rfl rfl rfl (S0.load rfl (ints_get hx)) rfl <| ?_
                    refine w0 rfl rfl rfl (S0.cmp rfl rfl rfl) rfl <| w0 rfl rfl rfl (S0.pickF rfl rfl) rfl <| w0 rfl rfl rfl (S0.assign rfl) rfl <| wE <| WP.region <| v0 (S0.move rfl) rfl <| v0 (S0.ari rfl rfl rfl (wrap_i64 (by omega))) rfl <| v0 (S0.assign rfl) rfl <| vE <| ?_  -- roundend
                    exact ⟨(j + 1, decide ((lateB R2 7 now)[j] = lk)), (by first | exact ⟨hjl, by rw [htk, hil4]; rfl⟩ | (dsimp only; exact ⟨hjl, by rw [htk, hil4]; rfl⟩)), (show (lateB R2 7 now).length - (j + 1) < (lateB R2 7 now).length - j by omega), ⟨⟨rfl, rfl, rfl, rfl, rfl, rfl, rfl, rfl, rfl, rfl, rfl, rfl, trivial⟩, rfl, rfl⟩, ⟨_, (take1 at0 (take1 at0 (take1 at0 (take1 at0 (take1 at0 (take1 at0 take0))))))⟩⟩
                · skip
                  refine WP.exit <| ?_  -- cutend
                  exact ⟨il, (by first | exact (by rw [hil3, List.take_of_length_le (by omega)]) | (dsimp only; exact (by rw [hil3, List.take_of_length_le (by omega)]))), ⟨⟨rfl, rfl, rfl, rfl, rfl, rfl, rfl, rfl, rfl, rfl, rfl, trivial⟩, rfl, rfl⟩, ⟨_, (take1 at0 (take1 at0 (take1 at0 (take1 at0 (take1 at0 (take1 at0 take0))))))⟩⟩
              · skip
                have hpv : 0 < k → ∃ lp, (idsB R2)[k - 1]? = some lp ∧ lp < lk := fun h => by
                  have h1 : (idsB R2)[k - 1]? = some (idsB R2)[k - 1] := List.getElem?_eq_getElem (by omega)
                  exact ⟨_, h1, ids_rise hO2 h1 (by rw [show k - 1 + 1 = k by omega]; exact hx)⟩
                have e5 : leftB R2 7 lk now = if isTime now then (max 0 (min (7 - (now - t)) 7), true) else (0, false) := by simp only [leftB, hgt]
                rw [e5]
                skip
                cases hT : isTime now with
                | true =>
                  skip
                  simp only [if_true]
                  have hcmp : (!(s == decide (max 0 (min (7 - (now - t)) 7) = 0))) = false := by
                    rw [hinv]
                    by_cases h7 : 7 ≤ now - t
                    · have h8 : max 0 (min (7 - (now - t)) 7) = 0 := by omega
                      rw [decide_eq_true (hlm.2 ⟨hT, h7⟩), decide_eq_true h8]; rfl
                    · have h8 : ¬ max 0 (min (7 - (now - t)) 7) = 0 := by omega
                      rw [decide_eq_false (fun h => h7 (hlm.1 h).2), decide_eq_false h8]; rfl
                  refine WP.seq <| WP.drawP [0, 1, 2, 3, 4, 5, 6, 7, 8, 9, 10, 11, 12, 13, 14, 15, 16, 17, 18, 19, 20, 21, 22, 23, 24, 25, 26, 27, 28, 29] mixed (by kernel_rfl) (by kernel_rfl) (by kernel_rfl) (take1 (atS at0) take0) <| w0 rfl rfl rfl (S0.move rfl) rfl <| w0 rfl rfl rfl (S0.cmp rfl rfl rfl) rfl <| w0 rfl rfl rfl (S0.move rfl) rfl <| ?_  -- guard t158 (wants True) at t159 := move t12 [if #2=True]
                  first | refine wcsP (t := 158) rfl (fun hk0 => ?_) (fun hk0 => ?_) | refine wcsN (t := 158) rfl (fun hk0 => ?_) (fun hk0 => ?_) | refine wcs (t := 158) rfl (fun hk0 => ?_) (fun hk0 => ?_)
                  · skip
                    obtain ⟨lp, hlp, hlt2⟩ := hpv (by omega)
                    refine w0 rfl rfl rfl (S0.move rfl) rfl <| w0 rfl rfl rfl (S0.move rfl) rfl <| w0 rfl rfl rfl (S0.ari rfl rfl rfl (wrap_i64 (by omega))) rfl <| ?_  -- op t162 := indexAddr 37 t159 t161 [if #2=True]
                    refine w0 rfl rfl rfl (S0.indexAddr rfl rfl (by omega)) rfl <| ?_
                    refine w0 rfl rfl rfl (S0.load (v := .int .i64 lp) rfl (by rw [show 0 + ((k : Int) - 1).toNat * 1 = k - 1 by omega]; exact ints_get hlp)) rfl <| ?_
                    refine w0 rfl rfl rfl (S0.move rfl) rfl <| w0 rfl rfl rfl (S0.move rfl) rfl <| ?_  -- op t166 := indexAddr 37 t164 t165 [if #2=True]
                    refine w0 rfl rfl rfl (S0.index1 rfl rfl hkl) rfl <| ?_
                    refine w0 rfl rfl rfl (S0.load rfl (ints_get hx)) rfl <| ?_
                    refine w0 rfl rfl rfl (S0.cmp rfl rfl rfl) rfl <| w0 rfl rfl rfl (S0.pickT rfl rfl) rfl <| w0 rfl rfl rfl (S0.move rfl) rfl <| ?_  -- guard t170 (wants False) at t171 := move t16 [if #14=False]
                    refine wcsFh (t := 170) rfl ((decide_eq_false (by omega))) ?_
                    refine w0 rfl rfl rfl (S0.move rfl) rfl <| w0 rfl rfl rfl (S0.move rfl) rfl <| ?_  -- guard t172 (wants True) at t173 := move t17 [if #16=True]
                    refine wcsTh (t := 172) rfl (rfl) ?_
                    refine w0 rfl rfl rfl (S0.move rfl) rfl <| w0 rfl rfl rfl (S0.move rfl) rfl <| w0 rfl rfl rfl (S0.cmp rfl rfl rfl) rfl <| w0 rfl rfl rfl (S0.cmpB rfl rfl rfl) rfl <| w0 rfl rfl rfl (S0.pickT rfl rfl) rfl <| w0 rfl rfl rfl (S0.pickF rfl rfl) rfl <| w0 rfl rfl rfl (S0.move rfl) rfl <| ?_  -- guard t179 (wants False) at t180 := move t16 [if #23=False]
                    refine wcsFh (t := 179) rfl (hcmp) ?_
                    refine w0 rfl rfl rfl (S0.move rfl) rfl <| w0 rfl rfl rfl (S0.not rfl) rfl <| w0 rfl rfl rfl (S0.move rfl) rfl <| ?_  -- guard t182 (wants True) at t183 := move t17 [if #26=True]
                    refine wcsFh (t := 182) rfl (rfl) ?_
                    refine wF rfl rfl rfl <| w0 rfl rfl rfl (S0.pickF rfl rfl) rfl <| w0 rfl rfl rfl (S0.pickF rfl rfl) rfl <| wE <| WP.condF rfl <| WP.skip <| WP.region <| v0 (S0.move rfl) rfl <| v0 (S0.ari rfl rfl rfl (wrap_i64 (by omega))) rfl <| v0 (S0.assign rfl) rfl <| vE <| ?_  -- roundend
                    exact ⟨k + 1, (by first | exact hkl | (dsimp only; exact hkl)), (by omega), ⟨⟨rfl, rfl, rfl, rfl, rfl, rfl, rfl, rfl, trivial⟩, rfl, rfl⟩, ⟨_, (take1 (atS at0) (take1 at0 (take1 at0 (take1 at0 (take1 at0 (take1 at0 take0))))))⟩⟩
                  · skip
                    refine wF rfl rfl rfl <| wF rfl rfl rfl <| wF rfl rfl rfl <| wF rfl rfl rfl <| wF rfl rfl rfl <| wF rfl rfl rfl <| wF rfl rfl rfl <| wF rfl rfl rfl <| wF rfl rfl rfl <| wF rfl rfl rfl <| w0 rfl rfl rfl (S0.pickF rfl rfl) rfl <| w0 rfl rfl rfl (S0.move rfl) rfl <| w0 rfl rfl rfl (S0.move rfl) rfl <| w0 rfl rfl rfl (S0.move rfl) rfl <| ?_  -- guard t172 (wants True) at t173 := move t17 [if #16=True]
                    refine wcsTh (t := 172) rfl (rfl) ?_
                    refine w0 rfl rfl rfl (S0.move rfl) rfl <| w0 rfl rfl rfl (S0.move rfl) rfl <| w0 rfl rfl rfl (S0.cmp rfl rfl rfl) rfl <| w0 rfl rfl rfl (S0.cmpB rfl rfl rfl) rfl <| w0 rfl rfl rfl (S0.pickT rfl rfl) rfl <| w0 rfl rfl rfl (S0.pickF rfl rfl) rfl <| w0 rfl rfl rfl (S0.move rfl) rfl <| ?_  -- guard t179 (wants False) at t180 := move t16 [if #23=False]
                    refine wcsFh (t := 179) rfl (hcmp) ?_
                    refine w0 rfl rfl rfl (S0.move rfl) rfl <| w0 rfl rfl rfl (S0.not rfl) rfl <| w0 rfl rfl rfl (S0.move rfl) rfl <| ?_  -- guard t182 (wants True) at t183 := move t17 [if #26=True]
                    refine wcsFh (t := 182) rfl (rfl) ?_
                    refine wF rfl rfl rfl <| w0 rfl rfl rfl (S0.pickF rfl rfl) rfl <| w0 rfl rfl rfl (S0.pickF rfl rfl) rfl <| wE <| WP.condF rfl <| WP.skip <| WP.region <| v0 (S0.move rfl) rfl <| v0 (S0.ari rfl rfl rfl (wrap_i64 (by omega))) rfl <| v0 (S0.assign rfl) rfl <| vE <| ?_  -- roundend
                    exact ⟨k + 1, (by first | exact hkl | (dsimp only; exact hkl)), (by omega), ⟨⟨rfl, rfl, rfl, rfl, rfl, rfl, rfl, rfl, trivial⟩, rfl, rfl⟩, ⟨_, (take1 (atS at0) (take1 at0 (take1 at0 (take1 at0 (take1 at0 (take1 at0 take0))))))⟩⟩
                | false =>
                  skip
                  simp only [Bool.false_eq_true, if_false]
                  refine WP.seq <| WP.drawP [0, 1, 2, 3, 4, 5, 6, 7, 8, 9, 10, 11, 12, 13, 14, 15, 16, 17, 18, 19, 20, 21, 22, 23, 24, 25, 26, 27, 28, 29] mixed (by kernel_rfl) (by kernel_rfl) (by kernel_rfl) (take1 (atS at0) take0) <| w0 rfl rfl rfl (S0.move rfl) rfl <| w0 rfl rfl rfl (S0.cmp rfl rfl rfl) rfl <| w0 rfl rfl rfl (S0.move rfl) rfl <| ?_  -- guard t158 (wants True) at t159 := move t12 [if #2=True]
                  first | refine wcsP (t := 158) rfl (fun hk0 => ?_) (fun hk0 => ?_) | refine wcsN (t := 158) rfl (fun hk0 => ?_) (fun hk0 => ?_) | refine wcs (t := 158) rfl (fun hk0 => ?_) (fun hk0 => ?_)
                  · skip
                    obtain ⟨lp, hlp, hlt2⟩ := hpv (by omega)
                    refine w0 rfl rfl rfl (S0.move rfl) rfl <| w0 rfl rfl rfl (S0.move rfl) rfl <| w0 rfl rfl rfl (S0.ari rfl rfl rfl (wrap_i64 (by omega))) rfl <| ?_  -- op t162 := indexAddr 37 t159 t161 [if #2=True]
                    refine w0 rfl rfl rfl (S0.indexAddr rfl rfl (by omega)) rfl <| ?_
                    refine w0 rfl rfl rfl (S0.load (v := .int .i64 lp) rfl (by rw [show 0 + ((k : Int) - 1).toNat * 1 = k - 1 by omega]; exact ints_get hlp)) rfl <| ?_
                    refine w0 rfl rfl rfl (S0.move rfl) rfl <| w0 rfl rfl rfl (S0.move rfl) rfl <| ?_  -- op t166 := indexAddr 37 t164 t165 [if #2=True]
                    refine w0 rfl rfl rfl (S0.index1 rfl rfl hkl) rfl <| ?_
                    refine w0 rfl rfl rfl (S0.load rfl (ints_get hx)) rfl <| ?_
                    refine w0 rfl rfl rfl (S0.cmp rfl rfl rfl) rfl <| w0 rfl rfl rfl (S0.pickT rfl rfl) rfl <| w0 rfl rfl rfl (S0.move rfl) rfl <| ?_  -- guard t170 (wants False) at t171 := move t16 [if #14=False]
                    refine wcsFh (t := 170) rfl ((decide_eq_false (by omega))) ?_
                    refine w0 rfl rfl rfl (S0.move rfl) rfl <| w0 rfl rfl rfl (S0.move rfl) rfl <| ?_  -- guard t172 (wants True) at t173 := move t17 [if #16=True]
                    refine wcsFh (t := 172) rfl (rfl) ?_
                    refine wF rfl rfl rfl <| wF rfl rfl rfl <| wF rfl rfl rfl <| wF rfl rfl rfl <| w0 rfl rfl rfl (S0.pickF rfl rfl) rfl <| w0 rfl rfl rfl (S0.pickF rfl rfl) rfl <| w0 rfl rfl rfl (S0.move rfl) rfl <| w0 rfl rfl rfl (S0.move rfl) rfl <| w0 rfl rfl rfl (S0.not rfl) rfl <| w0 rfl rfl rfl (S0.move rfl) rfl <| ?_  -- guard t182 (wants True) at t183 := move t17 [if #26=True]
                    refine wcsTh (t := 182) rfl (rfl) ?_
                    refine w0 rfl rfl rfl (S0.move rfl) rfl <| w0 rfl rfl rfl (S0.pickT rfl rfl) rfl <| w0 rfl rfl rfl (S0.pickF rfl rfl) rfl <| wE <| ?_  -- cond
                    refine WP.condFh rfl ((by rw [hinv]; exact decide_eq_false (by rw [hlm, hT]; simp))) ?_
                    refine WP.skip <| WP.region <| v0 (S0.move rfl) rfl <| v0 (S0.ari rfl rfl rfl (wrap_i64 (by omega))) rfl <| v0 (S0.assign rfl) rfl <| vE <| ?_  -- roundend
                    exact ⟨k + 1, (by first | exact hkl | (dsimp only; exact hkl)), (by omega), ⟨⟨rfl, rfl, rfl, rfl, rfl, rfl, rfl, rfl, trivial⟩, rfl, rfl⟩, ⟨_, (take1 (atS at0) (take1 at0 (take1 at0 (take1 at0 (take1 at0 (take1 at0 take0))))))⟩⟩
                  · skip
                    refine wF rfl rfl rfl <| wF rfl rfl rfl <| wF rfl rfl rfl <| wF rfl rfl rfl <| wF rfl rfl rfl <| wF rfl rfl rfl <| wF rfl rfl rfl <| wF rfl rfl rfl <| wF rfl rfl rfl <| wF rfl rfl rfl <| w0 rfl rfl rfl (S0.pickF rfl rfl) rfl <| w0 rfl rfl rfl (S0.move rfl) rfl <| w0 rfl rfl rfl (S0.move rfl) rfl <| w0 rfl rfl rfl (S0.move rfl) rfl <| ?_  -- guard t172 (wants True) at t173 := move t17 [if #16=True]
                    refine wcsFh (t := 172) rfl (rfl) ?_
                    refine wF rfl rfl rfl <| wF rfl rfl rfl <| wF rfl rfl rfl <| wF rfl rfl rfl <| w0 rfl rfl rfl (S0.pickF rfl rfl) rfl <| w0 rfl rfl rfl (S0.pickF rfl rfl) rfl <| w0 rfl rfl rfl (S0.move rfl) rfl <| w0 rfl rfl rfl (S0.move rfl) rfl <| w0 rfl rfl rfl (S0.not rfl) rfl <| w0 rfl rfl rfl (S0.move rfl) rfl <| ?_  -- guard t182 (wants True) at t183 := move t17 [if #26=True]
                    refine wcsTh (t := 182) rfl (rfl) ?_
                    refine w0 rfl rfl rfl (S0.move rfl) rfl <| w0 rfl rfl rfl (S0.pickT rfl rfl) rfl <| w0 rfl rfl rfl (S0.pickF rfl rfl) rfl <| wE <| ?_  -- cond
                    refine WP.condFh rfl ((by rw [hinv]; exact decide_eq_false (by rw [hlm, hT]; simp))) ?_
                    refine WP.skip <| WP.region <| v0 (S0.move rfl) rfl <| v0 (S0.ari rfl rfl rfl (wrap_i64 (by omega))) rfl <| v0 (S0.assign rfl) rfl <| vE <| ?_  -- roundend
                    exact ⟨k + 1, (by first | exact hkl | (dsimp only; exact hkl)), (by omega), ⟨⟨rfl, rfl, rfl, rfl, rfl, rfl, rfl, rfl, trivial⟩, rfl, rfl⟩, ⟨_, (take1 (atS at0) (take1 at0 (take1 at0 (take1 at0 (take1 at0 (take1 at0 take0))))))⟩⟩
            · skip
              refine WP.exit <| WP.region <| v0 (S0.move rfl) rfl <| v0 (S0.ari rfl rfl rfl (wrap_i64 (by omega))) rfl <| v0 (S0.assign rfl) rfl <| vE <| ?_  -- roundend
              exact ⟨(i + 1, .slice ain2 ins2.length cin2, rin2, ins2, R2, c2), (by first | exact ⟨by omega, hsl2, hpm2, hlen2, hO2, hc2⟩ | (dsimp only; exact ⟨by omega, hsl2, hpm2, hlen2, hO2, hc2⟩)), (show 80 - (i + 1) < 80 - i by omega), ⟨⟨rfl, rfl, rfl, rfl, trivial⟩, rfl, rfl⟩, ⟨_, (take1 (atS (atS (atS at0))) (take1 (atS (atS (atS at0))) (take1 (atS (atS (atS at0))) take0)))⟩⟩
      · skip
        refine WP.exit <| ?_  -- cutend
        exact ⟨0, (by first | exact trivial | (dsimp only; exact trivial)), ⟨⟨rfl, trivial⟩, rfl, rfl⟩, ⟨_, (take1 (atS (atS at0)) take0)⟩⟩
    · skip
      refine gF rfl rfl <| gF rfl rfl <| v0 (S0.pickF rfl rfl) rfl <| vE <| WP.condF rfl <| WP.exit <| ?_  -- cutend
      exact ⟨0, (by first | exact trivial | (dsimp only; exact trivial)), ⟨⟨rfl, trivial⟩, rfl, rfl⟩, ⟨_, (take1 (atS (atS at0)) take0)⟩⟩
  · skip
    refine WP.seq <| WP.region <| ?_  -- op t186 := call F25{rivulet/rivuletlaw15.fixed}()
    refine vc (S1.callF rfl (fixed_spec) take0) rfl ?_
    rintro _ _ ⟨rfl, rfl⟩
    refine app ?_
    refine v0 (S0.assign rfl) rfl <| vE <| WP.ret <| ?_  -- ret
    refine r1 rfl rfl ?_
    exact ⟨rfl, rfl⟩
end Go.Proofs.Ytmnmikcpdhnbnaa
