import Derived.Test.YtjglpmaedphbnaaA7
import Derived.Test.YtjglpmaedphbnaaMake
namespace Go.Proofs.Ytjglpmaedphbnaa
open Go

def posE (es : List Int) (k : Nat) : Bool := decide (0 < es.getD k 0)
def lst (es : List Int) : List Int := ((List.range 4).filter (posE es)).map fun (j : Nat) => (j : Int)
def cnt (es : List Int) (k : Nat) : Nat := ((List.range k).filter (posE es)).length
theorem cnt_succ (es : List Int) (k : Nat) : cnt es (k + 1) = cnt es k + if posE es k then 1 else 0 := by
  unfold cnt
  rw [List.range_succ, List.filter_append, List.length_append]
  cases h : posE es k <;> simp [h]
theorem lst_at (es : List Int) {k : Nat} (hk : k < 4) (h : posE es k = true) : (lst es)[cnt es k]? = some (k : Int) := by
  have e : List.range 4 = List.range k ++ k :: (List.range' (k + 1) (3 - k)) := by
    match k, hk with
    | 0, _ => rfl
    | 1, _ => rfl
    | 2, _ => rfl
    | 3, _ => rfl
  unfold lst cnt
  rw [e, List.filter_append, List.map_append, List.filter_cons, if_pos h, List.map_cons]
  rw [List.getElem?_append_right (by simp)]
  simp
theorem lst_len (es : List Int) : (lst es).length = cnt es 4 := by simp [lst, cnt]
theorem ids_lst {R : BM} (h : OkH R) {es : List Int} (h4 : ∀ x ∈ R, x.1 < 4) (he : ∀ k : Nat, k < 4 → epB R k = es.getD k 0) : idsB R = lst es := by
  have h1 : (idsB R).Pairwise (· < ·) := List.pairwise_map.2 h.ok.srt
  have h2 : (lst es).Pairwise (· < ·) := by
    unfold lst
    refine List.pairwise_map.2 ((List.pairwise_lt_range.sublist List.filter_sublist).imp fun h => by omega)
  refine rising_eq h2 (h1.imp fun h => by omega) ((List.perm_ext_iff_of_nodup (h1.imp fun h e => by omega) (h2.imp fun h e => by omega)).2 fun k => ?_)
  have hm : k ∈ idsB R ↔ 0 < epB R k := by
    rw [epB_pos h]
    have := gB_none (R := R) (k := k)
    unfold idsB
    cases hg : gB R k with
    | none => rw [hg] at this; simpa using this.1 rfl
    | some t => simp only [Option.isSome_some, iff_true]; exact List.mem_map.2 ⟨_, gB_mem hg, rfl⟩
  constructor
  · intro hk
    obtain ⟨x, hx, rfl⟩ := List.mem_map.1 hk
    have hb := (h.ok.tm x hx).1
    have hb2 := h4 x hx
    have hp := hm.1 hk
    obtain ⟨n, hn⟩ : ∃ n : Nat, x.1 = n := ⟨x.1.toNat, by omega⟩
    rw [hn] at hp hb2 ⊢
    rw [he n (by omega)] at hp
    exact List.mem_map.2 ⟨n, List.mem_filter.2 ⟨List.mem_range.2 (by omega), decide_eq_true hp⟩, rfl⟩
  · intro hk
    obtain ⟨n, hn, rfl⟩ := List.mem_map.1 hk
    obtain ⟨h5, h6⟩ := List.mem_filter.1 hn
    rw [hm, he n (List.mem_range.1 h5)]
    exact of_decide_eq_true h6

theorem ints_set (es : List Int) (i : Nat) (v : Int) : (ints es).set i (.int .i64 v) = ints (es.set i v) := by simp [ints, List.map_set]
theorem ints_at {es : List Int} {i : Nat} (h : i < es.length) : (ints es)[i]? = some (.int .i64 (es.getD i 0)) := by
  simp [ints, h, List.getD]

/-- the hall, and what the law keeps in mind of it -/
structure IdsI (hb : Nat) (R : BM) (c : List Blk) (es : List Int) : Prop where
  ok : OkH R
  h : IsH hb R c
  len : es.length = 4
  lt : ∀ x ∈ R, x.1 < 4
  eq : ∀ k : Nat, k < 4 → epB R k = es.getD k 0

theorem IdsI.nil {hb : Nat} {c : List Blk} (hc : IsH hb [] c) : IdsI hb [] c [0, 0, 0, 0] :=
  ⟨.nil, hc, rfl, by simp, fun k hk => by
    match k, hk with
    | 0, _ => rfl
    | 1, _ => rfl
    | 2, _ => rfl
    | 3, _ => rfl⟩
theorem IdsI.drop {hb : Nat} {R : BM} {c c' : List Blk} {es : List Int} (h : IdsI hb R c es) {k : Nat} (hk : k < 4) (hc : IsH hb (delB R k) c') : IdsI hb (delB R k) c' (es.set k 0) :=
  ⟨h.ok.del k, hc, by simp [h.len], fun x hx => h.lt x ((del_subB R k).subset hx), fun j hj => by
    by_cases e : j = k
    · subst e
      rw [epB_del h.ok.ok]; simp [List.getD, h.len, hj]
    · have e2 : (j : Int) ≠ k := by omega
      have h1 : epB (delB R k) j = epB R j := by rw [epB, gB_del h.ok.ok, if_neg e2]; rfl
      rw [h1, h.eq j hj]
      simp [List.getD, List.getElem?_set_ne (Ne.symm e)]⟩
theorem IdsI.put {hb : Nat} {R : BM} {c c' : List Blk} {es es' : List Int} (h : IdsI hb R c es) {k : Nat} (hk : k < 4) {n : Int} (hc : IsH hb (openR R k n) c')
    (he : es' = if es.getD k 0 < n ∧ n ≤ 1099511627776 then es.set k n else es) : IdsI hb (openR R k n) c' es' := by
  have hpos : 0 ≤ es.getD k 0 := by
    rw [← h.eq k hk]; unfold epB
    cases hg : gB R k with
    | none => simp
    | some t => have := h.ok.pos _ (gB_mem hg); simp; omega
  have hkey : epB (openR R k n) k = es'.getD k 0 := by
    rw [epB_open, h.eq k hk, he]
    have hE : openE R k n = if 0 ≤ (k : Int) ∧ 1 ≤ n ∧ n ≤ 1099511627776 then (if n < es.getD k 0 then 11 else 0) else 1 := by rw [openE, h.eq k hk]
    by_cases h1 : es.getD k 0 < n ∧ n ≤ 1099511627776
    · have : openE R k n = 0 := by rw [hE, if_pos (by omega), if_neg (by omega)]
      rw [if_pos this, if_pos h1]; simp [List.getD, h.len, hk]
    · rw [if_neg h1]
      by_cases h2 : openE R k n = 0
      · rw [if_pos h2]
        rw [hE] at h2
        split at h2
        · split at h2
          · cases h2
          · omega
        · cases h2
      · rw [if_neg h2]
  have hoth : ∀ j : Nat, j ≠ k → epB (openR R k n) j = epB R j := fun j hj => by
    unfold openR
    split
    · have e2 : (j : Int) ≠ k := by omega
      rw [epB, gB_put, if_neg e2]; rfl
    · rfl
  refine ⟨h.ok.open k n, hc, by rw [he]; split <;> simp [h.len], fun x hx => ?_, fun j hj => ?_⟩
  · unfold openR at hx
    split at hx
    · unfold putB at hx
      split at hx
      · rcases mem_set hx with rfl | hx
        · simp; omega
        · exact h.lt x hx
      · rcases mem_ins.1 hx with rfl | hx
        · simp; omega
        · exact h.lt x hx
    · exact h.lt x hx
  · by_cases e : j = k
    · subst e; exact hkey
    · rw [hoth j e, h.eq j hj, he]
      split
      · simp [List.getD, List.getElem?_set_ne (Ne.symm e)]
      · rfl

theorem attachIds_walk (W : World) (g : Value) (hg : ArgI W 3 g) : FN Try.prog 7 [g] [whole W] (fun v h => v = .bool true ∧ h = [whole W]) := by
  obtain ⟨ga, glen, gcap, rfl, -, hgs⟩ := hg
  refine FN.intro 101 [(0, .slice ga glen gcap)] Try.func7 rfl (enters Try.func7 (by kernel_rfl) rfl) Try.ntmps7 rfl rfl ?_
  refine WP.seq <| WP.region <| v0 (S0.assign rfl) rfl <| vE <| WP.seq <| WP.region <| ?_  -- op t11 := call F10{rivulet/attach.Empty}()
  refine vc (S1.callF rfl (empty_spec) take0) rfl ?_
  rintro _ _ ⟨hb, c0, rfl, rfl, hc0⟩
  refine app ?_
  refine v0 (S0.assign rfl) rfl <| vE <| WP.seq <| WP.seq <| WP.region <| v0 (S0.move rfl) rfl <| v0 (S0.nilP rfl rfl rfl rfl) rfl <| vE <| ?_  -- cond
  refine WP.condFh rfl (rfl) ?_
  refine WP.skip <| WP.seq <| WP.region <| vnv (S1.makeSlice1 rfl rfl (by decide)) rfl fun b14 => v0 (S0.assign rfl) rfl <| vE <| ?_  -- cut
  refine WP.cutS (fun s : Nat => True) (fun s : Nat => [(3, .pointer (some ⟨hb, 0, none⟩))]) (fun s : Nat => [whole W]) ?_ (fun s hinv => ?_)
  · refine WP.seq <| WP.region <| v0 (S0.assign rfl) rfl <| vE <| WP.block <| ?_  -- Code.loop
    refine WP.loop (fun s : Nat × BM × List Blk × List Int => s.1 ≤ 80 ∧ s.2.1.length ≤ s.1 ∧ IdsI hb s.2.1 s.2.2.1 s.2.2.2) (fun s : Nat × BM × List Blk × List Int => [(0, .slice ga glen gcap), (3, .pointer (some ⟨hb, 0, none⟩)), (4, .slice (some ⟨b14, 0, none⟩) 4 4), (5, .int .i64 (s.1 : Int))]) (fun s : Nat × BM × List Blk × List Int => [[(b14, .cells ⟨ints s.2.2.2⟩ 3 (0, 0))], s.2.2.1, whole W]) (fun s : Nat × BM × List Blk × List Int => 80 - s.1) ((0, [], c0, [0, 0, 0, 0])) (⟨Nat.zero_le _, Nat.le_refl _, IdsI.nil hc0⟩) ⟨rfl, rfl, rfl, rfl, trivial⟩ ⟨_, (take1 at0 (take1 at0 (take1 at0 take0)))⟩ (fun s hinv => ?_) 
    obtain ⟨i, R, c, es⟩ := s
    obtain ⟨hi, hlen, hI⟩ := hinv
    dsimp only at hi hlen hI ⊢
    refine WP.seq <| WP.seq <| WP.region <| v0 (S0.move rfl) rfl <| v0 (S0.move rfl) rfl <| v0 (S0.lenSl rfl) rfl <| v0 (S0.cmp rfl rfl rfl) rfl <| v0 (S0.move rfl) rfl <| ?_  -- guard t19 (wants True) at t20 := move t5 [if #4=True]
    first | refine csP (t := 19) rfl (fun h1 => ?_) (fun h1 => ?_) | refine csN (t := 19) rfl (fun h1 => ?_) (fun h1 => ?_) | refine cs (t := 19) rfl (fun h1 => ?_) (fun h1 => ?_)
    · skip
      refine gT rfl <| v0 (S0.move rfl) rfl <| gT rfl <| v0 (S0.cmp rfl rfl rfl) rfl <| v0 (S0.pickT rfl rfl) rfl <| vE <| ?_  -- cond
      first | refine WP.condP rfl (fun h2 => ?_) (fun h2 => ?_) | refine WP.condN rfl (fun h2 => ?_) (fun h2 => ?_) | refine WP.cond rfl (fun h2 => ?_) (fun h2 => ?_)
      · skip
        rcases hgs with h0 | ⟨gb, go, GL, GU, gfz, rfl, hgb, hcell⟩
        · omega
        have hlt : i < glen := by omega
        obtain ⟨kd, hkd, -⟩ := hcell i 0 hlt (by decide)
        obtain ⟨who, hwho, -⟩ := hcell i 1 hlt (by decide)
        obtain ⟨n, hn, -⟩ := hcell i 2 hlt (by decide)
        have : HasC (whole W) gb (.cells ⟨GL⟩ GU gfz) := ⟨whole_mem.2 hgb⟩
        obtain ⟨cv, hcv⟩ : ∃ e, bitsI .and .i64 who 3 = some e := ⟨_, rfl⟩
        have hm := mask_i64 hcv (by decide)
        obtain ⟨cn, rfl⟩ : ∃ m : Nat, cv = m := ⟨cv.toNat, by omega⟩
        have hcn : cn < 4 := by omega
        have hel := hI.len
        refine WP.skip <| WP.seq <| WP.block <| WP.seq <| WP.region <| v0 (S0.move rfl) rfl <| v0 (S0.move rfl) rfl <| ?_  -- op t27 := indexAddr 22 t25 t26
        refine v0 (S0.indexO rfl rfl hlt) rfl <| ?_
        refine v0 (S0.loadA rfl (take3_of hkd hwho hn) rfl) rfl <| ?_
        refine vn (S1.alloc) rfl fun b6 => vs (S1.storeA rfl rfl rfl) <| vE <| WP.seq <| WP.region <| v0 (S0.fieldAddr rfl) rfl <| v0 (S0.load rfl rfl) rfl <| ?_  -- op t31 := and t30 3:i64 :3
        refine v0 (S0.bits rfl rfl hcv) rfl <| ?_
        refine v0 (S0.assign rfl) rfl <| vE <| ?_  -- cut
        refine WP.cutS (fun s : BM × List Blk × List Int => s.1.length ≤ i + 1 ∧ IdsI hb s.1 s.2.1 s.2.2) (fun s : BM × List Blk × List Int => [(0, .slice (some ⟨gb, go, none⟩) glen gcap), (3, .pointer (some ⟨hb, 0, none⟩)), (4, .slice (some ⟨b14, 0, none⟩) 4 4), (5, .int .i64 (i : Int))]) (fun s : BM × List Blk × List Int => [[(b14, .cells ⟨ints s.2.2⟩ 3 (0, 0))], s.2.1, whole W]) ?_ (fun s hinv => ?_)
        · refine WP.seq <| WP.region <| v0 (S0.fieldAddr rfl) rfl <| v0 (S0.load rfl rfl) rfl <| v0 (S0.cmp rfl rfl rfl) rfl <| vE <| ?_  -- cond
          first | refine WP.condP rfl (fun hk => ?_) (fun hk => ?_) | refine WP.condN rfl (fun hk => ?_) (fun hk => ?_) | refine WP.cond rfl (fun hk => ?_) (fun hk => ?_)
          · skip
            refine WP.seq <| WP.region <| v0 (S0.move rfl) rfl <| v0 (S0.move rfl) rfl <| ?_  -- op t37 := call F21{(*rivulet/attach.Hall).Drop}(t35, t36)
            refine vc (S1.callF rfl (hdrop_spec hI.h hI.ok.ok cn) (take1 (atS (atS at0)) take0)) rfl ?_
            rintro _ _ ⟨rfl, c2, rfl, hc2⟩
            refine app ?_
            refine vE <| WP.region <| v0 (S0.move rfl) rfl <| v0 (S0.move rfl) rfl <| ?_  -- op t40 := indexAddr 52 t38 t39
            refine v0 (S0.index1 rfl rfl hcn) rfl <| ?_
            refine vs (S1.storeI rfl rfl rfl (ints_set es cn 0) (by rw [ints_len, hel]; exact hcn)) <| ?_
            refine vE <| ?_  -- cutend
            exact ⟨(delB R cn, c2, es.set cn 0), (by first | exact ⟨by have := del_len R cn; omega, hI.drop hcn hc2⟩ | (dsimp only; exact ⟨by have := del_len R cn; omega, hI.drop hcn hc2⟩)), ⟨⟨rfl, rfl, rfl, rfl, trivial⟩, rfl, rfl⟩, ⟨_, (take1 (atS (atS at0)) (take1 at0 (take1 (atS at0) take0)))⟩⟩
          · skip
            refine WP.seq <| WP.region <| v0 (S0.move rfl) rfl <| v0 (S0.move rfl) rfl <| v0 (S0.fieldAddr rfl) rfl <| v0 (S0.load rfl rfl) rfl <| ?_  -- op t45 := call F19{(*rivulet/attach.Hall).Open}(t41, t42, t44)
            refine vc (S1.callF rfl (hopen_spec hI.h cn n) (take1 (atS (atS at0)) take0)) rfl ?_
            rintro _ _ ⟨rfl, c2, rfl, hc2⟩
            refine app ?_
            refine vE <| WP.seq <| WP.drawP [0, 1, 2, 3, 4, 5, 6, 7, 8, 9, 10, 11] mixed (by kernel_rfl) (by kernel_rfl) (by kernel_rfl) (take1 (atS at0) (take1 (atS at0) take0)) <| w0 rfl rfl rfl (S0.fieldAddr rfl) rfl <| w0 rfl rfl rfl (S0.load rfl rfl) rfl <| w0 rfl rfl rfl (S0.move rfl) rfl <| w0 rfl rfl rfl (S0.move rfl) rfl <| ?_  -- op t50 := indexAddr 52 t48 t49
            refine w0 rfl rfl rfl (S0.index1 rfl rfl hcn) rfl <| ?_
            refine w0 rfl rfl rfl (S0.load rfl (ints_at (by rw [hel]; exact hcn))) rfl <| ?_
            refine w0 rfl rfl rfl (S0.cmp rfl rfl rfl) rfl <| w0 rfl rfl rfl (S0.move rfl) rfl <| ?_  -- guard t53 (wants True) at t54 := fieldAddr 37 t6 2 [if #7=True]
            first | refine wcsP (t := 53) rfl (fun hc1 => ?_) (fun hc1 => ?_) | refine wcsN (t := 53) rfl (fun hc1 => ?_) (fun hc1 => ?_) | refine wcs (t := 53) rfl (fun hc1 => ?_) (fun hc1 => ?_)
            · skip
              refine w0 rfl rfl rfl (S0.fieldAddr rfl) rfl <| w0 rfl rfl rfl (S0.load rfl rfl) rfl <| w0 rfl rfl rfl (S0.cmp rfl rfl rfl) rfl <| w0 rfl rfl rfl (S0.pickT rfl rfl) rfl <| wE <| ?_  -- cond
              first | refine WP.condP rfl (fun hc3 => ?_) (fun hc3 => ?_) | refine WP.condN rfl (fun hc3 => ?_) (fun hc3 => ?_) | refine WP.cond rfl (fun hc3 => ?_) (fun hc3 => ?_)
              · skip
                refine WP.region <| v0 (S0.move rfl) rfl <| v0 (S0.move rfl) rfl <| v0 (S0.fieldAddr rfl) rfl <| v0 (S0.load rfl rfl) rfl <| ?_  -- op t62 := indexAddr 52 t58 t59
                refine v0 (S0.index1 rfl rfl hcn) rfl <| ?_
                refine vs (S1.storeI rfl rfl rfl (ints_set es cn n) (by rw [ints_len, hel]; exact hcn)) <| ?_
                refine vE <| ?_  -- cutend
                exact ⟨(openR R cn n, c2, es.set cn n), (by first | exact ⟨by have := open_len R cn n; omega, hI.put hcn hc2 (by rw [if_pos ⟨hc1, hc3⟩])⟩ | (dsimp only; exact ⟨by have := open_len R cn n; omega, hI.put hcn hc2 (by rw [if_pos ⟨hc1, hc3⟩])⟩)), ⟨⟨rfl, rfl, rfl, rfl, trivial⟩, rfl, rfl⟩, ⟨_, (take1 (atS at0) (take1 (atS at0) (take1 (atS at0) take0)))⟩⟩
              · skip
                refine WP.skip <| ?_  -- cutend
                exact ⟨(openR R cn n, c2, es), (by first | exact ⟨by have := open_len R cn n; omega, hI.put hcn hc2 (by rw [if_neg (fun h => hc3 h.2)])⟩ | (dsimp only; exact ⟨by have := open_len R cn n; omega, hI.put hcn hc2 (by rw [if_neg (fun h => hc3 h.2)])⟩)), ⟨⟨rfl, rfl, rfl, rfl, trivial⟩, rfl, rfl⟩, ⟨_, (take1 (atS at0) (take1 (atS at0) (take1 (atS at0) take0)))⟩⟩
            · skip
              refine wF rfl rfl rfl <| wF rfl rfl rfl <| wF rfl rfl rfl <| w0 rfl rfl rfl (S0.pickF rfl rfl) rfl <| wE <| WP.condF rfl <| WP.skip <| ?_  -- cutend
              exact ⟨(openR R cn n, c2, es), (by first | exact ⟨by have := open_len R cn n; omega, hI.put hcn hc2 (by rw [if_neg (fun h => hc1 h.1)])⟩ | (dsimp only; exact ⟨by have := open_len R cn n; omega, hI.put hcn hc2 (by rw [if_neg (fun h => hc1 h.1)])⟩)), ⟨⟨rfl, rfl, rfl, rfl, trivial⟩, rfl, rfl⟩, ⟨_, (take1 (atS at0) (take1 (atS at0) (take1 (atS at0) take0)))⟩⟩
        · skip
          obtain ⟨R2, c2, es2⟩ := s
          obtain ⟨hlen2, hI2⟩ := hinv
          dsimp only at hlen2 hI2 ⊢
          have hid := ids_lst hI2.ok hI2.lt hI2.eq
          refine WP.seq <| WP.region <| v0 (S0.move rfl) rfl <| ?_  -- op t64 := call F29{(*rivulet/attach.Hall).Ids}(t63)
          refine vc (S1.callF rfl (hids_spec hI2.h hI2.ok.ok (by omega)) (take1 (atS at0) take0)) rfl ?_
          rintro v1 _ ⟨q1, hq1, rfl⟩
          refine app ?_
          rw [hid] at hq1
          obtain ⟨a1, p1, rfl, -, hrow⟩ := hq1.intsE
          refine v0 (S0.assign rfl) rfl <| v0 (S0.assign rfl) rfl <| vE <| WP.seq <| WP.seq <| WP.region <| v0 (S0.assign rfl) rfl <| vE <| WP.block <| ?_  -- Code.loop
          refine WP.loop (fun s : Nat × Nat => s.1 ≤ 4 ∧ s.2 = cnt es2 s.1) (fun s : Nat × Nat => [(0, .slice (some ⟨gb, go, none⟩) glen gcap), (3, .pointer (some ⟨hb, 0, none⟩)), (4, .slice (some ⟨b14, 0, none⟩) 4 4), (5, .int .i64 (i : Int)), (8, .slice a1 (lst es2).length p1), (9, .int .i64 (s.2 : Int)), (10, .int .i64 (s.1 : Int))]) (fun s : Nat × Nat => [[(b14, .cells ⟨ints es2⟩ 3 (0, 0))], c2, q1, whole W]) (fun s : Nat × Nat => 4 - s.1) ((0, 0)) (⟨Nat.zero_le _, rfl⟩) ⟨rfl, rfl, rfl, rfl, rfl, rfl, rfl, trivial⟩ ⟨_, (take1 (atS (atS at0)) (take1 (atS at0) (take1 at0 (take1 at0 take0))))⟩ (fun s hinv => ?_) 
          obtain ⟨k, nn⟩ := s
          obtain ⟨hk, hnn⟩ := hinv
          dsimp only at hk hnn ⊢
          have hcs := cnt_succ es2 k
          refine WP.seq <| WP.seq <| WP.region <| v0 (S0.move rfl) rfl <| v0 (S0.cmp rfl rfl rfl) rfl <| vE <| ?_  -- cond
          first | refine WP.condP rfl (fun hk2 => ?_) (fun hk2 => ?_) | refine WP.condN rfl (fun hk2 => ?_) (fun hk2 => ?_) | refine WP.cond rfl (fun hk2 => ?_) (fun hk2 => ?_)
          · skip
            have hk4 : k < 4 := by omega
            have hkl : k < es2.length := by rw [hI2.len]; exact hk4
            refine WP.skip <| WP.seq <| WP.block <| WP.seq <| WP.seq <| WP.drawP [0, 1, 3, 4, 5, 6, 2, 7] mixed (by kernel_rfl) (by kernel_rfl) (by kernel_rfl) (take1 at0 take0) <| w0 rfl rfl rfl (S0.move rfl) rfl <| w0 rfl rfl rfl (S0.move rfl) rfl <| w0 rfl rfl rfl (S0.move rfl) rfl <| w0 rfl rfl rfl (S0.move rfl) rfl <| ?_  -- op t74 := indexAddr 52 t72 t73
            refine w0 rfl rfl rfl (S0.index1 rfl rfl hk4) rfl <| ?_
            refine w0 rfl rfl rfl (S0.load rfl (ints_at hkl)) rfl <| ?_
            -- (nothing to walk: op t71 := call F26{(*rivulet/attach.Hall).Epoch}(t69, t70))
            refine wcd rfl rfl rfl (S1.callF rfl (hepoch_spec hI2.h k) (take1 at0 take0)) rfl ?_
            refine w0 rfl rfl rfl (S0.cmp rfl rfl rfl) rfl <| wE <| ?_  -- cond
            refine WP.condFh rfl ((by rw [hI2.eq k hk4]; simp)) ?_
            refine WP.skip <| WP.seq <| WP.region <| v0 (S0.move rfl) rfl <| v0 (S0.move rfl) rfl <| ?_  -- op t79 := indexAddr 52 t77 t78
            refine v0 (S0.index1 rfl rfl hk4) rfl <| ?_
            refine v0 (S0.load rfl (ints_at hkl)) rfl <| ?_
            refine v0 (S0.cmp rfl rfl rfl) rfl <| vE <| ?_  -- cond
            first | refine WP.condP rfl (fun hp => ?_) (fun hp => ?_) | refine WP.condN rfl (fun hp => ?_) (fun hp => ?_) | refine WP.cond rfl (fun hp => ?_) (fun hp => ?_)
            · skip
              have hx := lst_at es2 hk4 (decide_eq_true hp)
              rw [← hnn] at hx
              have hnl : nn < (lst es2).length := (List.getElem?_eq_some_iff.1 hx).1
              rw [show posE es2 k = true from decide_eq_true hp] at hcs
              rcases hrow with ⟨e, -⟩ | ⟨b1, sp1, rfl, rfl, -⟩
              · rw [e] at hnl; simp at hnl
              have hll : (lst es2).length ≤ 4 := by rw [lst_len]; unfold cnt; exact Nat.le_trans (List.length_filter_le _ _) (by simp)
              refine WP.seq <| WP.seq <| WP.region <| v0 (S0.move rfl) rfl <| v0 (S0.move rfl) rfl <| v0 (S0.lenSl rfl) rfl <| v0 (S0.cmp rfl rfl rfl) rfl <| v0 (S0.move rfl) rfl <| ?_  -- guard t86 (wants False) at t87 := move t8 [if #4=False]
              refine csFh (t := 86) rfl ((decide_eq_false (by omega))) ?_
              refine gT rfl <| v0 (S0.move rfl) rfl <| gT rfl <| v0 (S0.move rfl) rfl <| ?_  -- op t89 := indexAddr 52 t87 t88 [if #4=False]
              refine gT rfl <| v0 (S0.index1 rfl rfl hnl) rfl <| ?_
              refine gT rfl <| v0 (S0.load rfl (ints_get hx)) rfl <| ?_
              refine gT rfl <| v0 (S0.move rfl) rfl <| gT rfl <| v0 (S0.cmp rfl rfl rfl) rfl <| v0 (S0.pickF rfl rfl) rfl <| vE <| ?_  -- cond
              refine WP.condFh rfl ((by simp)) ?_
              refine WP.skip <| WP.region <| v0 (S0.move rfl) rfl <| v0 (S0.ari rfl rfl rfl (wrap_i64 (by omega))) rfl <| v0 (S0.assign rfl) rfl <| vE <| WP.region <| v0 (S0.move rfl) rfl <| v0 (S0.ari rfl rfl rfl (wrap_i64 (by omega))) rfl <| v0 (S0.assign rfl) rfl <| vE <| ?_  -- roundend
              exact ⟨(k + 1, nn + 1), (by first | exact ⟨hk4, by rw [hcs, hnn]; rfl⟩ | (dsimp only; exact ⟨hk4, by rw [hcs, hnn]; rfl⟩)), (show 4 - (k + 1) < 4 - k by omega), ⟨⟨rfl, rfl, rfl, rfl, rfl, rfl, rfl, trivial⟩, rfl, rfl⟩, ⟨_, (take1 at0 (take1 at0 (take1 at0 (take1 at0 take0))))⟩⟩
            · skip
              refine WP.skip <| WP.region <| v0 (S0.move rfl) rfl <| v0 (S0.ari rfl rfl rfl (wrap_i64 (by omega))) rfl <| v0 (S0.assign rfl) rfl <| vE <| ?_  -- roundend
              rw [show posE es2 k = false from decide_eq_false hp] at hcs
              exact ⟨(k + 1, nn), (by first | exact ⟨hk4, by rw [hcs, hnn]; rfl⟩ | (dsimp only; exact ⟨hk4, by rw [hcs, hnn]; rfl⟩)), (show 4 - (k + 1) < 4 - k by omega), ⟨⟨rfl, rfl, rfl, rfl, rfl, rfl, rfl, trivial⟩, rfl, rfl⟩, ⟨_, (take1 at0 (take1 at0 (take1 at0 (take1 at0 take0))))⟩⟩
          · skip
            refine WP.exit <| WP.seq <| WP.region <| v0 (S0.move rfl) rfl <| v0 (S0.move rfl) rfl <| v0 (S0.lenSl rfl) rfl <| v0 (S0.cmp rfl rfl rfl) rfl <| vE <| ?_  -- cond
            have e4 : k = 4 := by omega
            refine WP.condFh rfl ((by rw [hnn, e4, ← lst_len]; simp)) ?_
            refine WP.skip <| WP.region <| v0 (S0.move rfl) rfl <| v0 (S0.ari rfl rfl rfl (wrap_i64 (by omega))) rfl <| v0 (S0.assign rfl) rfl <| vE <| ?_  -- roundend
            exact ⟨(i + 1, R2, c2, es2), (by first | exact ⟨by omega, hlen2, hI2⟩ | (dsimp only; exact ⟨by omega, hlen2, hI2⟩)), (show 80 - (i + 1) < 80 - i by omega), ⟨⟨rfl, rfl, rfl, rfl, trivial⟩, rfl, rfl⟩, ⟨_, (take1 at0 (take1 at0 (take1 (atS at0) take0)))⟩⟩
      · skip
        refine WP.exit <| ?_  -- cutend
        exact ⟨0, (by first | exact trivial | (dsimp only; exact trivial)), ⟨⟨rfl, trivial⟩, rfl, rfl⟩, ⟨_, (take1 (atS (atS at0)) take0)⟩⟩
    · skip
      refine gF rfl rfl <| gF rfl rfl <| v0 (S0.pickF rfl rfl) rfl <| vE <| WP.condF rfl <| WP.exit <| ?_  -- cutend
      exact ⟨0, (by first | exact trivial | (dsimp only; exact trivial)), ⟨⟨rfl, trivial⟩, rfl, rfl⟩, ⟨_, (take1 (atS (atS at0)) take0)⟩⟩
  · skip
    refine WP.seq <| WP.region <| ?_  -- op t100 := call F31{rivulet/rivuletlaw17.fixed}()
    refine vc (S1.callF rfl (fixed_spec) take0) rfl ?_
    rintro _ _ ⟨rfl, rfl⟩
    refine app ?_
    refine v0 (S0.assign rfl) rfl <| vE <| WP.ret <| ?_  -- ret
    refine r1 rfl rfl ?_
    exact ⟨rfl, rfl⟩
end Go.Proofs.Ytjglpmaedphbnaa
