import Derived.Test.YtnoicafjkgbokaaDoorOrder
import Derived.Test.YtnoicafjkgbokaaDoorLaw
import Derived.Test.YtnoicafjkgbokaaDoorSort
namespace Go.Proofs.YtnoicafjkgbokaaDoor
open Go

/-- a function that touches no block: what it leaves is the world itself, with blocks behind it -/
theorem FN.lays {P : Program} {g : Nat} {args : List Value} {v : Value} (H : FN P g args [] (is v [])) (W : World) : Calls P g ⟨args⟩ W fun e w' => e = .returned v ∧ ∃ q os', w' = Sort.grow (W.drewN q) os' := by
  have st : Sat W (([] : Hp).flatten ++ whole W) W := by simpa using Sat.whole W
  refine (H.run W (whole W) W st).mono ?_
  rintro e w' ⟨v', h', rfl, ⟨rfl, rfl⟩, st⟩
  refine ⟨rfl, w'.drawn - W.drawn, w'.heap.extract W.heap.size w'.heap.size, ?_⟩
  have hh : w'.heap = W.heap ++ w'.heap.extract W.heap.size w'.heap.size := by
    apply Array.ext
    · have := st.size; simp; omega
    · intro i h1 h2
      by_cases hi : i < W.heap.size
      · rw [Array.getElem_append_left hi]
        have := st.cell (i, W.heap[i]) (by simp; exact whole_mem.2 (by simp [hi]))
        exact (Array.getElem?_eq_some_iff.1 this).2
      · rw [Array.getElem_append_right (by omega), Array.getElem_extract]
        congr 1; omega
  have hd := st.drawn
  have e1 := st.tape
  have e2 := st.os
  have e3 := st.out
  cases w'
  cases W
  simp only at *
  subst e1 e2 e3
  simp only [Sort.grow, World.drewN, World.mk.injEq, and_true, true_and]
  exact ⟨hh, by omega⟩

theorem putCells_enc {α : Type} [Inhabited α] (enc : α → Value) (ys : List α) (cs sp : List Value) (h : ys.length = cs.length) : (Sort.putCells enc 0 ys.toArray ⟨cs ++ sp⟩) = ⟨ys.map enc ++ sp⟩ := by
  apply Array.ext
  · simp [Sort.putCells, h]
  · intro i h1 h2
    simp only [Sort.putCells, Array.getElem_mapIdx]
    simp only [Nat.zero_le, true_and, Nat.zero_add, List.size_toArray, Nat.sub_zero]
    by_cases hi : i < ys.length
    · rw [if_pos hi]
      simp [List.getElem_append_left, hi]
    · rw [if_neg hi]
      simp only [List.getElem_toArray]
      rw [List.getElem_append_right (by omega), List.getElem_append_right (by simp; omega)]
      simp [h]
/-- a row laid anew, in place -/
theorem Sat.putRow {α : Type} [Inhabited α] {enc : α → Value} {E w : World} {b : Nat} {U : TypeId} {cs sp : List Value} {hr : Hp} {R : List Blk} (st : Sat E (([(b, .cells ⟨cs ++ sp⟩ U (0, 0))] :: hr : Hp).flatten ++ R) w) (n : Nat) (ys : List α) (h : ys.length = cs.length) :
    Sat E (([(b, .cells ⟨ys.map enc ++ sp⟩ U (0, 0))] :: hr : Hp).flatten ++ R) (Sort.putRow enc (Sort.ahead w n) b 0 ys.toArray) := by
  have hb : w.heap[b]? = some (.cells ⟨cs ++ sp⟩ U (0, 0)) := st.cell (b, _) (by simp)
  have st1 := st.drawn' n
  have e : Sort.putRow enc (Sort.ahead w n) b 0 ys.toArray = { (Sort.ahead w n) with heap := (Sort.ahead w n).heap.setIfInBounds b (.cells ⟨ys.map enc ++ sp⟩ U (0, 0)) } := by
    obtain ⟨hlt, hg⟩ := Array.getElem?_eq_some_iff.1 hb
    unfold Sort.putRow Sort.mapBlock
    have h2 : (Sort.ahead w n).heap = w.heap := rfl
    congr 1
    rw [h2]
    apply Array.ext
    · simp
    · intro j h1 h2
      rw [Array.getElem_modify, Array.getElem_setIfInBounds (by simpa using h2)]
      split
      · rename_i e
        subst e
        rw [hg]
        simp only [Sort.onCells]
        rw [putCells_enc enc ys cs sp h]
      · rfl
  rw [e]
  exact Sat.upd (h := [(b, .cells ⟨cs ++ sp⟩ U (0, 0))] :: hr) (b := b) (o := .cells ⟨cs ++ sp⟩ U (0, 0)) st1
theorem holds_row {α : Type} [Inhabited α] {enc : α → Value} {w : World} {b : Nat} {U : TypeId} {sp : List Value} {ys : List α} (hb : w.heap[b]? = some (.cells ⟨ys.map enc ++ sp⟩ U (0, 0))) : Sort.Holds enc w b 0 ys.toArray := by
  intro j hj
  have hj' : j < ys.length := by simpa using hj
  constructor
  · simp only [Nat.zero_add]
    refine cell_of hb ?_
    rw [List.getElem?_append_left (by simpa using hj')]
    simp [hj']
  · simp [World.frozen?, hb]

/-- texts that are not too long -/
abbrev StrB := { s : Str // s.length ≤ 100000 }
instance : Inhabited StrB := ⟨⟨[], by simp⟩⟩
abbrev encB (x : StrB) : Value := sv x.1
abbrev sortP (zs : List Str) : List Str := zs.mergeSort fun x y => !lessS y x
theorem sortP_perm (zs : List Str) : (sortP zs).Perm zs := List.mergeSort_perm _ _
theorem sortP_le (zs : List Str) : (sortP zs).Pairwise fun x y => lessS y x = false := by
  refine (List.pairwise_mergeSort ?_ ?_ zs).imp (fun {a b} h => by simpa using h)
  · intro a b c h1 h2
    simp only [Bool.not_eq_true'] at h1 h2 ⊢
    cases h3 : lessS c a with
    | false => rfl
    | true =>
      cases h4 : lessS a b with
      | true => have := lessS_trans h3 h4; rw [h2] at this; cases this
      | false => have := lessS_tri h4 h1; subst this; rw [h2] at h3; cases h3
  · intro a b
    cases h : lessS b a with
    | false => simp
    | true => simp [lessS_asym h]
theorem ltOf_less (x y : StrB) : Go.Proofs.ltOf (fun a b : StrB => cmpL (levels a.1) (levels b.1)) x y = lessS x.1 y.1 := by
  unfold Go.Proofs.ltOf lessS
  rw [Bool.eq_iff_iff, decide_eq_true_eq]
  exact cmpL_lt _ _
theorem swo_less : Go.Sort.SWO (Go.Proofs.ltOf (fun a b : StrB => cmpL (levels a.1) (levels b.1))) where
  irrefl x := by rw [ltOf_less]; exact lessS_irr _
  trans x y z h1 h2 := by rw [ltOf_less] at *; exact lessS_trans h1 h2
  ntrans x y z h1 h2 := by
    rw [ltOf_less] at *
    cases h3 : lessS x.1 z.1 with
    | false => rfl
    | true =>
      cases h4 : lessS y.1 x.1 with
      | true => have := lessS_trans h4 h3; rw [h2] at this; cases this
      | false => have := lessS_tri h1 h4; rw [this] at h3; rw [h2] at h3; cases h3
theorem sortF_spec {g : Nat} {v : Value} {zs : List Str} {c : List Blk} (hg : ∀ x y : StrB, FN Tryd.prog g [encB x, encB y] [] (is (.int .i64 (cmpL (levels x.1) (levels y.1))) []))
    (hs : IsSl 9 1 v (strs zs) c) (hz : ∀ x ∈ zs, x.length ≤ 100000) (hl : zs.length ≤ 1000000) :
    FN Tryd.prog 47 [v, .func (.func g) #[] #[]] [c] (fun u h' => u = .tuple #[] ∧ ∃ c', IsSl 9 1 v (strs (sortP zs)) c' ∧ h' = [c']) := by
  have hent := enters Tryd.func47 (by kernel_rfl) rfl
  obtain ⟨a, cap, rfl, hcap, hr⟩ := hs.strsE
  refine ⟨hent, fun E' R w st => ?_⟩
  rcases hr with ⟨rfl, rfl, rfl, rfl⟩ | ⟨b, sp, rfl, rfl, hcp⟩
  · refine (Tryd.slices_SortFunc_none (α := StrB) none 0 _ w).mono ?_
    rintro e w' ⟨rfl, rfl⟩
    exact ⟨_, _, rfl, ⟨rfl, [], by simpa [sortP] using IsSl.nil, rfl⟩, st⟩
  · -- the texts with their bounds
    obtain ⟨ds, rfl⟩ : ∃ ds : List StrB, zs = ds.map (·.1) := ⟨zs.attach.map fun x => ⟨x.1, hz x.1 x.2⟩, by simp⟩
    have hm : strs (ds.map (·.1)) = ds.map encB := by simp [strs]
    rw [hm] at st
    have hb : w.heap[b]? = some (.cells ⟨ds.map encB ++ sp⟩ 9 (0, 0)) := st.cell (b, _) (by simp)
    have hH := holds_row (enc := encB) (ys := ds) hb
    have hblk := (Array.getElem?_eq_some_iff.1 hb).1
    have hcon := Tryd.slices_SortFunc_total (α := StrB) encB (fun _ => rfl) (fun a b => cmpL (levels a.1) (levels b.1)) swo_less g #[] b 0 cap ds.toArray w (hg default default).enters
      (fun m os dk _ x y => by simpa using FN.lays (hg x y) _) hH hblk (by simp at hl ⊢; omega) (fun x y h1 h2 => by
        rw [ltOf_less] at h1 h2
        exact Subtype.ext (lessS_tri h1 h2))
    have el : (ds.map (·.1)).length = ds.toArray.size := by simp
    rw [el]
    refine hcon.mono ?_
    rintro e w' ⟨rfl, k, os, rfl⟩
    have e2 : strs (sortP (ds.map (·.1))) = (ds.mergeSort fun x y => !(Go.Proofs.ltOf (fun a b : StrB => cmpL (levels a.1) (levels b.1))) y x).map encB := by
      have : sortP (ds.map (·.1)) = (ds.mergeSort fun x y => !(Go.Proofs.ltOf (fun a b : StrB => cmpL (levels a.1) (levels b.1))) y x).map (·.1) := by
        symm
        refine List.map_mergeSort fun x _ y _ => ?_
        rw [ltOf_less]
      rw [this]; simp [strs]
    have hlen2 : (sortP (ds.map (·.1))).length = ds.length := by simp [sortP]
    refine ⟨_, [[(b, .cells ⟨(ds.mergeSort fun x y => !(Go.Proofs.ltOf (fun a b : StrB => cmpL (levels a.1) (levels b.1))) y x).map encB ++ sp⟩ 9 (0, 0))]], rfl, ⟨rfl, _, ?_, rfl⟩, Sat.grow ?_ os⟩
    · rw [← e2, ← el]
      refine IsSl.row (E := 9) (k := 1) (b := b) (n := (ds.map (·.1)).length) (c := cap) (l := strs (sortP (ds.map (·.1)))) (sp := sp) (by simp [strs, hlen2]) ?_ (by simpa using hcap)
      simp only [strs, List.length_append, List.length_map, hlen2] at hcp ⊢
      omega
    · exact Sat.putRow (enc := encB) (cs := ds.map encB) st k (ds.mergeSort fun x y => !(Go.Proofs.ltOf (fun a b : StrB => cmpL (levels a.1) (levels b.1))) y x) (by simp)

/-! slices.Compact -/
theorem mem_compact {zs : List Str} {x : Str} : x ∈ Lib.compact zs ↔ x ∈ zs := by
  unfold Lib.compact Lib.compactUpTo
  simp only [List.mem_map, List.mem_filter, List.mem_range, Lib.keeps, decide_eq_true_eq]
  constructor
  · rintro ⟨j, ⟨hj, -⟩, rfl⟩
    have : zs.toArray[j]! = zs[j] := by simp [hj]
    rw [this]; exact List.getElem_mem hj
  · intro h
    obtain ⟨i, hi, rfl⟩ := List.getElem_of_mem h
    have key : ∀ i (hi : i < zs.length), ∃ j, (j < zs.length ∧ (j = 0 ∨ zs.toArray[j]! ≠ zs.toArray[j - 1]!)) ∧ zs.toArray[j]! = zs[i] := by
      intro i
      induction i with
      | zero => intro hi; exact ⟨0, ⟨hi, .inl rfl⟩, by simp [hi]⟩
      | succ i ih =>
        intro hi
        by_cases h : zs.toArray[i + 1]! = zs.toArray[i]!
        · obtain ⟨j, h1, h2⟩ := ih (by omega)
          refine ⟨j, h1, ?_⟩
          rw [h2]
          simp [hi, show i < zs.length by omega] at h
          exact h.symm
        · exact ⟨i + 1, ⟨hi, .inr (by simpa using h)⟩, by simp [hi]⟩
    exact key i hi
theorem sorted_compact {zs : List Str} (h : zs.Pairwise fun x y => lessS y x = false) : SortedS (Lib.compact zs) := by
  unfold Lib.compact Lib.compactUpTo
  rw [SortedS, List.pairwise_map]
  have hr : ((List.range zs.length).filter (Lib.keeps zs.toArray)).Pairwise (· < ·) := List.Pairwise.sublist List.filter_sublist List.pairwise_lt_range
  refine hr.imp_of_mem fun {j k} hj hk hjk => ?_
  simp only [List.mem_filter, List.mem_range, Lib.keeps, decide_eq_true_eq] at hj hk
  obtain ⟨hk1, hk2⟩ := hk
  have hk3 := hk2.resolve_left (by omega)
  have e1 : zs.toArray[j]! = zs[j] := by simp [hj.1]
  have e2 : zs.toArray[k]! = zs[k] := by simp [hk1]
  have e3 : zs.toArray[k - 1]! = zs[k - 1]'(by omega) := by simp [show k - 1 < zs.length by omega]
  rw [e2, e3] at hk3
  rw [e1, e2]
  have h1 : lessS zs[k] (zs[k - 1]'(by omega)) = false := List.pairwise_iff_getElem.1 h (k - 1) k (by omega) hk1 (by omega)
  have h2 : lessS (zs[k - 1]'(by omega)) zs[k] = true := by
    cases h3 : lessS (zs[k - 1]'(by omega)) zs[k] with
    | true => rfl
    | false => exact absurd (lessS_tri h1 h3) hk3
  by_cases e : j = k - 1
  · subst e; exact h2
  · have h3 : lessS (zs[k - 1]'(by omega)) zs[j] = false := List.pairwise_iff_getElem.1 h j (k - 1) (by omega) (by omega) (by omega)
    cases h4 : lessS zs[j] zs[k] with
    | true => rfl
    | false =>
      cases h5 : lessS zs[j] (zs[k - 1]'(by omega)) with
      | true => rw [lessS_trans h5 h2] at h4; cases h4
      | false => have := lessS_tri h5 h3; rw [this, h2] at h4; cases h4
theorem compact_le (zs : List Str) : (Lib.compact zs).length ≤ zs.length := by
  unfold Lib.compact Lib.compactUpTo
  rw [List.length_map]
  exact Nat.le_trans (List.length_filter_le _ _) (by simp)
theorem compact_spec {v : Value} {zs : List Str} {c : List Blk} (hs : IsSl 9 1 v (strs zs) c) (hl : zs.length ≤ 1000000) :
    FN Tryd.prog 49 [v] [c] (fun u h' => ∃ c', IsSl 9 1 u (strs (Lib.compact zs)) c' ∧ h' = [c']) := by
  have hent := enters Tryd.func49 (by kernel_rfl) rfl
  obtain ⟨a, cap, rfl, hcap, hr⟩ := hs.strsE
  refine ⟨hent, fun E' R w st => ?_⟩
  rcases hr with ⟨rfl, rfl, rfl, rfl⟩ | ⟨b, sp, rfl, rfl, hcp⟩
  · refine (Tryd.slices_Compact_string_empty none 0 w).mono ?_
    rintro e w' ⟨rfl, rfl⟩
    exact ⟨_, _, rfl, ⟨[], IsSl.nil, rfl⟩, st⟩
  · have hb : w.heap[b]? = some (.cells ⟨strs zs ++ sp⟩ 9 (0, 0)) := st.cell (b, _) (by simp)
    have hH : Sort.Holds Go.Proofs.encStr w b 0 zs.toArray := holds_row (enc := Go.Proofs.encStr) (ys := zs) hb
    have hcon := Tryd.slices_Compact_string b 0 cap zs w hH (by omega) hcap
    refine hcon.mono ?_
    rintro e w' ⟨rfl, k, rfl⟩
    have hcl := compact_le zs
    refine ⟨_, [[(b, .cells ⟨(Lib.compact zs ++ List.replicate (zs.length - (Lib.compact zs).length) []).map Go.Proofs.encStr ++ sp⟩ 9 (0, 0))]], rfl, ⟨_, ?_, rfl⟩, ?_⟩
    · rw [List.map_append, List.append_assoc]
      refine IsSl.row (E := 9) (k := 1) (b := b) (c := cap) (l := strs (Lib.compact zs)) (by simp [strs]) ?_ (by omega)
      simp only [strs, List.length_append, List.length_map, List.length_replicate] at hcp ⊢
      omega
    · exact Sat.putRow (enc := Go.Proofs.encStr) (cs := strs zs) st k _ (by simp; omega)
/-- what cover.clean makes of the filters -/
theorem compact_clean (l : List Str) : Lib.compact (sortP (l.filter filtS)) = cleanS l :=
  sortedS_ext (sorted_compact (sortP_le _)) (clean_sorted _) fun y => by
    rw [mem_compact, (sortP_perm _).mem_iff, mem_clean, List.mem_filter]
end Go.Proofs.YtnoicafjkgbokaaDoor
