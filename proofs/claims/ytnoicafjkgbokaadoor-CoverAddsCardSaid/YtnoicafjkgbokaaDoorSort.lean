/-
  slices.Sort at a slice of integers, by the shelf's contract.
-/
import Derived.Test.YtnoicafjkgbokaaDoorIter
import Derived.Sort.Grow
import Derived.Sort.Row
namespace Go.Proofs.YtnoicafjkgbokaaDoor
open Go

theorem Sat.drawn' {E w : World} {h : List Blk} (st : Sat E h w) (n : Nat) : Sat E h { w with drawn := w.drawn + n } :=
  ⟨st.nodup, st.cell, st.tape, st.os, st.out, Nat.le_trans st.drawn (Nat.le_add_right _ _), st.size⟩
theorem Sat.grow {E w : World} {h : List Blk} (st : Sat E h w) (os : Array Obj) : Sat E h (Sort.grow w os) :=
  ⟨st.nodup, fun p hp => by
    have := st.cell p hp
    obtain ⟨hlt, _⟩ := Array.getElem?_eq_some_iff.1 this
    show (w.heap ++ os)[p.1]? = some p.2
    rw [Array.getElem?_append_left hlt]; exact this, st.tape, st.os, st.out, st.drawn, by
    have := st.size
    show E.heap.size ≤ (w.heap ++ os).size
    rw [Array.size_append]; omega⟩

abbrev ints (zs : List Int) : List Value := zs.map (Value.int .i64)
abbrev sortI (zs : List Int) : List Int := zs.mergeSort fun x y => decide (x ≤ y)

theorem putCells_ints (zs ys : List Int) (sp : List Value) (h : ys.length = zs.length) : (Sort.putCells (Value.int .i64) 0 ys.toArray ⟨ints zs ++ sp⟩) = ⟨ints ys ++ sp⟩ := by
  apply Array.ext
  · simp [Sort.putCells, h]
  · intro i h1 h2
    simp only [Sort.putCells, Array.getElem_mapIdx]
    simp only [Nat.zero_le, true_and, Nat.zero_add, List.size_toArray, Nat.sub_zero]
    by_cases hi : i < ys.length
    · rw [if_pos hi]
      simp [List.getElem_append_left, hi]
    · rw [if_neg hi]
      simp only [List.getElem_toArray]
      rw [List.getElem_append_right (by simp; omega), List.getElem_append_right (by simp; omega)]
      simp [h]

theorem sort_spec {P : Program} {g : Nat} {E : TypeId} (hent : ∀ a w, (callFunc g a).run P w = .ok (.enter g a) w)
    (H : ∀ (blk off cap : Nat) (zs : List Int) (w : World), Sort.Holds (Value.int .i64) w blk off zs.toArray → blk < w.heap.size → zs.length < 4611686018427387904 →
      Calls P g #[.slice (some ⟨blk, off, none⟩) zs.length cap] w fun e w' => e = .returned (.tuple #[]) ∧ ∃ n os, w' = Sort.grow (Sort.putRow (Value.int .i64) (Sort.ahead w n) blk off (zs.mergeSort fun x y => decide (x ≤ y)).toArray) os)
    (H0 : ∀ (p : Option Addr) (cap : Nat) (w : World), Calls P g #[.slice p 0 cap] w fun e w' => e = .returned (.tuple #[]) ∧ w' = w)
    {v : Value} {zs : List Int} {c : List Blk} (hs : IsSl E 1 v (ints zs) c) (hlen : zs.length < 4611686018427387904) :
    FN P g [v] [c] (fun u h' => u = .tuple #[] ∧ ∃ c', IsSl E 1 v (ints (sortI zs)) c' ∧ h' = [c']) := by
  refine ⟨hent, fun E' R w st => ?_⟩
  generalize hl : ints zs = l at hs
  cases hs with
  | nil =>
    refine (H0 none 0 w).mono ?_
    rintro e w' ⟨rfl, rfl⟩
    have : zs = [] := by simpa [ints] using hl
    subst this
    exact ⟨_, _, rfl, ⟨rfl, [], by simpa [sortI, ints] using IsSl.nil, rfl⟩, st⟩
  | @row b n cp l sp hl1 hl2 hn =>
    subst hl
    have hn' : n = zs.length := by simpa [ints] using hl1.symm
    subst hn'
    have hb : w.heap[b]? = some (.cells ⟨ints zs ++ sp⟩ E (0, 0)) := st.cell (b, _) (by simp)
    have hH : Sort.Holds (Value.int .i64) w b 0 zs.toArray := by
      intro j hj
      have hj' : j < zs.length := by simpa using hj
      constructor
      · simp only [Nat.zero_add]
        refine cell_of hb ?_
        rw [List.getElem?_append_left (by simpa using hj')]
        simp [hj']
      · simp [World.frozen?, hb]
    refine (H b 0 cp zs w hH (Array.getElem?_eq_some_iff.1 hb).1 hlen).mono ?_
    rintro e w' ⟨rfl, k, os, rfl⟩
    have hlen2 : (sortI zs).length = zs.length := by simp [sortI]
    refine ⟨_, [[(b, .cells ⟨ints (sortI zs) ++ sp⟩ E (0, 0))]], rfl, ⟨rfl, _, ?_, rfl⟩, Sat.grow ?_ os⟩
    · have := IsSl.row (E := E) (k := 1) (b := b) (n := zs.length) (c := cp) (l := ints (sortI zs)) (sp := sp) (by simp [ints, hlen2]) (by simpa [ints, hlen2] using hl2) hn
      exact this
    · have st1 := st.drawn' k
      have e : Sort.putRow (Value.int .i64) (Sort.ahead w k) b 0 (sortI zs).toArray = { (Sort.ahead w k) with heap := (Sort.ahead w k).heap.setIfInBounds b (.cells ⟨ints (sortI zs) ++ sp⟩ E (0, 0)) } := by
        obtain ⟨hlt, hg⟩ := Array.getElem?_eq_some_iff.1 hb
        unfold Sort.putRow Sort.mapBlock
        have h2 : (Sort.ahead w k).heap = w.heap := rfl
        congr 1
        rw [h2]
        apply Array.ext
        · simp
        · intro j h1 h2
          rw [Array.getElem_modify, Array.getElem_setIfInBounds (by simpa using h2)]
          split
          · rename_i e
            subst e
            rw [hg]
            simp only [Sort.onCells]
            rw [putCells_ints zs (sortI zs) sp hlen2]
          · rfl
      rw [e]
      exact Sat.upd (h := [[(b, .cells ⟨ints zs ++ sp⟩ E (0, 0))]]) (b := b) (o := .cells ⟨ints zs ++ sp⟩ E (0, 0)) st1
end Go.Proofs.YtnoicafjkgbokaaDoor
