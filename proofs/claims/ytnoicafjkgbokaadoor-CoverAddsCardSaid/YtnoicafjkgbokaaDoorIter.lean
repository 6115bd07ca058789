/-
  Ranging over a map.
-/
import Derived.Test.YtnoicafjkgbokaaDoorRange
namespace Go.Proofs.YtnoicafjkgbokaaDoor
open Go

/-- A map's list is in order: keys apart, stamps apart and below the clock. -/
structure WfM {κ : Type} (L : ML κ) (ck : Nat) : Prop where
  keys : (L.map (·.1)).Nodup
  born : (L.map (·.2.2)).Nodup
  lt : ∀ x ∈ L, x.2.2 < ck

theorem WfM.nil {κ : Type} {ck : Nat} : WfM ([] : ML κ) ck := ⟨by simp, by simp, by simp⟩
theorem born_inj {κ : Type} {L : ML κ} {ck : Nat} (h : WfM L ck) {x y : κ × Value × Nat} (hx : x ∈ L) (hy : y ∈ L) (e : x.2.2 = y.2.2) : x = y := by
  have hb := h.born
  clear h
  induction L with
  | nil => cases hx
  | cons z L ih =>
    simp only [List.map_cons, List.nodup_cons] at hb
    rcases List.mem_cons.1 hx with h1 | h1 <;> rcases List.mem_cons.1 hy with h2 | h2
    · rw [h1, h2]
    · exact (hb.1 (List.mem_map.2 ⟨y, h2, by rw [← e, h1]⟩)).elim
    · exact (hb.1 (List.mem_map.2 ⟨x, h1, by rw [e, h2]⟩)).elim
    · exact ih h1 h2 hb.2
theorem WfM.nodup {κ : Type} {L : ML κ} {ck : Nat} (h : WfM L ck) : L.Nodup := by
  have : (L.map (·.2.2)).Nodup := h.born
  exact List.Pairwise.imp (fun hne e => hne (by rw [e])) (List.pairwise_map.1 this)
theorem perm_of_all {κ : Type} {L xs : ML κ} {ck : Nat} (h : WfM L ck) (hn : xs.Nodup) (hs : ∀ x ∈ xs, x ∈ L) (ha : ∀ y ∈ L, y.2.2 ∈ xs.map (·.2.2)) : xs.Perm L :=
  (List.perm_ext_iff_of_nodup hn h.nodup).2 fun y => ⟨hs y, fun hy => by
    obtain ⟨x, hx, e⟩ := List.mem_map.1 (ha y hy)
    rw [← born_inj h (hs x hx) hy e]; exact hx⟩
section plain
variable {κ : Type} [DecidableEq κ]
theorem get_some_mem {L : ML κ} {k : κ} {v : Value} (h : getM L k = some v) : ∃ b, (k, v, b) ∈ L := by
  induction L with
  | nil => cases h
  | cons x L ih =>
    obtain ⟨a, u, b⟩ := x
    simp only [getM] at h
    split at h
    · rename_i e; subst e; cases h; exact ⟨b, by simp⟩
    · obtain ⟨b', hb⟩ := ih h; exact ⟨b', by simp [hb]⟩
theorem get_none_iff {L : ML κ} {k : κ} : getM L k = none ↔ k ∉ L.map (·.1) := by
  induction L with
  | nil => simp [getM]
  | cons x L ih =>
    simp only [getM, List.map_cons, List.mem_cons, not_or]
    split
    · rename_i e; simp [e]
    · rename_i e; simp [ih, e]
theorem get_of_mem {L : ML κ} (hn : (L.map (·.1)).Nodup) {k : κ} {v : Value} {b : Nat} (h : (k, v, b) ∈ L) : getM L k = some v := by
  induction L with
  | nil => cases h
  | cons x L ih =>
    obtain ⟨a, u, b'⟩ := x
    simp only [List.map_cons, List.nodup_cons] at hn
    simp only [getM]
    rcases List.mem_cons.1 h with e | h
    · cases e; simp
    · have : k ≠ a := fun e => hn.1 (e ▸ List.mem_map.2 ⟨_, h, rfl⟩)
      rw [if_neg this]; exact ih hn.2 h
theorem set_keys (L : ML κ) (k : κ) (v : Value) : (setM L k v).map (·.1) = L.map (·.1) := by
  induction L with
  | nil => rfl
  | cons x L ih => simp only [setM]; split <;> simp_all
theorem set_born (L : ML κ) (k : κ) (v : Value) : (setM L k v).map (·.2.2) = L.map (·.2.2) := by
  induction L with
  | nil => rfl
  | cons x L ih => simp only [setM]; split <;> simp_all
theorem del_sub (L : ML κ) (k : κ) : (delM L k).Sublist L := by
  induction L with
  | nil => exact .slnil
  | cons x L ih =>
    simp only [delM]
    split
    · exact List.sublist_cons_self _ _
    · exact ih.cons_cons _
theorem WfM.put {L : ML κ} {ck : Nat} (h : WfM L ck) (k : κ) (v : Value) : WfM (putM L ck k v) (clkM L ck k) := by
  unfold putM clkM
  cases hg : getM L k with
  | some u =>
    simp only [Option.isSome_some, if_true]
    refine ⟨by rw [set_keys]; exact h.keys, by rw [set_born]; exact h.born, fun x hx => ?_⟩
    have : x.2.2 ∈ (setM L k v).map (·.2.2) := List.mem_map.2 ⟨x, hx, rfl⟩
    rw [set_born] at this
    obtain ⟨y, hy, e⟩ := List.mem_map.1 this
    rw [← e]; exact h.lt y hy
  | none =>
    simp only [Option.isSome_none, Bool.false_eq_true, if_false]
    have hk := get_none_iff.1 hg
    refine ⟨?_, ?_, fun x hx => ?_⟩
    · rw [List.map_append, List.nodup_append]
      exact ⟨h.keys, by simp, fun a ha b hb e => by simp at hb; subst hb; subst e; exact hk ha⟩
    · rw [List.map_append, List.nodup_append]
      exact ⟨h.born, by simp, fun a ha b hb e => by
        simp at hb; subst hb
        obtain ⟨y, hy, e'⟩ := List.mem_map.1 ha
        have := h.lt y hy; omega⟩
    · rcases List.mem_append.1 hx with hx | hx
      · have := h.lt x hx; omega
      · simp at hx; subst hx; simp
theorem WfM.del {L : ML κ} {ck : Nat} (h : WfM L ck) (k : κ) : WfM (delM L k) ck :=
  ⟨h.keys.sublist ((del_sub L k).map _), h.born.sublist ((del_sub L k).map _), fun x hx => h.lt x ((del_sub L k).subset hx)⟩
theorem get_set {L : ML κ} {k k' : κ} {v : Value} : getM (setM L k v) k' = if k' = k then (getM L k).map (fun _ => v) else getM L k' := by
  induction L with
  | nil => simp [setM, getM]
  | cons x L ih =>
    simp only [setM]
    by_cases e : k = x.1
    · subst e
      simp only [if_true, getM]
      by_cases e' : k' = x.1
      · simp [e']
      · simp [e']
    · simp only [if_neg e, getM, ih]
      by_cases e' : k' = k
      · subst e'; simp [e]
      · simp [e']
theorem get_put {L : ML κ} {ck : Nat} {k k' : κ} {v : Value} : getM (putM L ck k v) k' = if k' = k then some v else getM L k' := by
  unfold putM
  cases hg : getM L k with
  | some u => simp [get_set, hg]
  | none =>
    simp only [Option.isSome_none, Bool.false_eq_true, if_false]
    have : ∀ (L : ML κ), getM (L ++ [(k, v, ck)]) k' = match getM L k' with | some u => some u | none => if k' = k then some v else none := by
      intro L
      induction L with
      | nil => simp [getM]
      | cons x L ih => simp only [List.cons_append, getM]; split <;> simp [ih]
    rw [this]
    by_cases e : k' = k
    · subst e; simp [hg]
    · simp only [if_neg e]; cases getM L k' <;> rfl
theorem get_del {L : ML κ} (hn : (L.map (·.1)).Nodup) {k k' : κ} : getM (delM L k) k' = if k' = k then none else getM L k' := by
  induction L with
  | nil => simp [delM, getM]
  | cons x L ih =>
    simp only [List.map_cons, List.nodup_cons] at hn
    simp only [delM]
    by_cases e : k = x.1
    · subst e
      simp only [if_true, getM]
      by_cases e' : k' = x.1
      · subst e'; simp [get_none_iff.2 hn.1]
      · simp [e']
    · simp only [if_neg e, getM, ih hn.2]
      by_cases e' : k' = k
      · subst e'; simp [e]
      · simp [e']
end plain

section
variable {P : Program} {r : Option Nat} {f : Fr} {h h' : Hp} {d : Option Tmp} {ty : TypeId} {p : String} {af : Array Edge} {gd : Option (Nat × Bool)} {S : Hp} {SL : List Blk}
variable {κ : Type} {ek : κ → Value} {T K V : TypeId} {m it : Nat} {L : ML κ} {ck : Nat} {x : Operand}

theorem S1.range [hh : Has h m (mapO ek L ck)] [u : Und P T (.map K V)] (hx : ev f x = some (.map (some m))) :
    S1 P r ⟨d, .range T x, ty, p, af, gd⟩ f h (newv (fun b => .pointer (some ⟨b, 0, none⟩)) (.mapIter (some m) ck #[] ck) h) :=
  S1.ofRun (by intro c; simp) fun E R ρ w k st => by
    have hm := st.has (k := hh)
    have hg : (getObj m).run P w = .ok (mapO ek L ck) w := by simp [getObj, Sem.run, hm]
    refine ⟨_, _, _, ?_, ⟨w.heap.size, rfl, rfl⟩, st.new _⟩
    simp only [execOp, k _ _ hx, Instr.range, Sem.run_bind, run_underlying u.eq, Result.andThen_ok, hg, Sem.run_pure]
    simp
theorem S1.rangeN [u : Und P T (.map K V)] (hx : ev f x = some (.map none)) :
    S1 P r ⟨d, .range T x, ty, p, af, gd⟩ f h (newv (fun b => .pointer (some ⟨b, 0, none⟩)) (.mapIter none 0 #[] 0) h) :=
  S1.ofRun (by intro c; simp) fun E R ρ w k st => by
    refine ⟨_, _, _, ?_, ⟨w.heap.size, rfl, rfl⟩, st.new _⟩
    simp only [execOp, k _ _ hx, Instr.range, Sem.run_bind, run_underlying u.eq, Result.andThen_ok, Sem.run_pure]
    simp
theorem S0.nextN [hi : Has S it (.mapIter none 0 #[] 0)] (hx : ev f x = some (.pointer (some ⟨it, 0, none⟩))) : S0 P f S.flatten ⟨d, .next x false, ty, p, af, gd⟩ (.tuple ⟨[.bool false]⟩) := by
  refine ⟨by intro c; simp, by intro c; simp, fun ρ w k hS => ?_⟩
  have hg : (getObj it).run P w = .ok (.mapIter none 0 #[] 0) w := by simp [getObj, Sem.run, hS _ hi.mem]
  simp [execOp, k _ _ hx, Instr.next, hg]

theorem run_mapNext (n : Nat) (hn : 0 < n) (w : World) : ∃ i w', i < n ∧ (w' = w ∨ w' = { w with drawn := w.drawn + 1 }) ∧ (choose (.mapNext n)).run P w = .ok i w' := by
  by_cases h1 : n ≤ 1
  · exact ⟨0, w, hn, .inl rfl, by simp [choose, Sem.run, Question.forced, h1]⟩
  · exact ⟨w.tape w.drawn (.mapNext n) % n, { w with drawn := w.drawn + 1 }, Nat.mod_lt _ hn, .inr rfl, by simp [choose, Sem.run, Question.forced, h1, Question.cut]⟩

/-- One step over a map that takes in no new keys meanwhile: nothing is left, or one that has not come. -/
theorem S1.next {seen : List Nat} {h2 : Nat → Hp} (hw : WfM L ck) [hh : Has h m (mapO ek L ck)] [hi : Has h it (.mapIter (some m) ck ⟨seen⟩ ck)] [hu : ∀ b, Upd h it (.mapIter (some m) ck ⟨seen⟩ ck) (.mapIter (some m) ck ⟨seen ++ [b]⟩ ck) (h2 b)] (hx : ev f x = some (.pointer (some ⟨it, 0, none⟩))) :
    S1 P r ⟨d, .next x false, ty, p, af, gd⟩ f h (fun v h3 => (v = .tuple ⟨[.bool false]⟩ ∧ h3 = h ∧ ∀ y ∈ L, y.2.2 ∈ seen) ∨ ∃ y ∈ L, y.2.2 ∉ seen ∧ v = .tuple ⟨[.bool true, ek y.1, y.2.1]⟩ ∧ h3 = h2 y.2.2) :=
  S1.ofRun (by intro c; simp) fun E R ρ w k st => by
    have hm := st.has (k := hh)
    have hit := st.has (k := hi)
    have hg : (getObj m).run P w = .ok (mapO ek L ck) w := by simp [getObj, Sem.run, hm]
    have hgi : (getObj it).run P w = .ok (.mapIter (some m) ck ⟨seen⟩ ck) w := by simp [getObj, Sem.run, hit]
    have hguard : (!(⟨seen⟩ : Array Nat).isEmpty && !(⟨L.map (entM ek)⟩ : Array MapEntry).isEmpty && (⟨L.map (entM ek)⟩ : Array MapEntry).all (fun e => decide (e.born ≥ ck))) = false := by
      cases L with
      | nil => simp
      | cons y L =>
        have := hw.lt y (by simp)
        simp [entM]
        intro _ h1
        omega
    have hleft : (⟨L.map (entM ek)⟩ : Array MapEntry).filter (fun e => !(⟨seen⟩ : Array Nat).contains e.born) = ⟨(L.filter fun y => !seen.contains y.2.2).map (entM ek)⟩ := by
      apply Array.toList_inj.1
      simp only [Array.toList_filter, List.filter_map]
      apply congrArg
      apply List.filter_congr
      intro y _
      simp only [Function.comp_apply, entM, List.contains_toArray]
    have hold : ∀ (F : ML κ), (∀ y ∈ F, y.2.2 < ck) → (⟨F.map (entM ek)⟩ : Array MapEntry).filter (fun e => decide (e.born < ck)) = ⟨F.map (entM ek)⟩ ∧ (⟨F.map (entM ek)⟩ : Array MapEntry).filter (fun e => decide (e.born ≥ ck)) = #[] := fun F hF => by
      constructor
      · apply Array.toList_inj.1
        simp only [Array.toList_filter, List.filter_map]
        rw [List.filter_eq_self.2]
        intro y hy
        exact decide_eq_true (hF y hy)
      · apply Array.toList_inj.1
        simp only [Array.toList_filter, List.filter_map]
        rw [List.filter_eq_nil_iff.2]
        · rfl
        · intro y hy h1
          have h2 : y.2.2 ≥ ck := of_decide_eq_true h1
          have := hF y hy
          omega
    generalize hFe : (L.filter fun y => !seen.contains y.2.2) = F at hleft
    have hFm : ∀ y ∈ F, y ∈ L ∧ y.2.2 ∉ seen := fun y hy => by rw [← hFe] at hy; simpa using hy
    obtain ⟨ho, hn⟩ := hold F (fun y hy => hw.lt y (hFm y hy).1)
    cases hF0 : F with
    | nil =>
      refine ⟨_, h, w, ?_, .inl ⟨rfl, rfl, fun y hy => ?_⟩, st⟩
      · subst hF0
        simp only [execOp, k _ _ hx, Instr.next, Sem.run_bind, hgi, Result.andThen_ok, hg]
        rw [hguard]
        simp only [Bool.false_eq_true, if_false, hleft, ho, hn]
        have hforced : (choose (.mapNext 1)).run P w = .ok 0 w := by simp [choose, Sem.run, Question.forced]
        have hc : ((if (⟨[].map (entM ek)⟩ : Array MapEntry).isEmpty = true then #[none] else #[]) ++ Array.map some ((⟨[].map (entM ek)⟩ : Array MapEntry) ++ #[])) = #[none] := by simp
        rw [hc]
        simp only [Sem.run_bind, show (#[none] : Array (Option MapEntry)).size = 1 from rfl, hforced, Result.andThen_ok]
        simp
      · have : y ∉ (L.filter fun y => !seen.contains y.2.2) := by rw [hFe, hF0]; simp
        simpa [hy] using this
    | cons y0 F' =>
      have hne : (⟨F.map (entM ek)⟩ : Array MapEntry).isEmpty = false := by rw [hF0]; simp
      have hlen : 0 < F.length := by rw [hF0]; simp
      obtain ⟨i, w', hi1, hw', hrun⟩ := run_mapNext (P := P) F.length hlen w
      have st' : Sat E (h.flatten ++ R) w' := by
        rcases hw' with rfl | rfl
        · exact st
        · exact st.draw
      have hy := hFm F[i] (List.getElem_mem hi1)
      have hit' := st'.has (k := hi)
      refine ⟨_, _, _, ?_, .inr ⟨F[i], hy.1, hy.2, rfl, rfl⟩, st'.upd (k := hu (F[i]).2.2)⟩
      simp only [execOp, k _ _ hx, Instr.next, Sem.run_bind, hgi, Result.andThen_ok, hg]
      rw [hguard]
      simp only [Bool.false_eq_true, if_false, hleft, ho, hn, hne]
      have hsz : (#[] ++ Array.map some ((⟨F.map (entM ek)⟩ : Array MapEntry) ++ #[])).size = F.length := by simp
      rw [hsz]
      simp only [Sem.run_bind, hrun, Result.andThen_ok]
      have hel : (#[] ++ Array.map some ((⟨F.map (entM ek)⟩ : Array MapEntry) ++ #[]))[i]? = some (some (entM ek F[i])) := by
        have : ((F.map (entM ek)).map some)[i]? = some (some (entM ek F[i])) := by simp [hi1]
        simpa using this
      rw [hel]
      simp only [Sem.run_bind, run_setObj hit' (by intro a b c; simp), Result.andThen_ok, Sem.run_pure]
      simp [entM]

theorem S0.entry {pre : List Nat} {y : κ × Value × Nat} (hw : WfM L ck) (hy : y ∈ L) [hh : Has S m (mapO ek L ck)] [hi : Has S it (.mapIter (some m) ck ⟨pre ++ [y.2.2]⟩ ck)] (hx : ev f x = some (.pointer (some ⟨it, 0, none⟩))) :
    S0 P f S.flatten ⟨d, .entry x, ty, p, af, gd⟩ (.tuple ⟨[ek y.1, y.2.1]⟩) := by
  refine ⟨by intro c; simp, by intro c; simp, fun ρ w k hS => ?_⟩
  have hm := hS _ hh.mem
  have hit := hS _ hi.mem
  have hg : (getObj m).run P w = .ok (mapO ek L ck) w := by simp [getObj, Sem.run, hm]
  have hgi : (getObj it).run P w = .ok (.mapIter (some m) ck ⟨pre ++ [y.2.2]⟩ ck) w := by simp [getObj, Sem.run, hit]
  have hfind : (⟨L.map (entM ek)⟩ : Array MapEntry).find? (fun e => e.born == y.2.2) = some (entM ek y) := by
    rw [← Array.find?_toList]
    simp only
    have : ∀ (L : ML κ), (L.map (·.2.2)).Nodup → y ∈ L → (L.map (entM ek)).find? (fun e => e.born == y.2.2) = some (entM ek y) := by
      intro L hn hy
      induction L with
      | nil => cases hy
      | cons z L ih =>
        simp only [List.map_cons, List.nodup_cons] at hn
        simp only [List.map_cons, List.find?_cons]
        rcases List.mem_cons.1 hy with rfl | hy
        · simp [entM]
        · have : (entM ek z).born ≠ y.2.2 := fun e => hn.1 (by
            have e' : z.2.2 = y.2.2 := e
            rw [e']; exact List.mem_map.2 ⟨y, hy, rfl⟩)
          have hb : ((entM ek z).born == y.2.2) = false := by simpa using this
          rw [hb]; exact ih hn.2 hy
    exact this L hw.born hy
  simp only [execOp, k _ _ hx, Instr.entry, Sem.run_bind, hgi, Result.andThen_ok]
  have hb : (⟨pre ++ [y.2.2]⟩ : Array Nat).back? = some y.2.2 := by simp [Array.back?]
  rw [hb]
  simp only [Sem.run_bind, hg, Result.andThen_ok, bne_self_eq_false, Bool.false_eq_true, if_false, hfind]
  simp [entM]
end
end Go.Proofs.YtnoicafjkgbokaaDoor
