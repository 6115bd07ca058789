import Derived.Test.YtnoicafjkgbokaaDoorCover2
namespace Go.Proofs.YtnoicafjkgbokaaDoor
open Go

section
variable {P : Program} {r : Option Nat} {f : Fr} {h : Hp} {d : Option Tmp} {ty : TypeId} {p : String} {af : Array Edge} {gd : Option (Nat × Bool)} {T E T2 E2 : TypeId} {x y : Operand} {by_ : Nat} {zv v u : Value}
theorem rdS_all {L : List Value} {o : Nat} : ∀ {R : List Str}, (∀ i x, R[i]? = some x → (L.drop (o + i * 1)).take 1 = [sv x]) → R ≠ [] → (L.drop o).take (R.length * 1) = strs R ∧ o + R.length * 1 ≤ L.length := by
  intro R h hne
  have hlen : o + R.length ≤ L.length := by
    have hlt : R.length - 1 < R.length := by have := List.length_pos_iff.2 hne; omega
    have h1 := rdS_get (h (R.length - 1) R[R.length - 1] (by simp [hlt]))
    have := (List.getElem?_eq_some_iff.1 h1).1
    omega
  refine ⟨?_, by omega⟩
  apply List.ext_getElem?
  intro i
  by_cases hi : i < R.length
  · have h1 := rdS_get (h i R[i] (by simp [hi]))
    rw [List.getElem?_take_of_lt (by omega), List.getElem?_drop, h1]
    simp [strs, hi]
  · rw [List.getElem?_eq_none (by simp; omega), List.getElem?_eq_none (by simp [strs]; omega)]
/-- 'append(x, y...)': y read -/
theorem S1.appendRd {R : List Str} {l : List Value} {c0 c : List Blk} {hr : Hp} [kk : Und P T (.slice E)] [k2 : Und P T2 (.slice E2)] [ki : Inf P E 1 by_ zv]
    (hx : ev f x = some v) (hs : IsSl E 1 v l c) (hy : ev f y = some u) (hu : RdS u R c0) (hin : ∀ q ∈ c0, q ∈ h.flatten)
    (hp : h.flatten.Perm (c ++ hr.flatten)) (hz : zv.cells.size = 1) (hroom : l.length + R.length ≤ 1000000000) (hb : by_ ≤ 100000 := by decide) :
    S1 P r ⟨d, .call ⟨.builtin .append, #[x, y], #[T, T2]⟩, ty, p, af, gd⟩ f h (fun v' h' => ∃ c', IsSl E 1 v' (l ++ strs R) c' ∧ h' = c' :: hr) := by
  have hsl : (strs R).length = R.length := by simp [strs]
  have hrm : (l.length + (strs R).length) * by_ ≤ 140737488355328 ∧ l.length + (strs R).length < 4611686018427387904 := ⟨by
    rw [hsl]
    have := Nat.mul_le_mul hroom hb
    omega, by omega⟩
  obtain ⟨a, cap, rfl, hcap, hu⟩ := hu
  by_cases hR : R = []
  · subst hR
    simp only [strs, List.map_nil, List.append_nil]
    refine S1.ofRun (by intro c; simp) fun E' R' ρ w k' st => ?_
    have hexec : execOp ρ ⟨d, .call ⟨.builtin .append, #[x, y], #[T, T2]⟩, ty, p, af, gd⟩ = (do pure (.value (← Builtin.append_ #[T, T2] ty #[v, .slice a 0 cap]))) := by
      simp only [execOp, resolve, invoke, builtin]
      simp [k' _ _ hx, k' _ _ hy]
    have hf : (Builtin.firstCells 1 0 (.slice a 0 cap)).run P w = .ok ⟨[]⟩ w := by
      cases a <;> simp [Builtin.firstCells, loadCells, loadCellsFrom]
    refine ⟨v, _, w, ?_, ⟨c, hs, rfl⟩, by simpa using st.perm (hp.append_right R')⟩
    rw [hexec]
    obtain ⟨ab, n, cp, rfl, hle⟩ : ∃ ab n cp, v = .slice ab n cp ∧ n ≤ cp := by
      cases hs with
      | nil => exact ⟨_, _, _, rfl, Nat.le_refl _⟩
      | row _ _ h3 => exact ⟨_, _, _, rfl, h3⟩
    have := run_append_in (P := P) (ty := ty) (T := T) (T2 := T2) (E := E) (E2 := E2) (k := 1) (by_ := by_) (zv := zv) (w := w) (base := ab) (n := n) (c := cp) (m := 0) (ws := []) ⟨a, cap, rfl⟩ hf (by omega) (w' := w) (by cases ab <;> rfl)
    simp [this]
  · rcases hu with e | ⟨b, o, L, U, fz, rfl, hm, hel⟩
    · exact absurd e hR
    obtain ⟨h1, h2⟩ := rdS_all hel hR
    have h3 := S1.append (P := P) (r := r) (d := d) (ty := ty) (p := p) (af := af) (gd := gd) (T := T) (T2 := T2) (E2 := E2) (kk := kk) (k2 := k2) (ki := ki) (k := 0) hx hs hy (ws := strs R) (m := R.length) (.inr ⟨b, o, cap, L, U, fz, rfl, hin _ hm, h2, h1⟩) hp (strs_cv R) hz hrm
    exact ⟨fun E' R a w next Q hxx st kont => h3.run E' R a w next Q hxx st fun v h' w' hpost st' => by
      obtain ⟨c', h2, -, h3⟩ := hpost
      exact kont v h' w' ⟨c', h2, h3⟩ st'⟩
end
/-- blocks taken together -/
theorem FN.join {P : Program} {g : Nat} {args : List Value} {h h2 : Hp} {post : Value → Hp → Prop} (H : FN P g args h post) (he : h2.flatten = h.flatten) (post2 : Value → Hp → Prop) (hq : ∀ v h', post v h' → ∃ h'', post2 v h'' ∧ h''.flatten = h'.flatten) : FN P g args h2 post2 :=
  ⟨H.enters, fun E R w st => (H.run E R w (by rw [← he]; exact st)).mono fun _ _ ⟨v, h', e, hp, st'⟩ => by
    obtain ⟨h'', h1, h2⟩ := hq v h' hp
    exact ⟨v, h'', e, h1, by rw [h2]; exact st'⟩⟩

theorem lets1_spec {f s : Str} {b : Nat} (hf : f.length ≤ 1000000) (hs : s.length ≤ 1000000) : FN Tryd.prog 39 [sv f, .pointer (some ⟨b, 0, none⟩)] [[(b, cel [sv s] 9)]] (is (.bool (matchS f s)) [[(b, cel [sv s] 9)]]) := by
  refine FN.intro 7 [(0, sv f), (1, .pointer (some ⟨b, 0, none⟩))] Tryd.func39 rfl (enters Tryd.func39 (by kernel_rfl) rfl) Tryd.ntmps39 rfl rfl ?_
  refine WP.seq <| WP.region <| v0 (S0.assign rfl) rfl <| vE <| WP.seq <| WP.region <| v0 (S0.move rfl) rfl <| v0 (S0.load rfl rfl) rfl <| ?_  -- op t6 := call F40{rivulet/topic.Match}(t4, t5)
  refine vcd (S1.callF rfl (match_spec hf hs) take0) rfl ?_
  refine v0 (S0.assign rfl) rfl <| vE <| WP.ret <| ?_  -- ret
  refine r1 rfl rfl ⟨?_, rfl⟩
  rfl
theorem lets_spec {v : Value} {l : List Str} {row : List Blk} {s : Str} (hs : IsSl 9 1 v (strs l) row) (hl : l.length ≤ 1000000) (hx : ∀ x ∈ l, x.length ≤ 1000) (ht : s.length ≤ 1000) : FN Tryd.prog 19 [v, sv s] [row] (is (.bool (letsS l s)) [row]) := by
  refine FN.intro 8 [(0, v), (1, sv s)] Tryd.func19 rfl (enters Tryd.func19 (by kernel_rfl) rfl) Tryd.ntmps19 rfl rfl ?_
  refine WP.seq <| WP.region <| vn (S1.box rfl rfl) rfl fun b3 => v0 (S0.assign rfl) rfl <| vE <| WP.seq <| WP.region <| v0 (S0.move rfl) rfl <| v0 (S0.makeFunc rfl rfl) rfl <| ?_  -- op t7 := call F38{slices.ContainsFunc[[]string,string]}(t5, t6)
  refine vcd (S1.callF rfl (anyFuncS (p := fun f => matchS f s) hs hl (fun x hm => lets1_spec (by have := hx x hm; omega) (by omega))) (take1 (atS at0) (take1 at0 take0))) rfl ?_
  refine v0 (S0.assign rfl) rfl <| vE <| WP.ret <| ?_  -- ret
  refine Leaves.drop (take1 at0 take0) ?_
  refine r1 rfl rfl ⟨?_, rfl⟩
  rfl
theorem holds1_spec {f s : Str} {b : Nat} (hf : f.length ≤ 100000) (hs : s.length ≤ 100000) : FN Tryd.prog 41 [sv f, .pointer (some ⟨b, 0, none⟩)] [[(b, cel [sv s] 9)]] (is (.bool (coversS f s)) [[(b, cel [sv s] 9)]]) := by
  refine FN.intro 7 [(0, sv f), (1, .pointer (some ⟨b, 0, none⟩))] Tryd.func41 rfl (enters Tryd.func41 (by kernel_rfl) rfl) Tryd.ntmps41 rfl rfl ?_
  refine WP.seq <| WP.region <| v0 (S0.assign rfl) rfl <| vE <| WP.seq <| WP.region <| v0 (S0.move rfl) rfl <| v0 (S0.load rfl rfl) rfl <| ?_  -- op t6 := call F30{rivulet/topic.Covers}(t4, t5)
  refine vcd (S1.callF rfl (tcovers_spec hf hs) take0) rfl ?_
  refine v0 (S0.assign rfl) rfl <| vE <| WP.ret <| ?_  -- ret
  refine r1 rfl rfl ⟨?_, rfl⟩
  rfl
theorem holds_spec {v : Value} {l : List Str} {row : List Blk} {s : Str} (hs : IsSl 9 1 v (strs l) row) (hl : l.length ≤ 1000000) (hx : ∀ x ∈ l, x.length ≤ 1000) (ht : s.length ≤ 1000) : FN Tryd.prog 21 [v, sv s] [row] (is (.bool (holdsS l s)) [row]) := by
  refine FN.intro 8 [(0, v), (1, sv s)] Tryd.func21 rfl (enters Tryd.func21 (by kernel_rfl) rfl) Tryd.ntmps21 rfl rfl ?_
  refine WP.seq <| WP.region <| vn (S1.box rfl rfl) rfl fun b3 => v0 (S0.assign rfl) rfl <| vE <| WP.seq <| WP.region <| v0 (S0.move rfl) rfl <| v0 (S0.makeFunc rfl rfl) rfl <| ?_  -- op t7 := call F38{slices.ContainsFunc[[]string,string]}(t5, t6)
  refine vcd (S1.callF rfl (anyFuncS (p := fun f => coversS f s) hs hl (fun x hm => holds1_spec (by have := hx x hm; omega) (by omega))) (take1 (atS at0) (take1 at0 take0))) rfl ?_
  refine v0 (S0.assign rfl) rfl <| vE <| WP.ret <| ?_  -- ret
  refine Leaves.drop (take1 at0 take0) ?_
  refine r1 rfl rfl ⟨?_, rfl⟩
  rfl
end Go.Proofs.YtnoicafjkgbokaaDoor
