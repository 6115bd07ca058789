/-
  Arguments opened: texts; slices of flat structs (of integers, texts, bools, and structs of such).
-/
import Derived.Test.YtnoicafjkgbokaaDoorLaw
import Derived.Test.YtnoicafjkgbokaaDoorEq
import Derived.ChangeMaps5
namespace Go.Proofs.YtnoicafjkgbokaaDoor
open Go Go.ChangeShapes Go.WideShapes Go.ChangeAt Go.RowKit

inductive CK
  | i (k : IntKind)
  | s
  | b
def CK.fits : CK → Value → Prop
  | .i k, v => ∃ n, v = .int k n ∧ (Lit.int k n).wf = true
  | .s, v => ∃ l : Str, v = sv l ∧ l.length ≤ maxLen
  | .b, v => ∃ x, v = .bool x

/-- what is laid of fields, one behind the other -/
def catF (P : Program) (rec_ : TypeId → Option (List CK)) : List Field → Nat → Option (List CK)
  | [], _ => some []
  | f :: fs, off =>
    if f.offset = off then
      match rec_ f.type with
      | some ks => if P.cellsOf f.type = ks.length then (match catF P rec_ fs (off + ks.length) with | some r => some (ks ++ r) | none => none) else none
      | none => none
    else none
def flatTy (P : Program) : Nat → TypeId → Option (List CK)
  | 0, _ => none
  | n + 1, t =>
    match P.underlying t with
    | some (.int k) => some [.i k]
    | some .string => some [.s]
    | some .bool => some [.b]
    | some (.struct fs) => catF P (flatTy P n) fs.toList 0
    | _ => none
def FitsAt (ks : List CK) (cs : List Value) (off : Nat) : Prop := ∀ j c, ks[j]? = some c → ∃ v, cs[off + j]? = some v ∧ c.fits v
theorem fitsAt_take {ks : List CK} {cs : List Value} {off n : Nat} (h : FitsAt ks ((cs.drop off).take n) 0) (hn : n = ks.length) : FitsAt ks cs off := fun j c hj => by
  obtain ⟨v, h1, h2⟩ := h j c hj
  have hlt : j < ks.length := (List.getElem?_eq_some_iff.1 hj).1
  rw [Nat.zero_add, List.getElem?_take_of_lt (by omega), List.getElem?_drop] at h1
  exact ⟨v, h1, h2⟩
section
variable {H : Type} {enc : TypeId × Value → H} {P : Program} {W : World} {sp : Nat → Bool}
theorem trod_flat : ∀ (m : Nat) {t : TypeId} {ks : List CK} {base fuel : Nat} {held : Bool} {cs : List Value} {x : DataW H × List MemPlace}, flatTy P m t = some ks → DataW.trod enc P W base sp held fuel t cs = some x → FitsAt ks cs 0
  | 0, _, _, _, _, _, _, _, h, _ => by simp [flatTy] at h
  | m + 1, t, ks, base, fuel, held, cs, x, h, hx => by
    unfold flatTy at h
    split at h
    · rename_i k hu
      cases h
      obtain ⟨n, rfl, -, hw⟩ := DataW.trod_int hu hx
      intro j c hj
      cases j with
      | zero => simp at hj; subst hj; exact ⟨_, rfl, n, rfl, hw⟩
      | succ j => simp at hj
    · rename_i hu
      cases h
      obtain ⟨s, rfl, -, hw⟩ := DataW.trod_string hu hx
      intro j c hj
      cases j with
      | zero => simp at hj; subst hj; exact ⟨_, rfl, s.data.toList, rfl, hw⟩
      | succ j => simp at hj
    · rename_i hu
      cases h
      obtain ⟨b, rfl, -⟩ := DataW.trod_bool hu hx
      intro j c hj
      cases j with
      | zero => simp at hj; subst hj; exact ⟨_, rfl, b, rfl⟩
      | succ j => simp at hj
    · rename_i fs hu
      obtain ⟨xs, n, -, -, -, hxl, hf⟩ := DataW.trod_struct hu hx
      have key : ∀ (l : List Field) (i off : Nat) (r : List CK), fs.toList.drop i = l → catF P (flatTy P m) l off = some r → FitsAt r cs off := by
        intro l
        induction l with
        | nil => intro i off r _ hr; simp [catF] at hr; subst hr; intro j c hj; simp at hj
        | cons f l ih =>
          intro i off r hd hr
          have hfi : fs[i]? = some f := by
            have := congrArg (fun l => l[0]?) hd
            simpa using this
          have hlt : i < fs.size := (Array.getElem?_eq_some_iff.1 hfi).1
          have hd2 : fs.toList.drop (i + 1) = l := by
            have := congrArg List.tail hd
            simpa using this
          unfold catF at hr
          split at hr
          · rename_i ho
            split at hr
            · rename_i ks1 hk1
              split at hr
              · rename_i hc
                split at hr
                · rename_i r2 hr2
                  cases hr
                  have h3 := hf i f hfi
                  rw [List.getElem?_eq_getElem (by rw [hxl]; exact hlt), ho, hc] at h3
                  have h4 := fitsAt_take (trod_flat m hk1 h3) rfl
                  have h5 := ih (i + 1) (off + ks1.length) r2 hd2 hr2
                  intro j c hj
                  by_cases hj1 : j < ks1.length
                  · rw [List.getElem?_append_left hj1] at hj; exact h4 j c hj
                  · rw [List.getElem?_append_right (by omega)] at hj
                    obtain ⟨v, e1, e2⟩ := h5 _ c hj
                    exact ⟨v, by rw [← e1]; congr 1; omega, e2⟩
                · cases hr
              · cases hr
            · cases hr
          · cases hr
      exact key fs.toList 0 0 ks (by simp) h
    · cases h

/-- a slice of such -/
def ArgF (W : World) (ks : List CK) (v : Value) : Prop := ∃ a len cap, v = .slice a len cap ∧ len ≤ cap ∧ (len = 0 ∨ ∃ b o L U fz, a = some ⟨b, o, none⟩ ∧ W.heap[b]? = some (.cells ⟨L⟩ U fz) ∧ ∀ i, i < len → FitsAt ks L (o + i * ks.length))
theorem open_argF {r : Reach} {b0 : Nat} {t e : TypeId} {ks : List CK} {v : Value} {d : DataW H} {ps : List MemPlace} (m : Nat) (ht : P.underlying t = some (.slice e)) (he : flatTy P m e = some ks) (hk : P.cellsOf e = ks.length) (hpos : 0 < ks.length) (hval : Value.okWide P W r b0 t v)
    (h : DataW.Trod enc P W 0 sp true t v d ps) : ArgF W ks v := by
  obtain ⟨a, len, cap, rfl⟩ := okWide_slice ht hval
  obtain ⟨fuel, h⟩ := h
  rcases Deep.open_slice ht h with ⟨h0, _⟩ | ⟨a', len', cap', q, n, D, Pl, hc, _, hlc, _, hm, _, hx⟩
  · simp [Value.cells] at h0
    obtain ⟨rfl, rfl, rfl⟩ := h0
    exact ⟨none, 0, 0, rfl, Nat.le_refl _, .inl rfl⟩
  · simp [Value.cells] at hc
    obtain ⟨rfl, rfl, rfl⟩ := hc
    refine ⟨_, _, _, rfl, hlc, ?_⟩
    rcases Nat.eq_zero_or_pos len with h0 | h0
    · exact .inl h0
    right
    have hlm : len ≤ q := by rw [hm]; split <;> omega
    have key : ∀ i j c, i < len → ks[j]? = some c → ∃ x, W.cell? (a'.add (i * ks.length + j)) = some x ∧ c.fits x := fun i j c hi hj => by
      obtain ⟨cs', h1, h2⟩ := hx i (by omega)
      rw [hk] at h1
      obtain ⟨_, hlen, hcell⟩ := World.cells?_some h1
      have hlt : j < ks.length := (List.getElem?_eq_some_iff.1 hj).1
      obtain ⟨x, hx1, hx2⟩ := trod_flat m he h2 j c hj
      rw [Nat.zero_add] at hx1
      have h4 := hcell j (by omega)
      rw [hx1] at h4
      refine ⟨x, ?_, hx2⟩
      rw [← h4]
      congr 1
      unfold Addr.add
      by_cases e1 : i * ks.length = 0 <;> by_cases e2 : j = 0 <;> simp [e1, e2] <;> omega
    obtain ⟨c0, hc0⟩ : ∃ c, ks[0]? = some c := ⟨_, List.getElem?_eq_getElem hpos⟩
    obtain ⟨n0, hn0, _⟩ := key 0 0 c0 h0 hc0
    have hsp : a'.spot = none ∧ ∃ L U fz, W.heap[a'.block]? = some (.cells L U fz) := by
      simp only [Nat.zero_mul, Nat.add_zero, Addr.add, if_true] at hn0
      unfold World.cell? at hn0
      split at hn0
      · rename_i c U fz hh
        split at hn0
        · cases hn0
        · rename_i hs
          exact ⟨by simpa using hs, _, _, _, hh⟩
      · cases hn0
    obtain ⟨hs, ⟨L⟩, U, fz, hh⟩ := hsp
    obtain ⟨b, o, spo⟩ := a'
    simp only at hs hh
    subst hs
    refine ⟨b, o, L, U, fz, rfl, hh, fun i hi j c hj => ?_⟩
    obtain ⟨x, hn, hfit⟩ := key i j c hi hj
    have ea : (⟨b, o, none⟩ : Addr).add (i * ks.length + j) = ⟨b, o + (i * ks.length + j), none⟩ := by unfold Addr.add; split <;> simp_all
    rw [ea] at hn
    refine ⟨x, ?_, hfit⟩
    unfold World.cell? at hn
    simp only [hh] at hn
    simpa [Nat.add_assoc] using hn
theorem open_str {r : Reach} {b0 : Nat} {t : TypeId} {v : Value} {d : DataW H} {ps : List MemPlace} (ht : P.underlying t = some .string) (hval : Value.okWide P W r b0 t v)
    (h : DataW.Trod enc P W 0 sp true t v d ps) : ∃ l : Str, v = sv l ∧ l.length ≤ maxLen := by
  obtain ⟨s, rfl, -, -, hs⟩ := ChangeMaps.open_string ht hval h
  exact ⟨s.data.toList, rfl, hs⟩
end

theorem take_cells {L : List Value} : ∀ (xs : List Value) (m : Nat), (∀ j x, xs[j]? = some x → L[m + j]? = some x) → (L.drop m).take xs.length = xs
  | [], m, _ => by simp
  | x :: xs, m, h => by
    have h0 := h 0 x rfl
    rw [Nat.add_zero] at h0
    obtain ⟨hlt, e⟩ := List.getElem?_eq_some_iff.1 h0
    rw [List.drop_eq_getElem_cons hlt, e, List.length_cons, List.take_succ_cons]
    rw [take_cells xs (m + 1) fun j y hj => by rw [Nat.add_assoc, Nat.add_comm 1 j]; exact h (j + 1) y (by simpa using hj)]
/-- elements chosen -/
theorem choose_elems {α : Type} {k : Nat} {en : α → List Value} {Q : α → Prop} {L : List Value} {o len : Nat} (h : ∀ i, i < len → ∃ x, Q x ∧ (L.drop (o + i * k)).take k = en x) :
    ∃ l : List α, l.length = len ∧ (∀ x ∈ l, Q x) ∧ ∀ i x, l[i]? = some x → (L.drop (o + i * k)).take k = en x := by
  induction len with
  | zero => exact ⟨[], rfl, by simp, by simp⟩
  | succ n ih =>
    obtain ⟨l, h1, h2, h3⟩ := ih fun i hi => h i (by omega)
    obtain ⟨x, hq, hx⟩ := h n (by omega)
    refine ⟨l ++ [x], by simp [h1], fun y hy => ?_, fun i y hy => ?_⟩
    · rcases List.mem_append.1 hy with hy | hy
      · exact h2 y hy
      · simp at hy; rw [hy]; exact hq
    · by_cases hi : i < l.length
      · rw [List.getElem?_append_left hi] at hy; exact h3 i y hy
      · rw [List.getElem?_append_right (by omega)] at hy
        have hi2 : i - l.length = 0 := by
          rcases Nat.eq_zero_or_pos (i - l.length) with h0 | h0
          · exact h0
          · rw [List.getElem?_eq_none (by simp; omega)] at hy; cases hy
        rw [hi2] at hy
        simp at hy
        subst hy
        rw [show i = n by omega]; exact hx
end Go.Proofs.YtnoicafjkgbokaaDoor
