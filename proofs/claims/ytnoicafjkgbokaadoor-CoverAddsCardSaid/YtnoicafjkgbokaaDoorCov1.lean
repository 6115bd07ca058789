/-
  The least of filters, plainly.
-/
import Derived.Test.YtnoicafjkgbokaaDoorCov0
namespace Go.Proofs.YtnoicafjkgbokaaDoor
open Go

/-- ordered, each once -/
abbrev SortedS (l : List Str) : Prop := l.Pairwise fun a b => lessS a b = true
theorem sortedS_ext : ∀ {l m : List Str}, SortedS l → SortedS m → (∀ x, x ∈ l ↔ x ∈ m) → l = m
  | [], [], _, _, _ => rfl
  | [], y :: m, _, _, h => by have := (h y).2 (by simp); simp at this
  | x :: l, [], _, _, h => by have := (h x).1 (by simp); simp at this
  | x :: l, y :: m, h1, h2, h => by
    rw [SortedS, List.pairwise_cons] at h1 h2
    have e : x = y := by
      rcases List.mem_cons.1 ((h x).1 (by simp)) with e | hx
      · exact e
      · rcases List.mem_cons.1 ((h y).2 (by simp)) with e | hy
        · exact e.symm
        · have := lessS_asym (h1.1 y hy)
          rw [h2.1 x hx] at this; cases this
    subst e
    congr 1
    refine sortedS_ext h1.2 h2.2 fun z => ⟨fun hz => ?_, fun hz => ?_⟩
    · rcases List.mem_cons.1 ((h z).1 (by simp [hz])) with e | h'
      · subst e; have := h1.1 z hz; rw [lessS_irr] at this; cases this
      · exact h'
    · rcases List.mem_cons.1 ((h z).2 (by simp [hz])) with e | h'
      · subst e; have := h2.1 z hz; rw [lessS_irr] at this; cases this
      · exact h'
theorem SortedS.nodup {l : List Str} (h : SortedS l) : l.Nodup := h.imp fun {a b} hab => fun e => by subst e; rw [lessS_irr] at hab; cases hab

/-- into its place -/
def insS : List Str → Str → List Str
  | [], f => [f]
  | x :: l, f => if lessS x f = true then x :: insS l f else if x = f then x :: l else f :: x :: l
theorem mem_insS {l : List Str} {f y : Str} : y ∈ insS l f ↔ y ∈ l ∨ y = f := by
  induction l with
  | nil => simp [insS]
  | cons x l ih =>
    simp only [insS]
    split
    · simp only [List.mem_cons, ih]; rw [or_assoc]
    · split
      · rename_i e; subst e
        simp only [List.mem_cons]
        constructor
        · exact .inl
        · rintro (h | h)
          · exact h
          · exact .inl h
      · simp only [List.mem_cons]
        constructor
        · rintro (h | h | h)
          · exact .inr h
          · exact .inl (.inl h)
          · exact .inl (.inr h)
        · rintro ((h | h) | h)
          · exact .inr (.inl h)
          · exact .inr (.inr h)
          · exact .inl h
theorem sorted_insS {l : List Str} {f : Str} (h : SortedS l) : SortedS (insS l f) := by
  induction l with
  | nil => simp [insS]
  | cons x l ih =>
    rw [SortedS, List.pairwise_cons] at h
    simp only [insS]
    split
    · rename_i hx
      rw [SortedS, List.pairwise_cons]
      refine ⟨fun y hy => ?_, ih h.2⟩
      rcases mem_insS.1 hy with hy | rfl
      · exact h.1 y hy
      · exact hx
    · rename_i hx
      split
      · rw [SortedS, List.pairwise_cons]; exact h
      · rename_i hne
        have hfx : lessS f x = true := by
          cases h2 : lessS f x with
          | true => rfl
          | false => exact absurd (lessS_tri (by simpa using hx) h2) hne
        rw [SortedS, List.pairwise_cons, List.pairwise_cons]
        refine ⟨fun y hy => ?_, h⟩
        rcases List.mem_cons.1 hy with rfl | hy
        · exact hfx
        · exact lessS_trans hfx (h.1 y hy)
/-- the filters of some, in order, each once -/
def cleanS (l : List Str) : List Str := (l.filter filtS).foldl insS []
theorem foldl_ins : ∀ (l a : List Str), SortedS a → SortedS (l.foldl insS a) ∧ ∀ y, y ∈ l.foldl insS a ↔ y ∈ a ∨ y ∈ l
  | [], a, h => ⟨h, fun y => by simp⟩
  | x :: l, a, h => by
    obtain ⟨h1, h2⟩ := foldl_ins l (insS a x) (sorted_insS h)
    refine ⟨h1, fun y => ?_⟩
    rw [List.foldl_cons, h2 y, mem_insS, List.mem_cons, or_assoc]
theorem clean_sorted (l : List Str) : SortedS (cleanS l) := (foldl_ins _ [] List.Pairwise.nil).1
theorem mem_clean {l : List Str} {y : Str} : y ∈ cleanS l ↔ y ∈ l ∧ filtS y = true := by
  rw [cleanS, (foldl_ins _ [] List.Pairwise.nil).2 y]
  simp
theorem clean_ext {l m : List Str} (h : ∀ y, filtS y = true → (y ∈ l ↔ y ∈ m)) : cleanS l = cleanS m :=
  sortedS_ext (clean_sorted _) (clean_sorted _) fun y => by
    rw [mem_clean, mem_clean]
    constructor
    · rintro ⟨h1, h2⟩; exact ⟨(h y h2).1 h1, h2⟩
    · rintro ⟨h1, h2⟩; exact ⟨(h y h2).2 h1, h2⟩
theorem insS_len (l : List Str) (f : Str) : (insS l f).length ≤ l.length + 1 := by
  induction l with
  | nil => simp [insS]
  | cons x l ih =>
    simp only [insS]
    split
    · simp; omega
    · split <;> simp
theorem foldl_len : ∀ (l a : List Str), (l.foldl insS a).length ≤ a.length + l.length
  | [], a => by simp
  | x :: l, a => by
    have h1 := foldl_len l (insS a x)
    have h2 := insS_len a x
    simp only [List.foldl_cons, List.length_cons]; omega
theorem clean_len (l : List Str) : (cleanS l).length ≤ l.length := by
  have h1 := foldl_len (l.filter filtS) []
  have h2 := List.length_filter_le filtS l
  simp only [List.length_nil] at h1
  unfold cleanS; omega
theorem clean_id {l : List Str} (hs : SortedS l) (hf : ∀ y ∈ l, filtS y = true) : cleanS l = l :=
  sortedS_ext (clean_sorted _) hs fun y => by rw [mem_clean]; exact ⟨fun h => h.1, fun h => ⟨h, hf y h⟩⟩
theorem clean_snoc (l : List Str) (x : Str) : cleanS (l ++ [x]) = if filtS x = true then insS (cleanS l) x else cleanS l := by
  unfold cleanS
  rw [List.filter_append, List.foldl_append]
  by_cases h : filtS x = true <;> simp [h]

/-- one filter goes because of another one -/
def domS (g f : Str) : Bool := decide (g ≠ f) && coversS g f && (!coversS f g || lessS g f)
theorem dom_iff {g f : Str} : domS g f = true ↔ g ≠ f ∧ coversS g f = true ∧ (coversS f g = false ∨ lessS g f = true) := by
  simp only [domS, Bool.and_eq_true, decide_eq_true_eq, Bool.or_eq_true, Bool.not_eq_true', and_assoc]
theorem dom_irr (f : Str) : domS f f = false := by simp [domS]
theorem dom_trans {h g f : Str} (h1 : domS h g = true) (h2 : domS g f = true) : domS h f = true := by
  rw [dom_iff] at h1 h2 ⊢
  obtain ⟨n1, c1, o1⟩ := h1
  obtain ⟨n2, c2, o2⟩ := h2
  refine ⟨?_, coversS_trans c1 c2, ?_⟩
  · rintro rfl
    rcases o1 with o1 | o1
    · rw [c2] at o1; cases o1
    · rcases o2 with o2 | o2
      · rw [c1] at o2; cases o2
      · have := lessS_asym o1; rw [o2] at this; cases this
  · cases hc : coversS f h with
    | false => exact .inl rfl
    | true =>
      right
      have c3 := coversS_trans c2 hc
      have c4 := coversS_trans hc c1
      rcases o1 with o1 | o1
      · rw [c3] at o1; cases o1
      · rcases o2 with o2 | o2
        · rw [c4] at o2; cases o2
        · exact lessS_trans o1 o2
/-- each that goes goes because of one that stays -/
theorem dom_max : ∀ (l : List Str) (f : Str), f ∈ l → ∃ m ∈ l, (m = f ∨ domS m f = true) ∧ ∀ g ∈ l, domS g m = false := by
  suffices H : ∀ (k : Nat) (l : List Str) (f : Str), f ∈ l → (l.filter fun g => domS g f).length = k → ∃ m ∈ l, (m = f ∨ domS m f = true) ∧ ∀ g ∈ l, domS g m = false from fun l f hf => H _ l f hf rfl
  intro k
  induction k using Nat.strongRecOn with
  | _ k ih =>
    intro l f hf hk
    by_cases hd : ∃ g ∈ l, domS g f = true
    · obtain ⟨g, hg, hgf⟩ := hd
      have hlt : (l.filter fun x => domS x g).length < k := by
        rw [← hk]
        have hsub : (l.filter fun x => domS x g) = (l.filter fun x => domS x f).filter fun x => domS x g := by
          rw [List.filter_filter]
          refine List.filter_congr fun x _ => ?_
          cases h : domS x g with
          | false => rfl
          | true => simp [dom_trans h hgf]
        rw [hsub]
        refine Nat.lt_of_le_of_ne (List.length_filter_le _ _) fun e => ?_
        have := List.length_filter_eq_length_iff.1 e g (List.mem_filter.2 ⟨hg, hgf⟩)
        rw [dom_irr] at this; cases this
      obtain ⟨m, hm, h1, h2⟩ := ih _ hlt l g hg rfl
      refine ⟨m, hm, .inr ?_, h2⟩
      rcases h1 with rfl | h1
      · exact hgf
      · exact dom_trans h1 hgf
    · exact ⟨f, hf, .inl rfl, fun g hg => by
        cases h : domS g f with
        | false => rfl
        | true => exact absurd ⟨g, hg, h⟩ hd⟩
/-- those that stay -/
def topS (c : List Str) : List Str := c.filter fun f => !c.any fun g => domS g f
def leastS (l : List Str) : List Str := topS (cleanS l)
theorem mem_top {c : List Str} {f : Str} : f ∈ topS c ↔ f ∈ c ∧ ∀ g ∈ c, domS g f = false := by
  simp [topS, List.mem_filter]
theorem mem_least {l : List Str} {f : Str} : f ∈ leastS l ↔ (f ∈ l ∧ filtS f = true) ∧ ∀ g ∈ l, filtS g = true → domS g f = false := by
  rw [leastS, mem_top, mem_clean]
  refine and_congr Iff.rfl ⟨fun h g hg hf => h g (mem_clean.2 ⟨hg, hf⟩), fun h g hg => h g (mem_clean.1 hg).1 (mem_clean.1 hg).2⟩
theorem least_sorted (l : List Str) : SortedS (leastS l) := List.Pairwise.sublist List.filter_sublist (clean_sorted l)
theorem least_max {l : List Str} {f : Str} (h : f ∈ l) (hf : filtS f = true) : ∃ m ∈ leastS l, m = f ∨ domS m f = true := by
  obtain ⟨m, hm, h1, h2⟩ := dom_max (cleanS l) f (mem_clean.2 ⟨h, hf⟩)
  exact ⟨m, mem_top.2 ⟨hm, h2⟩, h1⟩
theorem least_cov {l : List Str} {f : Str} (h : f ∈ l) (hf : filtS f = true) : ∃ m ∈ leastS l, coversS m f = true := by
  obtain ⟨m, hm, h1⟩ := least_max h hf
  refine ⟨m, hm, ?_⟩
  rcases h1 with rfl | h1
  · exact coversS_refl hf
  · exact (dom_iff.1 h1).2.1
theorem least_ext {l m : List Str} (h : ∀ y, filtS y = true → (y ∈ l ↔ y ∈ m)) : leastS l = leastS m := by rw [leastS, leastS, clean_ext h]
theorem least_len (l : List Str) : (leastS l).length ≤ l.length := Nat.le_trans (List.length_filter_le _ _) (clean_len l)
/-- none covers another one -/
theorem least_none {l : List Str} {f g : Str} (hf : f ∈ leastS l) (hg : g ∈ leastS l) (hne : g ≠ f) : coversS g f = false := by
  obtain ⟨⟨f1, f2⟩, f3⟩ := mem_least.1 hf
  obtain ⟨⟨g1, g2⟩, g3⟩ := mem_least.1 hg
  cases hc : coversS g f with
  | false => rfl
  | true =>
    have h1 : ¬ (g ≠ f ∧ coversS g f = true ∧ (coversS f g = false ∨ lessS g f = true)) := fun h => by
      have := dom_iff.2 h; rw [f3 g g1 g2] at this; cases this
    have h2 : ¬ (f ≠ g ∧ coversS f g = true ∧ (coversS g f = false ∨ lessS f g = true)) := fun h => by
      have := dom_iff.2 h; rw [g3 f f1 f2] at this; cases this
    have hc2 : coversS f g = true := by
      cases h : coversS f g with
      | true => rfl
      | false => exact absurd ⟨hne, hc, .inl h⟩ h1
    have l1 : lessS g f = false := by
      cases h : lessS g f with
      | false => rfl
      | true => exact absurd ⟨hne, hc, .inr h⟩ h1
    have l2 : lessS f g = false := by
      cases h : lessS f g with
      | false => rfl
      | true => exact absurd ⟨hne.symm, hc2, .inr h⟩ h2
    exact absurd (lessS_tri l1 l2) hne
theorem top_sub {l : List Str} {f : Str} (h : f ∈ leastS l) : f ∈ l ∧ filtS f = true := (mem_least.1 h).1
theorem least_least (l : List Str) : leastS (leastS l) = leastS l :=
  sortedS_ext (least_sorted _) (least_sorted _) fun f => by
    constructor
    · intro h; exact (top_sub h).1
    · intro h
      refine mem_least.2 ⟨⟨h, (top_sub h).2⟩, fun g hg _ => (mem_least.1 h).2 g (top_sub hg).1 (top_sub hg).2⟩
/-- of the least of some and of others: of all -/
theorem least_app (a b : List Str) : leastS (leastS a ++ b) = leastS (a ++ b) :=
  sortedS_ext (least_sorted _) (least_sorted _) fun f => by
    rw [mem_least, mem_least]
    constructor
    · rintro ⟨⟨h1, h2⟩, h3⟩
      have hin : f ∈ a ++ b := by
        rcases List.mem_append.1 h1 with h | h
        · exact List.mem_append.2 (.inl (top_sub h).1)
        · exact List.mem_append.2 (.inr h)
      refine ⟨⟨hin, h2⟩, fun g hg hgf => ?_⟩
      rcases List.mem_append.1 hg with h | h
      · obtain ⟨m, hm, h4⟩ := least_max h hgf
        have h5 := h3 m (List.mem_append.2 (.inl hm)) (top_sub hm).2
        rcases h4 with rfl | h4
        · exact h5
        · cases h6 : domS g f with
          | false => rfl
          | true => rw [dom_trans h4 h6] at h5; cases h5
      · exact h3 g (List.mem_append.2 (.inr h)) hgf
    · rintro ⟨⟨h1, h2⟩, h3⟩
      refine ⟨⟨?_, h2⟩, fun g hg hgf => ?_⟩
      · rcases List.mem_append.1 h1 with h | h
        · exact List.mem_append.2 (.inl (mem_least.2 ⟨⟨h, h2⟩, fun g hg hgf => h3 g (List.mem_append.2 (.inl hg)) hgf⟩))
        · exact List.mem_append.2 (.inr h)
      · rcases List.mem_append.1 hg with h | h
        · exact h3 g (List.mem_append.2 (.inl (top_sub h).1)) hgf
        · exact h3 g (List.mem_append.2 (.inr h)) hgf
def letsS (l : List Str) (t : Str) : Bool := l.any fun f => matchS f t
def holdsS (l : List Str) (f : Str) : Bool := l.any fun g => coversS g f
theorem lets_least (l : List Str) (t : Str) : letsS l t = letsS (leastS l) t := by
  rw [Bool.eq_iff_iff]
  simp only [letsS, List.any_eq_true]
  constructor
  · rintro ⟨f, hf, hm⟩
    obtain ⟨m, hm2, hc⟩ := least_cov hf (matchS_filt hm).1
    exact ⟨m, hm2, cov_match hc hm⟩
  · rintro ⟨m, hm, hm2⟩
    exact ⟨m, (top_sub hm).1, hm2⟩
theorem holds_least {l : List Str} {f : Str} (h : f ∈ l) (hf : filtS f = true) : holdsS (leastS l) f = true := by
  obtain ⟨m, hm, hc⟩ := least_cov h hf
  exact List.any_eq_true.2 ⟨m, hm, hc⟩
theorem lets_holds {l : List Str} {f t : Str} (h : holdsS l f = true) (hm : matchS f t = true) : letsS l t = true := by
  obtain ⟨g, hg, hc⟩ := List.any_eq_true.1 h
  exact List.any_eq_true.2 ⟨g, hg, cov_match hc hm⟩
theorem lets_right {l : List Str} {t : Str} (h : rightS t = true) : letsS l t = holdsS l t := by
  simp only [letsS, holdsS, match_cov h]

/-- those that are not in others -/
def withoutS (l m : List Str) : List Str := l.filter fun x => !decide (x ∈ m)
theorem mem_without {l m : List Str} {x : Str} : x ∈ withoutS l m ↔ x ∈ l ∧ x ∉ m := by simp [withoutS]

/-! which two cover one another -/
theorem covL_anti : ∀ (a b : List Str), filtL a = true → filtL b = true → covL false a b = true → covL false b a = true → a = b
  | [], [], _, _, _, _ => rfl
  | [], _ :: _, _, _, h, _ => by simp [covL] at h
  | _ :: _, [], _, _, _, h => by simp [covL] at h
  | x :: a, y :: b, ha, hb, h1, h2 => by
    simp only [covL, Bool.false_and] at h1 h2
    by_cases hx : x = [35]
    · subst hx
      simp only [if_true] at h2
      have hy : y = [35] := by simpa using h2
      subst hy
      rw [filtL_hash ha, filtL_hash hb]
    · have hy : y ≠ [35] := fun e => by subst e; simp [hx] at h1
      simp only [hx, hy, decide_false, Bool.false_or, if_false, Bool.and_eq_true, Bool.or_eq_true, decide_eq_true_eq] at h1 h2
      have e : x = y := by
        rcases h1.1 with e1 | e1
        · rcases h2.1 with e2 | e2
          · rw [e1, e2]
          · exact e2.symm
        · exact e1
      rw [e, covL_anti a b (filtL_tl ha) (filtL_tl hb) h1.2 h2.2]
theorem covers_anti {a b : Str} (h1 : coversS a b = true) (h2 : coversS b a = true) : a = b ∨ (a = [35] ∧ b = [43, 47, 35]) ∨ (b = [35] ∧ a = [43, 47, 35]) := by
  obtain ⟨ha, hb⟩ := coversS_filt h1
  have fa := (filtS_L ha).2
  have fb := (filtS_L hb).2
  have e35 : levels [35] = [[35]] := by decide
  have e43 : levels [43, 47, 35] = [[43], [35]] := by decide
  have c1 : covL true (levels a) (levels b) = true := by simp only [coversS, Bool.and_eq_true] at h1; exact h1.2
  have c2 : covL true (levels b) (levels a) = true := by simp only [coversS, Bool.and_eq_true] at h2; exact h2.2
  cases hla : levels a with
  | nil => exact absurd hla (levels_ne a)
  | cons x la =>
    cases hlb : levels b with
    | nil => exact absurd hlb (levels_ne b)
    | cons y lb =>
      rw [hla, hlb] at c1 c2
      rw [hla] at fa
      rw [hlb] at fb
      simp only [covL, Bool.true_and] at c1 c2
      by_cases hx : x = [35]
      · subst hx
        have hla' := filtL_hash fa
        subst hla'
        have ea : a = [35] := levels_inj (by rw [hla, e35])
        simp only [if_true, Bool.or_eq_true, decide_eq_true_eq, List.cons.injEq] at c2
        rcases c2 with rfl | ⟨rfl, rfl⟩
        · rw [filtL_hash fb] at hlb
          exact .inl (levels_inj (by rw [hla, hlb]))
        · exact .inr (.inl ⟨ea, levels_inj (by rw [hlb, e43])⟩)
      · by_cases hy : y = [35]
        · subst hy
          have hlb' := filtL_hash fb
          subst hlb'
          have eb : b = [35] := levels_inj (by rw [hlb, e35])
          simp only [hx, if_true, decide_false, Bool.false_or, decide_eq_true_eq, List.cons.injEq] at c1
          obtain ⟨rfl, rfl⟩ := c1
          exact .inr (.inr ⟨eb, levels_inj (by rw [hla, e43])⟩)
        · simp only [hx, hy, decide_false, Bool.false_or, if_false, Bool.and_eq_true, Bool.or_eq_true, decide_eq_true_eq] at c1 c2
          have e : x = y := by
            rcases c1.1 with e1 | e1
            · rcases c2.1 with e2 | e2
              · rw [e1, e2]
              · exact e2.symm
            · exact e1
          left
          apply levels_inj
          rw [hla, hlb, e, covL_anti la lb (filtL_tl fa) (filtL_tl fb) c1.2 c2.2]
theorem all_cov {f : Str} (hf : filtS f = true) : coversS [35] f = true := by
  have h35 : filtS [35] = true := by decide
  have e35 : levels [35] = [[35]] := by decide
  rw [coversS, h35, hf, e35]
  simp [covL]
/-- one more that is held: as many as there were -/
theorem least_add {l : List Str} {f : Str} (hf : filtS f = true) (hh : holdsS l f = true) : (leastS (l ++ [f])).length = (leastS l).length := by
  obtain ⟨g, hg, hc⟩ := List.any_eq_true.1 hh
  have hgf := (coversS_filt hc).1
  by_cases hin : f ∈ l
  · congr 1
    exact least_ext fun y _ => by simp only [List.mem_append, List.mem_singleton]; exact ⟨fun h => h.elim id fun e => e ▸ hin, .inl⟩
  by_cases hd : ∃ g ∈ l, filtS g = true ∧ domS g f = true
  · obtain ⟨h, hh1, hh2, hh3⟩ := hd
    congr 1
    refine sortedS_ext (least_sorted _) (least_sorted _) fun m => ?_
    rw [mem_least, mem_least]
    simp only [List.mem_append, List.mem_singleton]
    constructor
    · rintro ⟨⟨h1, h2⟩, h3⟩
      rcases h1 with h1 | rfl
      · exact ⟨⟨h1, h2⟩, fun x hx hxf => h3 x (.inl hx) hxf⟩
      · have := h3 h (.inl hh1) hh2
        rw [hh3] at this; cases this
    · rintro ⟨⟨h1, h2⟩, h3⟩
      refine ⟨⟨.inl h1, h2⟩, fun x hx hxf => ?_⟩
      rcases hx with hx | rfl
      · exact h3 x hx hxf
      · cases h6 : domS x m with
        | false => rfl
        | true => have := h3 h hh1 hh2; rw [dom_trans hh3 h6] at this; cases this
  · have hne : g ≠ f := fun e => hin (e ▸ hg)
    have hnd : ¬ (g ≠ f ∧ coversS g f = true ∧ (coversS f g = false ∨ lessS g f = true)) := fun h => hd ⟨g, hg, hgf, dom_iff.2 h⟩
    have hc2 : coversS f g = true := by
      cases h : coversS f g with
      | true => rfl
      | false => exact absurd ⟨hne, hc, .inl h⟩ hnd
    have hl : lessS g f = false := by
      cases h : lessS g f with
      | false => rfl
      | true => exact absurd ⟨hne, hc, .inr h⟩ hnd
    have hlt : lessS [35] [43, 47, 35] = true := by decide
    have hgt : lessS [43, 47, 35] [35] = false := by decide
    rcases covers_anti hc hc2 with e | ⟨e1, e2⟩ | ⟨e1, e2⟩
    · exact absurd e hne
    · subst e1 e2; rw [hlt] at hl; cases hl
    · subst e1 e2
      have n1 : leastS (l ++ [[35]]) = [[35]] := by
        refine sortedS_ext (least_sorted _) (by simp) fun m => ?_
        rw [mem_least]
        simp only [List.mem_append, List.mem_singleton]
        constructor
        · rintro ⟨⟨-, h2⟩, h3⟩
          have h4 := h3 [35] (.inr rfl) hf
          apply Classical.byContradiction
          intro hne2
          have : domS [35] m = true := dom_iff.2 ⟨fun e => hne2 e.symm, all_cov h2, by
            cases h5 : coversS m [35] with
            | false => exact .inl rfl
            | true =>
              right
              rcases covers_anti h5 (all_cov h2) with e | ⟨e1, e2⟩ | ⟨e1, e2⟩
              · exact absurd e hne2
              · exact absurd e1 hne2
              · rw [e2]; exact hlt⟩
          rw [this] at h4; cases h4
        · rintro rfl
          refine ⟨⟨.inr rfl, hf⟩, fun x hx hxf => ?_⟩
          cases h6 : domS x [35] with
          | false => rfl
          | true =>
            obtain ⟨d1, d2, d3⟩ := dom_iff.1 h6
            rcases covers_anti d2 (all_cov hxf) with e | ⟨e1, e2⟩ | ⟨e1, e2⟩
            · exact absurd e d1
            · exact absurd e1 d1
            · subst e2
              rcases d3 with d3 | d3
              · rw [hc2] at d3; cases d3
              · rw [hgt] at d3; cases d3
      have n2 : leastS l = [[43, 47, 35]] := by
        refine sortedS_ext (least_sorted _) (by simp) fun m => ?_
        rw [mem_least]
        simp only [List.mem_singleton]
        constructor
        · rintro ⟨⟨h1, h2⟩, h3⟩
          have h4 := h3 _ hg hgf
          apply Classical.byContradiction
          intro hne2
          have hcm : coversS [43, 47, 35] m = true := coversS_trans hc (all_cov h2)
          have : domS [43, 47, 35] m = true := dom_iff.2 ⟨fun e => hne2 e.symm, hcm, by
            cases h5 : coversS m [43, 47, 35] with
            | false => exact .inl rfl
            | true =>
              rcases covers_anti h5 hcm with e | ⟨e1, e2⟩ | ⟨e1, e2⟩
              · exact absurd e hne2
              · exact absurd (e1 ▸ h1) hin
              · cases e1⟩
          rw [this] at h4; cases h4
        · rintro rfl
          refine ⟨⟨hg, hgf⟩, fun x hx hxf => ?_⟩
          cases h6 : domS x [43, 47, 35] with
          | false => rfl
          | true =>
            obtain ⟨d1, d2, d3⟩ := dom_iff.1 h6
            have hcm : coversS [43, 47, 35] x = true := coversS_trans hc (all_cov hxf)
            rcases covers_anti d2 hcm with e | ⟨e1, e2⟩ | ⟨e1, e2⟩
            · exact absurd e d1
            · exact absurd (e1 ▸ hx) hin
            · cases e1
      rw [n1, n2]; rfl
end Go.Proofs.YtnoicafjkgbokaaDoor
