import Derived.Test.YtnoicafjkgbokaaDoorSplit
namespace Go.Proofs.YtnoicafjkgbokaaDoor
open Go

theorem below_at {α : Type} {R : List α} {p : Nat → α → Prop} {i : Nat} {x : α} (h : ∀ j y, j < i → R[j]? = some y → p j y) (hx : R[i]? = some x) (hp : p i x) : ∀ j y, j < i + 1 → R[j]? = some y → p j y := fun j y hj hy => by
  by_cases e : j = i
  · subst e; rw [hx] at hy; cases hy; exact hp
  · exact h j y (by omega) hy
def idxP {α : Type} (p : α → Bool) (l : List α) : Int := match l.findIdx? p with | some i => (i : Int) | none => -1
theorem idxP_at {α : Type} {p : α → Bool} {l : List α} {i : Nat} {x : α} (h : ∀ j y, j < i → l[j]? = some y → p y = false) (hx : l[i]? = some x) (hp : p x = true) : idxP p l = i := by
  have : l.findIdx? p = some i := by
    rw [List.findIdx?_eq_some_iff_getElem]
    obtain ⟨hlt, e⟩ := List.getElem?_eq_some_iff.1 hx
    refine ⟨hlt, by rw [e]; exact hp, fun j hj => ?_⟩
    have := h j l[j] hj (by simp)
    simp [this]
  simp [idxP, this]
theorem idxP_none {α : Type} {p : α → Bool} {l : List α} (h : ∀ j y, j < l.length → l[j]? = some y → p y = false) : idxP p l = -1 := by
  have : l.findIdx? p = none := by
    rw [List.findIdx?_eq_none_iff]
    intro x hx
    obtain ⟨j, hj, e⟩ := List.getElem_of_mem hx
    exact h j x hj (by rw [List.getElem?_eq_getElem hj, e])
  simp [idxP, this]
theorem idxP_any {α : Type} (p : α → Bool) (l : List α) : decide (0 ≤ idxP p l) = l.any p := by
  unfold idxP
  cases h : l.findIdx? p with
  | none =>
    rw [List.findIdx?_eq_none_iff] at h
    have : l.any p = false := by rw [List.any_eq_false]; intro x hx; simp [h x hx]
    rw [this]; rfl
  | some i =>
    rw [List.findIdx?_eq_some_iff_getElem] at h
    obtain ⟨hlt, hp, -⟩ := h
    have : l.any p = true := List.any_eq_true.2 ⟨_, List.getElem_mem hlt, hp⟩
    rw [this]; simp
theorem FN.nil1 {P : Program} {g : Nat} {args : List Value} {c : List Blk} {v : Value} (H : FN P g args [c, []] (is v [c, []])) : FN P g args [c] (is v [c]) :=
  ⟨H.enters, fun E R w st => (H.run E R w (by simpa using st)).mono fun _ _ ⟨v', h', e, ⟨e1, e2⟩, s⟩ => ⟨v, [c], by rw [e, e1], ⟨rfl, rfl⟩, by subst e2; simpa using s⟩⟩
theorem FN.nil0 {P : Program} {g : Nat} {args : List Value} {v : Value} (H : FN P g args [] (is v [])) : FN P g args [[]] (is v [[]]) :=
  ⟨H.enters, fun E R w st => (H.run E R w (by simpa using st)).mono fun _ _ ⟨v', h', e, ⟨e1, e2⟩, s⟩ => ⟨v, [[]], by rw [e, e1], ⟨rfl, rfl⟩, by subst e2; simpa using s⟩⟩

theorem idxFuncS {g : Nat} {caps : List Value} {cm : List Blk} {p : Str → Bool} {l : List Str} {v : Value} {row : List Blk} (hs : IsSl 9 1 v (strs l) row) (hl : l.length ≤ 1000000) (hc : ∀ x ∈ l, FN Tryd.prog g (sv x :: caps) [cm] (is (.bool (p x)) [cm])) :
    FN Tryd.prog 54 [v, .func (.func g) ⟨[]⟩ ⟨caps⟩] [row, cm] (is (.int .i64 (idxP p l)) [row, cm]) := by
  obtain ⟨a, cap, rfl, hcap, hrow⟩ := hs.strsE
  refine FN.intro 19 [(0, .slice a l.length cap), (1, .func (.func g) ⟨[]⟩ ⟨caps⟩)] Tryd.func54 rfl (enters Tryd.func54 (by kernel_rfl) rfl) Tryd.ntmps54 rfl rfl ?_
  refine WP.seq <| WP.region <| v0 (S0.assign rfl) rfl <| vE <| WP.seq <| WP.seq <| WP.region <| v0 (S0.move rfl) rfl <| v0 (S0.lenSl rfl) rfl <| v0 (S0.move rfl) rfl <| vE <| WP.block <| ?_  -- Code.loop
  refine WP.loop (fun i : Nat => i ≤ l.length ∧ ∀ j y, j < i → l[j]? = some y → p y = false) (fun i : Nat => [(0, .slice a l.length cap), (1, .func (.func g) ⟨[]⟩ ⟨caps⟩), (7, .int .i64 (l.length : Int)), (8, .int .i64 (i : Int))]) (fun i : Nat => [row, cm]) (fun i : Nat => l.length - i) (0) (⟨by omega, fun j y hj => by omega⟩) ⟨rfl, rfl, rfl, rfl, trivial⟩ ⟨_, (take1 at0 (take1 at0 take0))⟩ (fun i hinv => ?_) 
  obtain ⟨hi, hno⟩ := hinv
  refine WP.seq <| WP.region <| v0 (S0.cmp rfl rfl rfl) rfl <| vE <| WP.seq <| ?_  -- cond
  first | refine WP.condP rfl (fun h1 => ?_) (fun h1 => ?_) | refine WP.condN rfl (fun h1 => ?_) (fun h1 => ?_) | refine WP.cond rfl (fun h1 => ?_) (fun h1 => ?_)
  · skip
    have hlt : i < l.length := by omega
    rcases hrow with ⟨rfl, -⟩ | ⟨b1, sp1, rfl, rfl, hsp1⟩
    · simp at hlt
    have hx : l[i]? = some l[i] := by simp [hlt]
    refine WP.skip <| WP.seq <| WP.block <| WP.seq <| WP.region <| v0 (S0.move rfl) rfl <| v0 (S0.assign rfl) rfl <| vE <| WP.seq <| WP.region <| v0 (S0.move rfl) rfl <| v0 (S0.move rfl) rfl <| v0 (S0.move rfl) rfl <| ?_  -- op t14 := indexAddr 22 t12 t13
    refine v0 (S0.index1 rfl rfl hlt) rfl <| ?_
    refine v0 (S0.load rfl (strs_get hx)) rfl <| ?_
    -- (nothing to walk: op t16 := call t11(t15))
    refine vcd (S1.callC rfl rfl rfl (hc l[i] (List.getElem_mem hlt)) (take1 (atS at0) take0)) rfl ?_
    refine vE <| ?_  -- cond
    first | refine WP.condP rfl (fun h2 => ?_) (fun h2 => ?_) | refine WP.condN rfl (fun h2 => ?_) (fun h2 => ?_) | refine WP.cond rfl (fun h2 => ?_) (fun h2 => ?_)
    · skip
      refine WP.seq <| WP.region <| v0 (S0.move rfl) rfl <| v0 (S0.assign rfl) rfl <| vE <| WP.ret <| ?_  -- ret
      refine Leaves.drop (take1 (atS at0) (take1 at0 take0)) ?_
      refine r1 rfl rfl ⟨?_, rfl⟩
      rw [idxP_at hno hx h2]
    · skip
      refine WP.skip <| WP.region <| v0 (S0.ari rfl rfl rfl (wrap_i64 (by omega))) rfl <| v0 (S0.move rfl) rfl <| vE <| ?_  -- roundend
      exact ⟨i + 1, (by first | exact ⟨hlt, below_succ (p := fun y => p y = false) hno hx h2⟩ | (dsimp only; exact ⟨hlt, below_succ (p := fun y => p y = false) hno hx h2⟩)), (by omega), ⟨⟨rfl, rfl, rfl, rfl, trivial⟩, rfl, rfl⟩, ⟨_, (take1 (atS at0) (take1 at0 take0))⟩⟩
  · skip
    refine WP.exit <| WP.seq <| WP.region <| v0 (S0.assign rfl) rfl <| vE <| WP.ret <| ?_  -- ret
    refine r1 rfl rfl ⟨?_, rfl⟩
    rw [idxP_none fun j y hj => hno j y (by omega)]
theorem anyFuncS {g : Nat} {caps : List Value} {cm : List Blk} {p : Str → Bool} {l : List Str} {v : Value} {row : List Blk} (hs : IsSl 9 1 v (strs l) row) (hl : l.length ≤ 1000000) (hc : ∀ x ∈ l, FN Tryd.prog g (sv x :: caps) [cm] (is (.bool (p x)) [cm])) :
    FN Tryd.prog 38 [v, .func (.func g) ⟨[]⟩ ⟨caps⟩] [row, cm] (is (.bool (l.any p)) [row, cm]) := by
  obtain ⟨a, cap, rfl, hcap, hrow⟩ := hs.strsE
  refine FN.intro 9 [(0, .slice a l.length cap), (1, .func (.func g) ⟨[]⟩ ⟨caps⟩)] Tryd.func38 rfl (enters Tryd.func38 (by kernel_rfl) rfl) Tryd.ntmps38 rfl rfl ?_
  refine WP.seq <| WP.region <| v0 (S0.assign rfl) rfl <| vE <| WP.seq <| WP.region <| v0 (S0.move rfl) rfl <| v0 (S0.move rfl) rfl <| ?_  -- op t7 := call F54{slices.IndexFunc[[]string,string]}(t5, t6)
  refine vcd (S1.callF rfl (idxFuncS hs hl hc) (take1 at0 (take1 at0 take0))) rfl ?_
  refine v0 (S0.cmp rfl rfl rfl) rfl <| v0 (S0.assign rfl) rfl <| vE <| WP.ret <| ?_  -- ret
  refine r1 rfl rfl ⟨?_, rfl⟩
  rw [idxP_any]

/-! names -/
theorem okN_iff {n : Int} : okN n = true ↔ (((97 ≤ n ∧ n ≤ 122) ∨ (48 ≤ n ∧ n ≤ 57)) ∨ n = 45) ∨ n = 95 := by
  simp only [okN, Bool.or_eq_true, Bool.and_eq_true, decide_eq_true_eq]
theorem letter_spec (n : Int) : FN Tryd.prog 63 [.int .i32 n] [] (is (.bool (okN n)) []) := by
  refine FN.intro 25 [(0, .int .i32 n)] Tryd.func63 rfl (enters Tryd.func63 (by kernel_rfl) rfl) Tryd.ntmps63 rfl rfl ?_
  refine WP.seq <| WP.region <| v0 (S0.assign rfl) rfl <| vE <| WP.seq <| WP.region <| v0 (S0.move rfl) rfl <| v0 (S0.cmp rfl rfl rfl) rfl <| v0 (S0.move rfl) rfl <| ?_
  first | refine csP (t := 5) rfl (fun hq0 => ?_) (fun hq0 => ?_) | refine csN (t := 5) rfl (fun hq0 => ?_) (fun hq0 => ?_) | refine cs (t := 5) rfl (fun hq0 => ?_) (fun hq0 => ?_)
  ·
    refine gT rfl <| v0 (S0.move rfl) rfl <| gT rfl <| v0 (S0.cmp rfl rfl rfl) rfl <| v0 (S0.pickT rfl rfl) rfl <| v0 (S0.move rfl) rfl <| ?_
    first | refine csP (t := 9) rfl (fun hq1 => ?_) (fun hq1 => ?_) | refine csN (t := 9) rfl (fun hq1 => ?_) (fun hq1 => ?_) | refine cs (t := 9) rfl (fun hq1 => ?_) (fun hq1 => ?_)
    ·
      refine gF rfl rfl <| gF rfl rfl <| gF rfl rfl <| gF rfl rfl <| gF rfl rfl <| gF rfl rfl <| v0 (S0.pickT rfl rfl) rfl <| v0 (S0.move rfl) rfl <| gF rfl rfl <| gF rfl rfl <| v0 (S0.pickT rfl rfl) rfl <| v0 (S0.move rfl) rfl <| gF rfl rfl <| gF rfl rfl <| v0 (S0.pickT rfl rfl) rfl <| v0 (S0.assign rfl) rfl <| vE <| WP.ret <| ?_
      refine r1 rfl rfl ⟨?_, rfl⟩
      exact congrArg Value.bool (Bool.eq_iff_iff.2 (by simp only [okN_iff, decide_eq_true_eq, true_iff, Bool.false_eq_true, false_iff]; omega))
    ·
      refine gT rfl <| v0 (S0.move rfl) rfl <| gT rfl <| v0 (S0.cmp rfl rfl rfl) rfl <| gT rfl <| v0 (S0.move rfl) rfl <| ?_
      first | refine csP (t := 12) rfl (fun hq2 => ?_) (fun hq2 => ?_) | refine csN (t := 12) rfl (fun hq2 => ?_) (fun hq2 => ?_) | refine cs (t := 12) rfl (fun hq2 => ?_) (fun hq2 => ?_)
      ·
        refine gT rfl <| v0 (S0.move rfl) rfl <| gT rfl <| v0 (S0.cmp rfl rfl rfl) rfl <| gT rfl <| v0 (S0.pickT rfl rfl) rfl <| v0 (S0.pickF rfl rfl) rfl <| v0 (S0.move rfl) rfl <| ?_
        first | refine csP (t := 17) rfl (fun hq3 => ?_) (fun hq3 => ?_) | refine csN (t := 17) rfl (fun hq3 => ?_) (fun hq3 => ?_) | refine cs (t := 17) rfl (fun hq3 => ?_) (fun hq3 => ?_)
        ·
          refine gF rfl rfl <| gF rfl rfl <| v0 (S0.pickT rfl rfl) rfl <| v0 (S0.move rfl) rfl <| gF rfl rfl <| gF rfl rfl <| v0 (S0.pickT rfl rfl) rfl <| v0 (S0.assign rfl) rfl <| vE <| WP.ret <| ?_
          refine r1 rfl rfl ⟨?_, rfl⟩
          exact congrArg Value.bool (Bool.eq_iff_iff.2 (by simp only [okN_iff, decide_eq_true_eq, true_iff, Bool.false_eq_true, false_iff]; omega))
        ·
          refine gT rfl <| v0 (S0.move rfl) rfl <| gT rfl <| v0 (S0.cmp rfl rfl rfl) rfl <| v0 (S0.pickF rfl rfl) rfl <| v0 (S0.move rfl) rfl <| ?_
          first | refine csP (t := 21) rfl (fun hq4 => ?_) (fun hq4 => ?_) | refine csN (t := 21) rfl (fun hq4 => ?_) (fun hq4 => ?_) | refine cs (t := 21) rfl (fun hq4 => ?_) (fun hq4 => ?_)
          ·
            refine gF rfl rfl <| gF rfl rfl <| v0 (S0.pickT rfl rfl) rfl <| v0 (S0.assign rfl) rfl <| vE <| WP.ret <| ?_
            refine r1 rfl rfl ⟨?_, rfl⟩
            exact congrArg Value.bool (Bool.eq_iff_iff.2 (by simp only [okN_iff, decide_eq_true_eq, true_iff, Bool.false_eq_true, false_iff]; omega))
          ·
            refine gT rfl <| v0 (S0.move rfl) rfl <| gT rfl <| v0 (S0.cmp rfl rfl rfl) rfl <| v0 (S0.pickF rfl rfl) rfl <| v0 (S0.assign rfl) rfl <| vE <| WP.ret <| ?_
            refine r1 rfl rfl ⟨?_, rfl⟩
            exact congrArg Value.bool (Bool.eq_iff_iff.2 (by simp only [okN_iff, decide_eq_true_eq, true_iff, Bool.false_eq_true, false_iff]; omega))
      ·
        refine gF rfl rfl <| gF rfl rfl <| gT rfl <| v0 (S0.pickF rfl rfl) rfl <| v0 (S0.pickF rfl rfl) rfl <| v0 (S0.move rfl) rfl <| gT rfl <| v0 (S0.move rfl) rfl <| gT rfl <| v0 (S0.cmp rfl rfl rfl) rfl <| v0 (S0.pickF rfl rfl) rfl <| v0 (S0.move rfl) rfl <| ?_
        first | refine csP (t := 21) rfl (fun hq3 => ?_) (fun hq3 => ?_) | refine csN (t := 21) rfl (fun hq3 => ?_) (fun hq3 => ?_) | refine cs (t := 21) rfl (fun hq3 => ?_) (fun hq3 => ?_)
        ·
          refine gF rfl rfl <| gF rfl rfl <| v0 (S0.pickT rfl rfl) rfl <| v0 (S0.assign rfl) rfl <| vE <| WP.ret <| ?_
          refine r1 rfl rfl ⟨?_, rfl⟩
          exact congrArg Value.bool (Bool.eq_iff_iff.2 (by simp only [okN_iff, decide_eq_true_eq, true_iff, Bool.false_eq_true, false_iff]; omega))
        ·
          refine gT rfl <| v0 (S0.move rfl) rfl <| gT rfl <| v0 (S0.cmp rfl rfl rfl) rfl <| v0 (S0.pickF rfl rfl) rfl <| v0 (S0.assign rfl) rfl <| vE <| WP.ret <| ?_
          refine r1 rfl rfl ⟨?_, rfl⟩
          exact congrArg Value.bool (Bool.eq_iff_iff.2 (by simp only [okN_iff, decide_eq_true_eq, true_iff, Bool.false_eq_true, false_iff]; omega))
  ·
    refine gF rfl rfl <| gF rfl rfl <| v0 (S0.pickF rfl rfl) rfl <| v0 (S0.move rfl) rfl <| gT rfl <| v0 (S0.move rfl) rfl <| gT rfl <| v0 (S0.cmp rfl rfl rfl) rfl <| gT rfl <| v0 (S0.move rfl) rfl <| ?_
    first | refine csP (t := 12) rfl (fun hq1 => ?_) (fun hq1 => ?_) | refine csN (t := 12) rfl (fun hq1 => ?_) (fun hq1 => ?_) | refine cs (t := 12) rfl (fun hq1 => ?_) (fun hq1 => ?_)
    ·
      refine gT rfl <| v0 (S0.move rfl) rfl <| gT rfl <| v0 (S0.cmp rfl rfl rfl) rfl <| gT rfl <| v0 (S0.pickT rfl rfl) rfl <| v0 (S0.pickF rfl rfl) rfl <| v0 (S0.move rfl) rfl <| ?_
      first | refine csP (t := 17) rfl (fun hq2 => ?_) (fun hq2 => ?_) | refine csN (t := 17) rfl (fun hq2 => ?_) (fun hq2 => ?_) | refine cs (t := 17) rfl (fun hq2 => ?_) (fun hq2 => ?_)
      ·
        refine gF rfl rfl <| gF rfl rfl <| v0 (S0.pickT rfl rfl) rfl <| v0 (S0.move rfl) rfl <| gF rfl rfl <| gF rfl rfl <| v0 (S0.pickT rfl rfl) rfl <| v0 (S0.assign rfl) rfl <| vE <| WP.ret <| ?_
        refine r1 rfl rfl ⟨?_, rfl⟩
        exact congrArg Value.bool (Bool.eq_iff_iff.2 (by simp only [okN_iff, decide_eq_true_eq, true_iff, Bool.false_eq_true, false_iff]; omega))
      ·
        refine gT rfl <| v0 (S0.move rfl) rfl <| gT rfl <| v0 (S0.cmp rfl rfl rfl) rfl <| v0 (S0.pickF rfl rfl) rfl <| v0 (S0.move rfl) rfl <| ?_
        first | refine csP (t := 21) rfl (fun hq3 => ?_) (fun hq3 => ?_) | refine csN (t := 21) rfl (fun hq3 => ?_) (fun hq3 => ?_) | refine cs (t := 21) rfl (fun hq3 => ?_) (fun hq3 => ?_)
        ·
          refine gF rfl rfl <| gF rfl rfl <| v0 (S0.pickT rfl rfl) rfl <| v0 (S0.assign rfl) rfl <| vE <| WP.ret <| ?_
          refine r1 rfl rfl ⟨?_, rfl⟩
          exact congrArg Value.bool (Bool.eq_iff_iff.2 (by simp only [okN_iff, decide_eq_true_eq, true_iff, Bool.false_eq_true, false_iff]; omega))
        ·
          refine gT rfl <| v0 (S0.move rfl) rfl <| gT rfl <| v0 (S0.cmp rfl rfl rfl) rfl <| v0 (S0.pickF rfl rfl) rfl <| v0 (S0.assign rfl) rfl <| vE <| WP.ret <| ?_
          refine r1 rfl rfl ⟨?_, rfl⟩
          exact congrArg Value.bool (Bool.eq_iff_iff.2 (by simp only [okN_iff, decide_eq_true_eq, true_iff, Bool.false_eq_true, false_iff]; omega))
    ·
      refine gF rfl rfl <| gF rfl rfl <| gT rfl <| v0 (S0.pickF rfl rfl) rfl <| v0 (S0.pickF rfl rfl) rfl <| v0 (S0.move rfl) rfl <| gT rfl <| v0 (S0.move rfl) rfl <| gT rfl <| v0 (S0.cmp rfl rfl rfl) rfl <| v0 (S0.pickF rfl rfl) rfl <| v0 (S0.move rfl) rfl <| ?_
      first | refine csP (t := 21) rfl (fun hq2 => ?_) (fun hq2 => ?_) | refine csN (t := 21) rfl (fun hq2 => ?_) (fun hq2 => ?_) | refine cs (t := 21) rfl (fun hq2 => ?_) (fun hq2 => ?_)
      ·
        refine gF rfl rfl <| gF rfl rfl <| v0 (S0.pickT rfl rfl) rfl <| v0 (S0.assign rfl) rfl <| vE <| WP.ret <| ?_
        refine r1 rfl rfl ⟨?_, rfl⟩
        exact congrArg Value.bool (Bool.eq_iff_iff.2 (by simp only [okN_iff, decide_eq_true_eq, true_iff, Bool.false_eq_true, false_iff]; omega))
      ·
        refine gT rfl <| v0 (S0.move rfl) rfl <| gT rfl <| v0 (S0.cmp rfl rfl rfl) rfl <| v0 (S0.pickF rfl rfl) rfl <| v0 (S0.assign rfl) rfl <| vE <| WP.ret <| ?_
        refine r1 rfl rfl ⟨?_, rfl⟩
        exact congrArg Value.bool (Bool.eq_iff_iff.2 (by simp only [okN_iff, decide_eq_true_eq, true_iff, Bool.false_eq_true, false_iff]; omega))
theorem all_take_succ {s : Str} {q : UInt8 → Bool} {i : Nat} {c : UInt8} (h : (s.take i).all q = true) (hx : s[i]? = some c) (hc : q c = true) : (s.take (i + 1)).all q = true := by
  rw [List.take_add_one, hx, List.all_append, h]; simp [hc]
theorem not_all {s : Str} {q : UInt8 → Bool} {i : Nat} {c : UInt8} (hx : s[i]? = some c) (hc : q c = false) : s.all q = false := by
  rw [List.all_eq_false]
  obtain ⟨hlt, e⟩ := List.getElem?_eq_some_iff.1 hx
  exact ⟨c, by rw [← e]; exact List.getElem_mem hlt, by simp [hc]⟩
theorem name_spec (s : Str) : FN Tryd.prog 57 [sv s] [] (is (.bool (nameS s)) []) := by
  refine FN.intro 22 [(0, sv s)] Tryd.func57 rfl (enters Tryd.func57 (by kernel_rfl) rfl) Tryd.ntmps57 rfl rfl ?_
  refine WP.seq <| WP.region <| v0 (S0.assign rfl) rfl <| vE <| WP.seq <| WP.region <| v0 (S0.assign rfl) rfl <| vE <| WP.seq <| WP.seq <| WP.region <| v0 (S0.move rfl) rfl <| ?_  -- op t7 := range 9 t6
  refine vn (S1.rangeSt rfl) rfl fun b7 => ?_
  refine vE <| WP.block <| ?_  -- Code.loop
  refine WP.loop (fun i : Nat => i ≤ s.length ∧ (s.take i).all (fun c => okN c.toNat) = true) (fun i : Nat => [(0, sv s), (3, .func (.func 63) ⟨[]⟩ ⟨[]⟩), (7, .pointer (some ⟨b7, 0, none⟩))]) (fun i : Nat => [[(b7, .stringIter ⟨⟨s⟩⟩ i)]]) (fun i : Nat => s.length - i) (0) (⟨by omega, by simp⟩) ⟨rfl, rfl, rfl, trivial⟩ ⟨_, (take1 at0 take0)⟩ (fun i hinv => ?_) 
  obtain ⟨hi, hall⟩ := hinv
  refine WP.seq <| WP.region <| ?_  -- op t8 := next t7 true
  skip
  by_cases hlt : i < s.length
  · skip
    have hx : s[i]? = some s[i] := by simp [hlt]
    refine v1 (S1.nextSt rfl hlt) rfl <| ?_
    refine v0 (S0.extract rfl rfl) rfl <| vE <| WP.seq <| ?_  -- cond
    refine WP.condTh rfl (rfl) ?_
    skip
    by_cases hc : s[i].toNat < 128
    · skip
      rw [decode_ascii hx hc]
      refine WP.skip <| WP.block <| WP.seq <| WP.region <| v0 (S0.extract rfl rfl) rfl <| v0 (S0.assign rfl) rfl <| vE <| WP.seq <| WP.region <| v0 (S0.move rfl) rfl <| v0 (S0.move rfl) rfl <| ?_  -- op t13 := call t11(t12)
      refine vcd (S1.callC rfl rfl rfl (letter_spec s[i].toNat) take0) rfl ?_
      refine v0 (S0.not rfl) rfl <| vE <| ?_  -- cond
      first | refine WP.condP rfl (fun hok => ?_) (fun hok => ?_) | refine WP.condN rfl (fun hok => ?_) (fun hok => ?_) | refine WP.cond rfl (fun hok => ?_) (fun hok => ?_)
      · skip
        refine WP.seq <| WP.region <| v0 (S0.assign rfl) rfl <| vE <| WP.ret <| ?_  -- ret
        refine Leaves.drop take0 ?_
        refine r1 rfl rfl ⟨?_, rfl⟩
        have : s.all (fun c => okN c.toNat) = false := not_all hx (by simpa using hok)
        simp [nameS, this]
      · skip
        refine WP.skip <| ?_  -- roundend
        exact ⟨i + 1, (by first | exact ⟨hlt, all_take_succ hall hx (by simpa using hok)⟩ | (dsimp only; exact ⟨hlt, all_take_succ hall hx (by simpa using hok)⟩)), (by omega), ⟨⟨rfl, rfl, rfl, trivial⟩, rfl, rfl⟩, ⟨_, (take1 at0 take0)⟩⟩
    · skip
      obtain ⟨hd, -⟩ := decode_other hx hc
      refine WP.skip <| WP.block <| WP.seq <| WP.region <| v0 (S0.extract rfl rfl) rfl <| v0 (S0.assign rfl) rfl <| vE <| WP.seq <| WP.region <| v0 (S0.move rfl) rfl <| v0 (S0.move rfl) rfl <| ?_  -- op t13 := call t11(t12)
      refine vcd (S1.callC rfl rfl rfl (letter_spec ((Utf8.decode ⟨⟨s⟩⟩ i).1 : Int)) take0) rfl ?_
      rw [okN_ge (by omega)]
      refine v0 (S0.not rfl) rfl <| vE <| ?_  -- cond
      refine WP.condTh rfl (rfl) ?_
      refine WP.seq <| WP.region <| v0 (S0.assign rfl) rfl <| vE <| WP.ret <| ?_  -- ret
      refine Leaves.drop take0 ?_
      refine r1 rfl rfl ⟨?_, rfl⟩
      have : s.all (fun c => okN c.toNat) = false := not_all hx (okN_ge (by omega))
      simp [nameS, this]
  · skip
    refine v1 (S1.nextStEnd rfl hlt) rfl <| ?_
    refine v0 (S0.extract rfl rfl) rfl <| vE <| WP.seq <| ?_  -- cond
    refine WP.condFh rfl (rfl) ?_
    rw [List.take_of_length_le (by omega)] at hall
    refine WP.exit <| WP.seq <| WP.region <| v0 (S0.move rfl) rfl <| v0 (S0.cmpS rfl rfl rfl) rfl <| v0 (S0.move rfl) rfl <| ?_
    first | refine csP (t := 17) rfl (fun hq0 => ?_) (fun hq0 => ?_) | refine csN (t := 17) rfl (fun hq0 => ?_) (fun hq0 => ?_) | refine cs (t := 17) rfl (fun hq0 => ?_) (fun hq0 => ?_)
    ·
      refine gT rfl <| v0 (S0.move rfl) rfl <| gT rfl <| v0 (S0.lenSt rfl) rfl <| gT rfl <| v0 (S0.cmp rfl rfl rfl) rfl <| v0 (S0.pickT rfl rfl) rfl <| v0 (S0.assign rfl) rfl <| vE <| WP.ret <| ?_
      refine Leaves.drop take0 ?_
      refine r1 rfl rfl ⟨?_, rfl⟩
      exact congrArg Value.bool (by simp [nameS, hall, *] <;> omega)
    ·
      refine gF rfl rfl <| gF rfl rfl <| gF rfl rfl <| v0 (S0.pickF rfl rfl) rfl <| v0 (S0.assign rfl) rfl <| vE <| WP.ret <| ?_
      refine Leaves.drop take0 ?_
      refine r1 rfl rfl ⟨?_, rfl⟩
      exact congrArg Value.bool (by simp [nameS, hall, *] <;> omega)
theorem rightfn_spec (s : Str) : FN Tryd.prog 62 [sv s] [] (is (.bool (!nameS s)) []) := by
  refine FN.intro 6 [(0, sv s)] Tryd.func62 rfl (enters Tryd.func62 (by kernel_rfl) rfl) Tryd.ntmps62 rfl rfl ?_
  refine WP.seq <| WP.region <| v0 (S0.assign rfl) rfl <| vE <| WP.seq <| WP.region <| v0 (S0.move rfl) rfl <| ?_  -- op t4 := call F57{rivulet/topic.name}(t3)
  refine vcd (S1.callF rfl (name_spec s) take0) rfl ?_
  refine v0 (S0.not rfl) rfl <| v0 (S0.assign rfl) rfl <| vE <| WP.ret <| ?_  -- ret
  refine r1 rfl rfl ?_
  exact ⟨rfl, rfl⟩
theorem any_not (l : List Str) : (!l.any fun x => !nameS x) = l.all nameS := by
  induction l with
  | nil => rfl
  | cons x l ih => simp only [List.any_cons, List.all_cons, Bool.not_or, Bool.not_not, ih]
theorem right_spec {s : Str} (hl : s.length ≤ 1000000) : FN Tryd.prog 56 [sv s] [] (is (.bool (rightS s)) []) := by
  have hll := levels_len s
  refine FN.intro 14 [(0, sv s)] Tryd.func56 rfl (enters Tryd.func56 (by kernel_rfl) rfl) Tryd.ntmps56 rfl rfl ?_
  refine WP.seq <| WP.region <| v0 (S0.assign rfl) rfl <| vE <| WP.seq <| WP.region <| v0 (S0.move rfl) rfl <| ?_  -- op t5 := call F51{rivulet/topic.Levels}(t4)
  refine vc (S1.callF rfl (levels_spec hl) take0) rfl ?_
  rintro _ _ ⟨row, hsl, rfl⟩
  refine app ?_
  obtain ⟨a, cap, rfl, -, -⟩ := hsl.strsE
  refine v0 (S0.assign rfl) rfl <| vE <| WP.seq <| WP.region <| v0 (S0.move rfl) rfl <| v0 (S0.lenSl rfl) rfl <| v0 (S0.cmp rfl rfl rfl) rfl <| v0 (S0.move rfl) rfl <| ?_  -- guard t9 (wants True) at t10 := move t3 [if #3=True]
  first | refine csP (t := 9) rfl (fun h8 => ?_) (fun h8 => ?_) | refine csN (t := 9) rfl (fun h8 => ?_) (fun h8 => ?_) | refine cs (t := 9) rfl (fun h8 => ?_) (fun h8 => ?_)
  · skip
    refine gT rfl <| v0 (S0.move rfl) rfl <| ?_  -- op t11 := call F38{slices.ContainsFunc[[]string,string]}(t10, F62) [if #3=True]
    refine gT rfl <| vcd (S1.callF rfl (FN.nil1 (anyFuncS hsl (by omega) fun x _ => FN.nil0 (rightfn_spec x))) (take1 at0 take0)) rfl ?_
    refine gT rfl <| v0 (S0.not rfl) rfl <| v0 (S0.pickT rfl rfl) rfl <| v0 (S0.assign rfl) rfl <| vE <| WP.ret <| ?_  -- ret
    refine Leaves.drop take0 ?_
    refine r1 rfl rfl ⟨?_, rfl⟩
    have h8' : (levels s).length ≤ 8 := by omega
    rw [any_not]
    simp [rightS, h8']
  · skip
    refine gF rfl rfl <| gF rfl rfl <| gF rfl rfl <| v0 (S0.pickF rfl rfl) rfl <| v0 (S0.assign rfl) rfl <| vE <| WP.ret <| ?_  -- ret
    refine Leaves.drop take0 ?_
    refine r1 rfl rfl ⟨?_, rfl⟩
    have h8' : ¬ (levels s).length ≤ 8 := by omega
    simp [rightS, h8']
theorem filter_spec {s : Str} (hl : s.length ≤ 1000000) : FN Tryd.prog 46 [sv s] [] (is (.bool (filtS s)) []) := by
  have hll := levels_len s
  refine FN.intro 40 [(0, sv s)] Tryd.func46 rfl (enters Tryd.func46 (by kernel_rfl) rfl) Tryd.ntmps46 rfl rfl ?_
  refine WP.seq <| WP.region <| v0 (S0.assign rfl) rfl <| vE <| WP.seq <| WP.region <| v0 (S0.move rfl) rfl <| ?_  -- op t8 := call F51{rivulet/topic.Levels}(t7)
  refine vc (S1.callF rfl (levels_spec hl) take0) rfl ?_
  rintro _ _ ⟨row, hsl, rfl⟩
  refine app ?_
  obtain ⟨a, cap, rfl, -, hrow⟩ := hsl.strsE
  refine v0 (S0.assign rfl) rfl <| vE <| WP.seq <| WP.seq <| WP.region <| v0 (S0.move rfl) rfl <| v0 (S0.lenSl rfl) rfl <| v0 (S0.cmp rfl rfl rfl) rfl <| vE <| ?_  -- cond
  first | refine WP.condP rfl (fun h8 => ?_) (fun h8 => ?_) | refine WP.condN rfl (fun h8 => ?_) (fun h8 => ?_) | refine WP.cond rfl (fun h8 => ?_) (fun h8 => ?_)
  · skip
    refine WP.seq <| WP.region <| v0 (S0.assign rfl) rfl <| vE <| WP.ret <| ?_  -- ret
    refine Leaves.drop take0 ?_
    refine r1 rfl rfl ⟨?_, rfl⟩
    have h8' : ¬ (levels s).length ≤ 8 := by omega
    simp [filtS, h8']
  · skip
    have h8' : (levels s).length ≤ 8 := by omega
    refine WP.skip <| WP.seq <| WP.seq <| WP.region <| v0 (S0.move rfl) rfl <| v0 (S0.lenSl rfl) rfl <| v0 (S0.move rfl) rfl <| vE <| WP.block <| ?_  -- Code.loop
    refine WP.loop (fun i : Nat => i ≤ (levels s).length ∧ ∀ j y, j < i → (levels s)[j]? = some y → badAt (levels s) j y = false) (fun i : Nat => [(0, sv s), (3, .slice a (levels s).length cap), (12, .slice a (levels s).length cap), (13, .int .i64 ((levels s).length : Int)), (14, .int .i64 (i : Int))]) (fun i : Nat => [row]) (fun i : Nat => (levels s).length - i) (0) (⟨by omega, fun j y hj => by omega⟩) ⟨rfl, rfl, rfl, rfl, rfl, trivial⟩ ⟨_, (take1 at0 take0)⟩ (fun i hinv => ?_) 
    obtain ⟨hi, hno⟩ := hinv
    refine WP.seq <| WP.region <| v0 (S0.cmp rfl rfl rfl) rfl <| vE <| WP.seq <| ?_  -- cond
    first | refine WP.condP rfl (fun h1 => ?_) (fun h1 => ?_) | refine WP.condN rfl (fun h1 => ?_) (fun h1 => ?_) | refine WP.cond rfl (fun h1 => ?_) (fun h1 => ?_)
    · skip
      have hlt : i < (levels s).length := by omega
      rcases hrow with ⟨e, -⟩ | ⟨b1, sp1, rfl, rfl, hsp1⟩
      · rw [e] at hlt; simp at hlt
      have hx : (levels s)[i]? = some (levels s)[i] := by simp [hlt]
      have hlast : ((i : Int) = ((levels s).length : Int) - 1) ↔ i + 1 = (levels s).length := by omega
      have hb : badAt (levels s) i (levels s)[i] = (!nameS (levels s)[i] && (!decide ((levels s)[i] = [43]) && (!decide ((levels s)[i] = [35]) || !decide ((i : Int) = ((levels s).length : Int) - 1)))) := by simp [badAt, hlast]
      clear hlast
      have hbad : badAt (levels s) i (levels s)[i] = true → false = filtS s := fun e => by
        have : ¬ filtL (levels s) = true := fun hf => by have := (filtL_iff _).1 hf i _ hx; rw [e] at this; cases this
        have : filtL (levels s) = false := by simpa using this
        simp [filtS, this]
      refine WP.skip <| WP.seq <| WP.block <| WP.seq <| WP.region <| v0 (S0.move rfl) rfl <| ?_  -- op t17 := indexAddr 22 t12 t14
      refine v0 (S0.index1 rfl rfl hlt) rfl <| ?_
      refine v0 (S0.load rfl (strs_get hx)) rfl <| ?_
      refine v0 (S0.assign rfl) rfl <| v0 (S0.assign rfl) rfl <| vE <| WP.seq <| WP.region <| v0 (S0.move rfl) rfl <| v0 (S0.move rfl) rfl <| v0 (S0.lenSl rfl) rfl <| v0 (S0.ari rfl rfl rfl (wrap_i64 (by omega))) rfl <| v0 (S0.cmp rfl rfl rfl) rfl <| v0 (S0.assign rfl) rfl <| vE <| WP.seq <| WP.region <| v0 (S0.move rfl) rfl <| ?_  -- op t25 := call F57{rivulet/topic.name}(t24)
      refine vcd (S1.callF rfl (name_spec (levels s)[i]) take0) rfl ?_
      refine v0 (S0.not rfl) rfl <| v0 (S0.move rfl) rfl <| ?_
      first | refine csP (t := 27) rfl (fun hq0 => ?_) (fun hq0 => ?_) | refine csN (t := 27) rfl (fun hq0 => ?_) (fun hq0 => ?_) | refine cs (t := 27) rfl (fun hq0 => ?_) (fun hq0 => ?_)
      ·
        refine gT rfl <| v0 (S0.move rfl) rfl <| gT rfl <| v0 (S0.cmpS rfl rfl rfl) rfl <| v0 (S0.pickT rfl rfl) rfl <| v0 (S0.move rfl) rfl <| ?_
        first | refine csP (t := 31) rfl (fun hq1 => ?_) (fun hq1 => ?_) | refine csN (t := 31) rfl (fun hq1 => ?_) (fun hq1 => ?_) | refine cs (t := 31) rfl (fun hq1 => ?_) (fun hq1 => ?_)
        ·
          refine gT rfl <| v0 (S0.move rfl) rfl <| gT rfl <| v0 (S0.cmpS rfl rfl rfl) rfl <| gT rfl <| v0 (S0.move rfl) rfl <| ?_
          first | refine csP (t := 34) rfl (fun hq2 => ?_) (fun hq2 => ?_) | refine csN (t := 34) rfl (fun hq2 => ?_) (fun hq2 => ?_) | refine cs (t := 34) rfl (fun hq2 => ?_) (fun hq2 => ?_)
          ·
            refine gF rfl rfl <| gF rfl rfl <| gT rfl <| v0 (S0.pickT rfl rfl) rfl <| v0 (S0.pickT rfl rfl) rfl <| vE <| WP.condT rfl <| WP.seq <| WP.region <| v0 (S0.assign rfl) rfl <| vE <| WP.ret <| ?_
            refine Leaves.drop take0 ?_
            refine r1 rfl rfl ⟨?_, rfl⟩
            exact congrArg Value.bool (hbad (by rw [hb]; simp [not_name_rest, not_name_one, *]))
          ·
            refine gT rfl <| v0 (S0.move rfl) rfl <| gT rfl <| v0 (S0.not rfl) rfl <| gT rfl <| v0 (S0.pickF rfl rfl) rfl <| v0 (S0.pickT rfl rfl) rfl <| vE <| ?_
            first | refine WP.condP rfl (fun hq3 => ?_) (fun hq3 => ?_) | refine WP.condN rfl (fun hq3 => ?_) (fun hq3 => ?_) | refine WP.cond rfl (fun hq3 => ?_) (fun hq3 => ?_)
            ·
              refine WP.seq <| WP.region <| v0 (S0.assign rfl) rfl <| vE <| WP.ret <| ?_
              refine Leaves.drop take0 ?_
              refine r1 rfl rfl ⟨?_, rfl⟩
              exact congrArg Value.bool (hbad (by rw [hb]; simp [not_name_rest, not_name_one, *]))
            ·
              refine WP.skip <| WP.region <| v0 (S0.ari rfl rfl rfl (wrap_i64 (by omega))) rfl <| v0 (S0.move rfl) rfl <| vE <| ?_
              exact ⟨i + 1, (by first | exact ⟨hlt, below_at (p := fun j y => badAt (levels s) j y = false) hno hx (by show badAt (levels s) i (levels s)[i] = false; rw [hb]; simp [not_name_rest, not_name_one, *])⟩ | (dsimp only; exact ⟨hlt, below_at (p := fun j y => badAt (levels s) j y = false) hno hx (by show badAt (levels s) i (levels s)[i] = false; rw [hb]; simp [not_name_rest, not_name_one, *])⟩)), (by omega), ⟨⟨rfl, rfl, rfl, rfl, rfl, trivial⟩, rfl, rfl⟩, ⟨_, (take1 at0 take0)⟩⟩
        ·
          refine gF rfl rfl <| gF rfl rfl <| gF rfl rfl <| gF rfl rfl <| gF rfl rfl <| gF rfl rfl <| v0 (S0.pickF rfl rfl) rfl <| vE <| WP.condF rfl <| WP.skip <| WP.region <| v0 (S0.ari rfl rfl rfl (wrap_i64 (by omega))) rfl <| v0 (S0.move rfl) rfl <| vE <| ?_
          exact ⟨i + 1, (by first | exact ⟨hlt, below_at (p := fun j y => badAt (levels s) j y = false) hno hx (by show badAt (levels s) i (levels s)[i] = false; rw [hb]; simp [not_name_rest, not_name_one, *])⟩ | (dsimp only; exact ⟨hlt, below_at (p := fun j y => badAt (levels s) j y = false) hno hx (by show badAt (levels s) i (levels s)[i] = false; rw [hb]; simp [not_name_rest, not_name_one, *])⟩)), (by omega), ⟨⟨rfl, rfl, rfl, rfl, rfl, trivial⟩, rfl, rfl⟩, ⟨_, (take1 at0 take0)⟩⟩
      ·
        refine gF rfl rfl <| gF rfl rfl <| v0 (S0.pickF rfl rfl) rfl <| v0 (S0.move rfl) rfl <| gF rfl rfl <| gF rfl rfl <| gF rfl rfl <| gF rfl rfl <| gF rfl rfl <| gF rfl rfl <| v0 (S0.pickF rfl rfl) rfl <| vE <| WP.condF rfl <| WP.skip <| WP.region <| v0 (S0.ari rfl rfl rfl (wrap_i64 (by omega))) rfl <| v0 (S0.move rfl) rfl <| vE <| ?_
        exact ⟨i + 1, (by first | exact ⟨hlt, below_at (p := fun j y => badAt (levels s) j y = false) hno hx (by show badAt (levels s) i (levels s)[i] = false; rw [hb]; simp [not_name_rest, not_name_one, *])⟩ | (dsimp only; exact ⟨hlt, below_at (p := fun j y => badAt (levels s) j y = false) hno hx (by show badAt (levels s) i (levels s)[i] = false; rw [hb]; simp [not_name_rest, not_name_one, *])⟩)), (by omega), ⟨⟨rfl, rfl, rfl, rfl, rfl, trivial⟩, rfl, rfl⟩, ⟨_, (take1 at0 take0)⟩⟩
    · skip
      refine WP.exit <| WP.seq <| WP.region <| v0 (S0.assign rfl) rfl <| vE <| WP.ret <| ?_  -- ret
      refine Leaves.drop take0 ?_
      refine r1 rfl rfl ⟨?_, rfl⟩
      have : filtL (levels s) = true := (filtL_iff _).2 fun j y hj => hno j y (by have := (List.getElem?_eq_some_iff.1 hj).1; omega) hj
      simp [filtS, h8', this]

theorem drop_cons {α : Type} {l : List α} {i : Nat} {x : α} (h : l[i]? = some x) : l.drop i = x :: l.drop (i + 1) := by
  obtain ⟨hlt, e⟩ := List.getElem?_eq_some_iff.1 h
  rw [List.drop_eq_getElem_cons hlt, e]
theorem match_spec {f t : Str} (hf : f.length ≤ 1000000) (ht : t.length ≤ 1000000) : FN Tryd.prog 40 [sv f, sv t] [] (is (.bool (matchS f t)) []) := by
  refine FN.intro 53 [(0, sv f), (1, sv t)] Tryd.func40 rfl (enters Tryd.func40 (by kernel_rfl) rfl) Tryd.ntmps40 rfl rfl ?_
  refine WP.seq <| WP.region <| v0 (S0.assign rfl) rfl <| vE <| WP.seq <| WP.seq <| WP.region <| v0 (S0.move rfl) rfl <| ?_  -- op t10 := call F46{rivulet/topic.Filter}(t9)
  refine vcd (S1.callF rfl (filter_spec hf) take0) rfl ?_
  refine v0 (S0.not rfl) rfl <| v0 (S0.move rfl) rfl <| ?_  -- guard t12 (wants False) at t13 := move t1 [if #3=False]
  first | refine csP (t := 12) rfl (fun hF => ?_) (fun hF => ?_) | refine csN (t := 12) rfl (fun hF => ?_) (fun hF => ?_) | refine cs (t := 12) rfl (fun hF => ?_) (fun hF => ?_)
  · skip
    refine gF rfl rfl <| gF rfl rfl <| gF rfl rfl <| v0 (S0.pickT rfl rfl) rfl <| vE <| WP.condT rfl <| WP.seq <| WP.region <| v0 (S0.assign rfl) rfl <| vE <| WP.ret <| ?_  -- ret
    refine r1 rfl rfl ⟨?_, rfl⟩
    have : filtS f = false := by simpa using hF
    simp [matchS, this]
  · skip
    have hF : filtS f = true := by simpa using hF
    refine gT rfl <| v0 (S0.move rfl) rfl <| ?_  -- op t14 := call F56{rivulet/topic.Right}(t13) [if #3=False]
    refine gT rfl <| vcd (S1.callF rfl (right_spec ht) take0) rfl ?_
    refine gT rfl <| v0 (S0.not rfl) rfl <| v0 (S0.pickF rfl rfl) rfl <| vE <| ?_  -- cond
    first | refine WP.condP rfl (fun hR => ?_) (fun hR => ?_) | refine WP.condN rfl (fun hR => ?_) (fun hR => ?_) | refine WP.cond rfl (fun hR => ?_) (fun hR => ?_)
    · skip
      refine WP.seq <| WP.region <| v0 (S0.assign rfl) rfl <| vE <| WP.ret <| ?_  -- ret
      refine r1 rfl rfl ⟨?_, rfl⟩
      have : rightS t = false := by simpa using hR
      simp [matchS, this]
    · skip
      have hR : rightS t = true := by simpa using hR
      have em : matchS f t = matchL (levels f) (levels t) := by simp [matchS, hF, hR]
      have hfl := levels_len f
      have htl := levels_len t
      rw [em]
      refine WP.skip <| WP.seq <| WP.region <| v0 (S0.move rfl) rfl <| ?_  -- op t18 := call F51{rivulet/topic.Levels}(t17)
      refine vc (S1.callF rfl (levels_spec hf) take0) rfl ?_
      rintro _ _ ⟨rf, hsf, rfl⟩
      refine app ?_
      refine v0 (S0.move rfl) rfl <| ?_  -- op t20 := call F51{rivulet/topic.Levels}(t19)
      refine vc (S1.callF rfl (levels_spec ht) take0) rfl ?_
      rintro _ _ ⟨rt, hst, rfl⟩
      refine app ?_
      obtain ⟨af, cf, rfl, -, hrf⟩ := hsf.strsE
      obtain ⟨at', ct, rfl, -, hrt⟩ := hst.strsE
      refine v0 (S0.assign rfl) rfl <| v0 (S0.assign rfl) rfl <| vE <| WP.seq <| WP.seq <| WP.region <| v0 (S0.move rfl) rfl <| v0 (S0.lenSl rfl) rfl <| v0 (S0.move rfl) rfl <| vE <| WP.block <| ?_  -- Code.loop
      refine WP.loop (fun i : Nat => i ≤ (levels f).length ∧ i ≤ (levels t).length ∧ matchL (levels f) (levels t) = matchL ((levels f).drop i) ((levels t).drop i)) (fun i : Nat => [(5, .slice af (levels f).length cf), (6, .slice at' (levels t).length ct), (21, .slice af (levels f).length cf), (22, .int .i64 ((levels f).length : Int)), (23, .int .i64 (i : Int))]) (fun i : Nat => [rt, rf]) (fun i : Nat => (levels f).length - i) (0) (⟨by omega, by omega, rfl⟩) ⟨rfl, rfl, rfl, rfl, rfl, trivial⟩ ⟨_, (take1 at0 (take1 at0 take0))⟩ (fun i hinv => ?_) 
      obtain ⟨hi, hit, hinv⟩ := hinv
      refine WP.seq <| WP.region <| v0 (S0.cmp rfl rfl rfl) rfl <| vE <| WP.seq <| ?_  -- cond
      first | refine WP.condP rfl (fun h1 => ?_) (fun h1 => ?_) | refine WP.condN rfl (fun h1 => ?_) (fun h1 => ?_) | refine WP.cond rfl (fun h1 => ?_) (fun h1 => ?_)
      · skip
        have hlt : i < (levels f).length := by omega
        rcases hrf with ⟨e, -⟩ | ⟨b1, sp1, rfl, rfl, hsp1⟩
        · rw [e] at hlt; simp at hlt
        have hx : (levels f)[i]? = some (levels f)[i] := by simp [hlt]
        rw [drop_cons hx] at hinv
        generalize (levels f)[i] = x at hx hinv
        refine WP.skip <| WP.seq <| WP.block <| WP.seq <| WP.region <| v0 (S0.move rfl) rfl <| ?_  -- op t26 := indexAddr 22 t21 t23
        refine v0 (S0.index1 rfl rfl hlt) rfl <| ?_
        refine v0 (S0.load rfl (strs_get hx)) rfl <| ?_
        refine v0 (S0.assign rfl) rfl <| v0 (S0.assign rfl) rfl <| vE <| WP.block <| WP.seq <| WP.region <| v0 (S0.move rfl) rfl <| v0 (S0.cmpS rfl rfl rfl) rfl <| v0 (S0.assign rfl) rfl <| vE <| ?_  -- cond
        first | refine WP.condP rfl (fun h2 => ?_) (fun h2 => ?_) | refine WP.condN rfl (fun h2 => ?_) (fun h2 => ?_) | refine WP.cond rfl (fun h2 => ?_) (fun h2 => ?_)
        · skip
          refine WP.seq <| WP.region <| v0 (S0.assign rfl) rfl <| vE <| WP.ret <| ?_  -- ret
          refine Leaves.drop take0 ?_
          refine r1 rfl rfl ⟨?_, rfl⟩
          rw [hinv]; simp [matchL, h2]
        · skip
          refine WP.seq <| WP.region <| v0 (S0.move rfl) rfl <| v0 (S0.move rfl) rfl <| v0 (S0.lenSl rfl) rfl <| v0 (S0.cmp rfl rfl rfl) rfl <| v0 (S0.assign rfl) rfl <| vE <| ?_  -- cond
          first | refine WP.condP rfl (fun h3 => ?_) (fun h3 => ?_) | refine WP.condN rfl (fun h3 => ?_) (fun h3 => ?_) | refine WP.cond rfl (fun h3 => ?_) (fun h3 => ?_)
          · skip
            refine WP.seq <| WP.region <| v0 (S0.assign rfl) rfl <| vE <| WP.ret <| ?_  -- ret
            refine Leaves.drop take0 ?_
            refine r1 rfl rfl ⟨?_, rfl⟩
            have hd : (levels t).drop i = [] := List.drop_eq_nil_of_le (by omega)
            rw [hinv, hd]; simp [matchL, h2]
          · skip
            have hlt2 : i < (levels t).length := by omega
            rcases hrt with ⟨e, -⟩ | ⟨b2, sp2, rfl, rfl, hsp2⟩
            · rw [e] at hlt2; simp at hlt2
            have hy : (levels t)[i]? = some (levels t)[i] := by simp [hlt2]
            rw [drop_cons hy] at hinv
            generalize (levels t)[i] = y at hy hinv
            simp only [matchL, h2, decide_false, Bool.false_or] at hinv
            refine WP.seq <| WP.region <| v0 (S0.move rfl) rfl <| v0 (S0.cmpS rfl rfl rfl) rfl <| v0 (S0.move rfl) rfl <| ?_  -- guard t39 (wants True) at t40 := move t8 [if #2=True]
            first | refine csP (t := 39) rfl (fun h4 => ?_) (fun h4 => ?_) | refine csN (t := 39) rfl (fun h4 => ?_) (fun h4 => ?_) | refine cs (t := 39) rfl (fun h4 => ?_) (fun h4 => ?_)
            · skip
              refine gT rfl <| v0 (S0.move rfl) rfl <| gT rfl <| v0 (S0.move rfl) rfl <| gT rfl <| v0 (S0.move rfl) rfl <| ?_  -- op t43 := indexAddr 22 t41 t42 [if #2=True]
              refine gT rfl <| v0 (S0.index1 rfl rfl hlt2) rfl <| ?_
              refine gT rfl <| v0 (S0.load rfl (strs_get hy)) rfl <| ?_
              refine gT rfl <| v0 (S0.cmpS rfl rfl rfl) rfl <| v0 (S0.pickT rfl rfl) rfl <| v0 (S0.assign rfl) rfl <| vE <| ?_  -- cond
              first | refine WP.condP rfl (fun h5 => ?_) (fun h5 => ?_) | refine WP.condN rfl (fun h5 => ?_) (fun h5 => ?_) | refine WP.cond rfl (fun h5 => ?_) (fun h5 => ?_)
              · skip
                refine WP.seq <| WP.region <| v0 (S0.assign rfl) rfl <| vE <| WP.ret <| ?_  -- ret
                refine Leaves.drop take0 ?_
                refine r1 rfl rfl ⟨?_, rfl⟩
                rw [hinv]; simp [h4, h5]
              · skip
                refine WP.skip <| WP.region <| v0 (S0.ari rfl rfl rfl (wrap_i64 (by omega))) rfl <| v0 (S0.move rfl) rfl <| vE <| ?_  -- roundend
                exact ⟨i + 1, (by first | exact ⟨hlt, hlt2, by rw [hinv]; simp [h5]⟩ | (dsimp only; exact ⟨hlt, hlt2, by rw [hinv]; simp [h5]⟩)), (by omega), ⟨⟨rfl, rfl, rfl, rfl, rfl, trivial⟩, rfl, rfl⟩, ⟨_, (take1 at0 (take1 at0 take0))⟩⟩
            · skip
              refine gF rfl rfl <| gF rfl rfl <| gF rfl rfl <| gF rfl rfl <| gF rfl rfl <| gF rfl rfl <| v0 (S0.pickF rfl rfl) rfl <| v0 (S0.assign rfl) rfl <| vE <| WP.condF rfl <| WP.skip <| WP.region <| v0 (S0.ari rfl rfl rfl (wrap_i64 (by omega))) rfl <| v0 (S0.move rfl) rfl <| vE <| ?_  -- roundend
              exact ⟨i + 1, (by first | exact ⟨hlt, hlt2, by rw [hinv]; simp [h4]⟩ | (dsimp only; exact ⟨hlt, hlt2, by rw [hinv]; simp [h4]⟩)), (by omega), ⟨⟨rfl, rfl, rfl, rfl, rfl, trivial⟩, rfl, rfl⟩, ⟨_, (take1 at0 (take1 at0 take0))⟩⟩
      · skip
        have e : i = (levels f).length := by omega
        refine WP.exit <| WP.seq <| WP.region <| v0 (S0.move rfl) rfl <| v0 (S0.lenSl rfl) rfl <| v0 (S0.move rfl) rfl <| v0 (S0.lenSl rfl) rfl <| v0 (S0.cmp rfl rfl rfl) rfl <| v0 (S0.assign rfl) rfl <| vE <| WP.ret <| ?_  -- ret
        refine Leaves.drop take0 ?_
        refine r1 rfl rfl ⟨?_, rfl⟩
        have hd1 : (levels f).drop i = [] := List.drop_eq_nil_of_le (by omega)
        rw [hinv, hd1]
        have h2 := List.length_drop (i := i) (l := levels t)
        cases hd : (levels t).drop i with
        | nil => rw [hd] at h2; simp at h2; simp [matchL]; omega
        | cons y r => rw [hd] at h2; simp at h2; simp [matchL]; omega
end Go.Proofs.YtnoicafjkgbokaaDoor
