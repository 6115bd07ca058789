import Derived.Test.YtanecnnfpdhadaaGreatDoorK3
import Derived.Test.YtanecnnfpdhadaaGreatDoorK2
import Derived.Lib.AppendZerosOnto
import Derived.Lib.Overlaps
import Derived.Test.YtanecnnfpdhadaaGreatDoorK1
import Derived.Test.YtanecnnfpdhadaaGreatDoorShelf
set_option linter.unusedSimpArgs false
set_option linter.unusedVariables false
set_option linter.unnecessarySimpa false
/- Topic -/
namespace Go.Proofs.YtanecnnfpdhadaaGreatDoor
open Go

theorem below_at {α : Type} {R : List α} {p : Nat → α → Prop} {i : Nat} {x : α} (h : ∀ j y, j < i → R[j]? = some y → p j y) (hx : R[i]? = some x) (hp : p i x) : ∀ j y, j < i + 1 → R[j]? = some y → p j y := fun j y hj hy => by
  by_cases e : j = i
  · subst e; rw [hx] at hy; cases hy; exact hp
  · exact h j y (by omega) hy
def idxP {α : Type} (p : α → Bool) (l : List α) : Int := match l.findIdx? p with | some i => (i : Int) | none => -1
theorem idxP_at {α : Type} {p : α → Bool} {l : List α} {i : Nat} {x : α} (h : ∀ j y, j < i → l[j]? = some y → p y = false) (hx : l[i]? = some x) (hp : p x = true) : idxP p l = i := by
  have : l.findIdx? p = some i := by
    rw [List.findIdx?_eq_some_iff_getElem]
    obtain ⟨hlt, e⟩ := List.getElem?_eq_some_iff.1 hx
    refine ⟨hlt, by rw [e]; exact hp, fun j hj => ?_⟩
    have := h j l[j] hj (by simp)
    simp [this]
  simp [idxP, this]
theorem idxP_none {α : Type} {p : α → Bool} {l : List α} (h : ∀ j y, j < l.length → l[j]? = some y → p y = false) : idxP p l = -1 := by
  have : l.findIdx? p = none := by
    rw [List.findIdx?_eq_none_iff]
    intro x hx
    obtain ⟨j, hj, e⟩ := List.getElem_of_mem hx
    exact h j x hj (by rw [List.getElem?_eq_getElem hj, e])
  simp [idxP, this]
theorem idxP_any {α : Type} (p : α → Bool) (l : List α) : decide (0 ≤ idxP p l) = l.any p := by
  unfold idxP
  cases h : l.findIdx? p with
  | none =>
    rw [List.findIdx?_eq_none_iff] at h
    have : l.any p = false := by rw [List.any_eq_false]; intro x hx; simp [h x hx]
    rw [this]; rfl
  | some i =>
    rw [List.findIdx?_eq_some_iff_getElem] at h
    obtain ⟨hlt, hp, -⟩ := h
    have : l.any p = true := List.any_eq_true.2 ⟨_, List.getElem_mem hlt, hp⟩
    rw [this]; simp
theorem FN.nil1 {P : Program} {g : Nat} {args : List Value} {c : List Blk} {v : Value} (H : FN P g args [c, []] (is v [c, []])) : FN P g args [c] (is v [c]) :=
  ⟨H.enters, fun E R w st => (H.run E R w (by simpa using st)).mono fun _ _ ⟨v', h', e, ⟨e1, e2⟩, s⟩ => ⟨v, [c], by rw [e, e1], ⟨rfl, rfl⟩, by subst e2; simpa using s⟩⟩
theorem FN.nil0 {P : Program} {g : Nat} {args : List Value} {v : Value} (H : FN P g args [] (is v [])) : FN P g args [[]] (is v [[]]) :=
  ⟨H.enters, fun E R w st => (H.run E R w (by simpa using st)).mono fun _ _ ⟨v', h', e, ⟨e1, e2⟩, s⟩ => ⟨v, [[]], by rw [e, e1], ⟨rfl, rfl⟩, by subst e2; simpa using s⟩⟩

theorem idxFuncS {g : Nat} {caps : List Value} {cm : List Blk} {p : Str → Bool} {l : List Str} {v : Value} {row : List Blk} (hs : IsSl 9 1 v (strs l) row) (hl : l.length ≤ 1000000) (hc : ∀ x ∈ l, FN Tryz.prog g (sv x :: caps) [cm] (is (.bool (p x)) [cm])) :
    FN Tryz.prog 113 [v, .func (.func g) ⟨[]⟩ ⟨caps⟩] [row, cm] (is (.int .i64 (idxP p l)) [row, cm]) := by
  obtain ⟨a, cap, rfl, hcap, hrow⟩ := hs.strsE
  refine FN.intro 19 [(0, .slice a l.length cap), (1, .func (.func g) ⟨[]⟩ ⟨caps⟩)] Tryz.func113 rfl (enters Tryz.func113 (by kernel_rfl) rfl) Tryz.ntmps113 rfl rfl ?_
  refine WP.seq <| WP.region <| v0 (S0.assign rfl) rfl <| vE <| WP.seq <| WP.seq <| WP.region <| v0 (S0.move rfl) rfl <| v0 (S0.lenSl rfl) rfl <| v0 (S0.move rfl) rfl <| vE <| WP.block <| ?_  -- Code.loop
  refine WP.loop (fun i : Nat => i ≤ l.length ∧ ∀ j y, j < i → l[j]? = some y → p y = false) (fun i : Nat => [(0, .slice a l.length cap), (1, .func (.func g) ⟨[]⟩ ⟨caps⟩), (7, .int .i64 (l.length : Int)), (8, .int .i64 (i : Int))]) (fun i : Nat => [row, cm]) (fun i : Nat => l.length - i) (0) (⟨by omega, fun j y hj => by omega⟩) ⟨rfl, rfl, rfl, rfl, trivial⟩ ⟨_, (take1 at0 (take1 at0 take0))⟩ (fun i hinv => ?_) 
  obtain ⟨hi, hno⟩ := hinv
  refine WP.seq <| WP.region <| v0 (S0.cmp rfl rfl rfl) rfl <| vE <| WP.seq <| ?_  -- cond
  first | refine WP.condP rfl (fun h1 => ?_) (fun h1 => ?_) | refine WP.condN rfl (fun h1 => ?_) (fun h1 => ?_) | refine WP.cond rfl (fun h1 => ?_) (fun h1 => ?_)
  · skip
    have hlt : i < l.length := by omega
    rcases hrow with ⟨rfl, -⟩ | ⟨b1, sp1, rfl, rfl, hsp1⟩
    · simp at hlt
    have hx : l[i]? = some l[i] := by simp [hlt]
    refine WP.skip <| WP.seq <| WP.block <| WP.seq <| WP.region <| v0 (S0.move rfl) rfl <| v0 (S0.assign rfl) rfl <| vE <| WP.seq <| WP.region <| v0 (S0.move rfl) rfl <| v0 (S0.move rfl) rfl <| v0 (S0.move rfl) rfl <| ?_  -- op t14 := indexAddr 51 t12 t13
    refine v0 (S0.index1 rfl rfl hlt) rfl <| ?_
    refine v0 (S0.load rfl (strs_get hx)) rfl <| ?_
    -- (nothing to walk: op t16 := call t11(t15))
    refine vcd (S1.callC rfl rfl rfl (hc l[i] (List.getElem_mem hlt)) (take1 (atS at0) take0)) rfl ?_
    refine vE <| ?_  -- cond
    first | refine WP.condP rfl (fun h2 => ?_) (fun h2 => ?_) | refine WP.condN rfl (fun h2 => ?_) (fun h2 => ?_) | refine WP.cond rfl (fun h2 => ?_) (fun h2 => ?_)
    · skip
      refine WP.seq <| WP.region <| v0 (S0.move rfl) rfl <| v0 (S0.assign rfl) rfl <| vE <| WP.ret <| ?_  -- ret
      refine Leaves.drop (take1 (atS at0) (take1 at0 take0)) ?_
      refine r1 rfl rfl ⟨?_, rfl⟩
      rw [idxP_at hno hx h2]
    · skip
      refine WP.skip <| WP.region <| v0 (S0.ari rfl rfl rfl (wrap_i64 (by omega))) rfl <| v0 (S0.move rfl) rfl <| vE <| ?_  -- roundend
      exact ⟨i + 1, (by first | exact ⟨hlt, below_succ (p := fun y => p y = false) hno hx h2⟩ | (dsimp only; exact ⟨hlt, below_succ (p := fun y => p y = false) hno hx h2⟩)), (by omega), ⟨⟨rfl, rfl, rfl, rfl, trivial⟩, rfl, rfl⟩, ⟨_, (take1 (atS at0) (take1 at0 take0))⟩⟩
  · skip
    refine WP.exit <| WP.seq <| WP.region <| v0 (S0.assign rfl) rfl <| vE <| WP.ret <| ?_  -- ret
    refine r1 rfl rfl ⟨?_, rfl⟩
    rw [idxP_none fun j y hj => hno j y (by omega)]
theorem anyFuncS {g : Nat} {caps : List Value} {cm : List Blk} {p : Str → Bool} {l : List Str} {v : Value} {row : List Blk} (hs : IsSl 9 1 v (strs l) row) (hl : l.length ≤ 1000000) (hc : ∀ x ∈ l, FN Tryz.prog g (sv x :: caps) [cm] (is (.bool (p x)) [cm])) :
    FN Tryz.prog 97 [v, .func (.func g) ⟨[]⟩ ⟨caps⟩] [row, cm] (is (.bool (l.any p)) [row, cm]) := by
  obtain ⟨a, cap, rfl, hcap, hrow⟩ := hs.strsE
  refine FN.intro 9 [(0, .slice a l.length cap), (1, .func (.func g) ⟨[]⟩ ⟨caps⟩)] Tryz.func97 rfl (enters Tryz.func97 (by kernel_rfl) rfl) Tryz.ntmps97 rfl rfl ?_
  refine WP.seq <| WP.region <| v0 (S0.assign rfl) rfl <| vE <| WP.seq <| WP.region <| v0 (S0.move rfl) rfl <| v0 (S0.move rfl) rfl <| ?_  -- op t7 := call F113{slices.IndexFunc[[]string,string]}(t5, t6)
  refine vcd (S1.callF rfl (idxFuncS hs hl hc) (take1 at0 (take1 at0 take0))) rfl ?_
  refine v0 (S0.cmp rfl rfl rfl) rfl <| v0 (S0.assign rfl) rfl <| vE <| WP.ret <| ?_  -- ret
  refine r1 rfl rfl ⟨?_, rfl⟩
  rw [idxP_any]

/-! names -/
theorem okN_iff {n : Int} : okN n = true ↔ (((97 ≤ n ∧ n ≤ 122) ∨ (48 ≤ n ∧ n ≤ 57)) ∨ n = 45) ∨ n = 95 := by
  simp only [okN, Bool.or_eq_true, Bool.and_eq_true, decide_eq_true_eq]
theorem letter_spec (n : Int) : FN Tryz.prog 93 [.int .i32 n] [] (is (.bool (okN n)) []) := by
  refine FN.intro 25 [(0, .int .i32 n)] Tryz.func93 rfl (enters Tryz.func93 (by kernel_rfl) rfl) Tryz.ntmps93 rfl rfl ?_
  refine WP.seq <| WP.region <| v0 (S0.assign rfl) rfl <| vE <| WP.seq <| WP.region <| v0 (S0.move rfl) rfl <| v0 (S0.cmp rfl rfl rfl) rfl <| v0 (S0.move rfl) rfl <| ?_
  first | refine csP (t := 5) rfl (fun hq0 => ?_) (fun hq0 => ?_) | refine csN (t := 5) rfl (fun hq0 => ?_) (fun hq0 => ?_) | refine cs (t := 5) rfl (fun hq0 => ?_) (fun hq0 => ?_)
  ·
    refine gT rfl <| v0 (S0.move rfl) rfl <| gT rfl <| v0 (S0.cmp rfl rfl rfl) rfl <| v0 (S0.pickT rfl rfl) rfl <| v0 (S0.move rfl) rfl <| ?_
    first | refine csP (t := 9) rfl (fun hq1 => ?_) (fun hq1 => ?_) | refine csN (t := 9) rfl (fun hq1 => ?_) (fun hq1 => ?_) | refine cs (t := 9) rfl (fun hq1 => ?_) (fun hq1 => ?_)
    ·
      refine gF rfl rfl <| gF rfl rfl <| gF rfl rfl <| gF rfl rfl <| gF rfl rfl <| gF rfl rfl <| v0 (S0.pickT rfl rfl) rfl <| v0 (S0.move rfl) rfl <| gF rfl rfl <| gF rfl rfl <| v0 (S0.pickT rfl rfl) rfl <| v0 (S0.move rfl) rfl <| gF rfl rfl <| gF rfl rfl <| v0 (S0.pickT rfl rfl) rfl <| v0 (S0.assign rfl) rfl <| vE <| WP.ret <| ?_
      refine r1 rfl rfl ⟨?_, rfl⟩
      exact congrArg Value.bool (Bool.eq_iff_iff.2 (by simp only [okN_iff, decide_eq_true_eq, true_iff, Bool.false_eq_true, false_iff]; omega))
    ·
      refine gT rfl <| v0 (S0.move rfl) rfl <| gT rfl <| v0 (S0.cmp rfl rfl rfl) rfl <| gT rfl <| v0 (S0.move rfl) rfl <| ?_
      first | refine csP (t := 12) rfl (fun hq2 => ?_) (fun hq2 => ?_) | refine csN (t := 12) rfl (fun hq2 => ?_) (fun hq2 => ?_) | refine cs (t := 12) rfl (fun hq2 => ?_) (fun hq2 => ?_)
      ·
        refine gT rfl <| v0 (S0.move rfl) rfl <| gT rfl <| v0 (S0.cmp rfl rfl rfl) rfl <| gT rfl <| v0 (S0.pickT rfl rfl) rfl <| v0 (S0.pickF rfl rfl) rfl <| v0 (S0.move rfl) rfl <| ?_
        first | refine csP (t := 17) rfl (fun hq3 => ?_) (fun hq3 => ?_) | refine csN (t := 17) rfl (fun hq3 => ?_) (fun hq3 => ?_) | refine cs (t := 17) rfl (fun hq3 => ?_) (fun hq3 => ?_)
        ·
          refine gF rfl rfl <| gF rfl rfl <| v0 (S0.pickT rfl rfl) rfl <| v0 (S0.move rfl) rfl <| gF rfl rfl <| gF rfl rfl <| v0 (S0.pickT rfl rfl) rfl <| v0 (S0.assign rfl) rfl <| vE <| WP.ret <| ?_
          refine r1 rfl rfl ⟨?_, rfl⟩
          exact congrArg Value.bool (Bool.eq_iff_iff.2 (by simp only [okN_iff, decide_eq_true_eq, true_iff, Bool.false_eq_true, false_iff]; omega))
        ·
          refine gT rfl <| v0 (S0.move rfl) rfl <| gT rfl <| v0 (S0.cmp rfl rfl rfl) rfl <| v0 (S0.pickF rfl rfl) rfl <| v0 (S0.move rfl) rfl <| ?_
          first | refine csP (t := 21) rfl (fun hq4 => ?_) (fun hq4 => ?_) | refine csN (t := 21) rfl (fun hq4 => ?_) (fun hq4 => ?_) | refine cs (t := 21) rfl (fun hq4 => ?_) (fun hq4 => ?_)
          ·
            refine gF rfl rfl <| gF rfl rfl <| v0 (S0.pickT rfl rfl) rfl <| v0 (S0.assign rfl) rfl <| vE <| WP.ret <| ?_
            refine r1 rfl rfl ⟨?_, rfl⟩
            exact congrArg Value.bool (Bool.eq_iff_iff.2 (by simp only [okN_iff, decide_eq_true_eq, true_iff, Bool.false_eq_true, false_iff]; omega))
          ·
            refine gT rfl <| v0 (S0.move rfl) rfl <| gT rfl <| v0 (S0.cmp rfl rfl rfl) rfl <| v0 (S0.pickF rfl rfl) rfl <| v0 (S0.assign rfl) rfl <| vE <| WP.ret <| ?_
            refine r1 rfl rfl ⟨?_, rfl⟩
            exact congrArg Value.bool (Bool.eq_iff_iff.2 (by simp only [okN_iff, decide_eq_true_eq, true_iff, Bool.false_eq_true, false_iff]; omega))
      ·
        refine gF rfl rfl <| gF rfl rfl <| gT rfl <| v0 (S0.pickF rfl rfl) rfl <| v0 (S0.pickF rfl rfl) rfl <| v0 (S0.move rfl) rfl <| gT rfl <| v0 (S0.move rfl) rfl <| gT rfl <| v0 (S0.cmp rfl rfl rfl) rfl <| v0 (S0.pickF rfl rfl) rfl <| v0 (S0.move rfl) rfl <| ?_
        first | refine csP (t := 21) rfl (fun hq3 => ?_) (fun hq3 => ?_) | refine csN (t := 21) rfl (fun hq3 => ?_) (fun hq3 => ?_) | refine cs (t := 21) rfl (fun hq3 => ?_) (fun hq3 => ?_)
        ·
          refine gF rfl rfl <| gF rfl rfl <| v0 (S0.pickT rfl rfl) rfl <| v0 (S0.assign rfl) rfl <| vE <| WP.ret <| ?_
          refine r1 rfl rfl ⟨?_, rfl⟩
          exact congrArg Value.bool (Bool.eq_iff_iff.2 (by simp only [okN_iff, decide_eq_true_eq, true_iff, Bool.false_eq_true, false_iff]; omega))
        ·
          refine gT rfl <| v0 (S0.move rfl) rfl <| gT rfl <| v0 (S0.cmp rfl rfl rfl) rfl <| v0 (S0.pickF rfl rfl) rfl <| v0 (S0.assign rfl) rfl <| vE <| WP.ret <| ?_
          refine r1 rfl rfl ⟨?_, rfl⟩
          exact congrArg Value.bool (Bool.eq_iff_iff.2 (by simp only [okN_iff, decide_eq_true_eq, true_iff, Bool.false_eq_true, false_iff]; omega))
  ·
    refine gF rfl rfl <| gF rfl rfl <| v0 (S0.pickF rfl rfl) rfl <| v0 (S0.move rfl) rfl <| gT rfl <| v0 (S0.move rfl) rfl <| gT rfl <| v0 (S0.cmp rfl rfl rfl) rfl <| gT rfl <| v0 (S0.move rfl) rfl <| ?_
    first | refine csP (t := 12) rfl (fun hq1 => ?_) (fun hq1 => ?_) | refine csN (t := 12) rfl (fun hq1 => ?_) (fun hq1 => ?_) | refine cs (t := 12) rfl (fun hq1 => ?_) (fun hq1 => ?_)
    ·
      refine gT rfl <| v0 (S0.move rfl) rfl <| gT rfl <| v0 (S0.cmp rfl rfl rfl) rfl <| gT rfl <| v0 (S0.pickT rfl rfl) rfl <| v0 (S0.pickF rfl rfl) rfl <| v0 (S0.move rfl) rfl <| ?_
      first | refine csP (t := 17) rfl (fun hq2 => ?_) (fun hq2 => ?_) | refine csN (t := 17) rfl (fun hq2 => ?_) (fun hq2 => ?_) | refine cs (t := 17) rfl (fun hq2 => ?_) (fun hq2 => ?_)
      ·
        refine gF rfl rfl <| gF rfl rfl <| v0 (S0.pickT rfl rfl) rfl <| v0 (S0.move rfl) rfl <| gF rfl rfl <| gF rfl rfl <| v0 (S0.pickT rfl rfl) rfl <| v0 (S0.assign rfl) rfl <| vE <| WP.ret <| ?_
        refine r1 rfl rfl ⟨?_, rfl⟩
        exact congrArg Value.bool (Bool.eq_iff_iff.2 (by simp only [okN_iff, decide_eq_true_eq, true_iff, Bool.false_eq_true, false_iff]; omega))
      ·
        refine gT rfl <| v0 (S0.move rfl) rfl <| gT rfl <| v0 (S0.cmp rfl rfl rfl) rfl <| v0 (S0.pickF rfl rfl) rfl <| v0 (S0.move rfl) rfl <| ?_
        first | refine csP (t := 21) rfl (fun hq3 => ?_) (fun hq3 => ?_) | refine csN (t := 21) rfl (fun hq3 => ?_) (fun hq3 => ?_) | refine cs (t := 21) rfl (fun hq3 => ?_) (fun hq3 => ?_)
        ·
          refine gF rfl rfl <| gF rfl rfl <| v0 (S0.pickT rfl rfl) rfl <| v0 (S0.assign rfl) rfl <| vE <| WP.ret <| ?_
          refine r1 rfl rfl ⟨?_, rfl⟩
          exact congrArg Value.bool (Bool.eq_iff_iff.2 (by simp only [okN_iff, decide_eq_true_eq, true_iff, Bool.false_eq_true, false_iff]; omega))
        ·
          refine gT rfl <| v0 (S0.move rfl) rfl <| gT rfl <| v0 (S0.cmp rfl rfl rfl) rfl <| v0 (S0.pickF rfl rfl) rfl <| v0 (S0.assign rfl) rfl <| vE <| WP.ret <| ?_
          refine r1 rfl rfl ⟨?_, rfl⟩
          exact congrArg Value.bool (Bool.eq_iff_iff.2 (by simp only [okN_iff, decide_eq_true_eq, true_iff, Bool.false_eq_true, false_iff]; omega))
    ·
      refine gF rfl rfl <| gF rfl rfl <| gT rfl <| v0 (S0.pickF rfl rfl) rfl <| v0 (S0.pickF rfl rfl) rfl <| v0 (S0.move rfl) rfl <| gT rfl <| v0 (S0.move rfl) rfl <| gT rfl <| v0 (S0.cmp rfl rfl rfl) rfl <| v0 (S0.pickF rfl rfl) rfl <| v0 (S0.move rfl) rfl <| ?_
      first | refine csP (t := 21) rfl (fun hq2 => ?_) (fun hq2 => ?_) | refine csN (t := 21) rfl (fun hq2 => ?_) (fun hq2 => ?_) | refine cs (t := 21) rfl (fun hq2 => ?_) (fun hq2 => ?_)
      ·
        refine gF rfl rfl <| gF rfl rfl <| v0 (S0.pickT rfl rfl) rfl <| v0 (S0.assign rfl) rfl <| vE <| WP.ret <| ?_
        refine r1 rfl rfl ⟨?_, rfl⟩
        exact congrArg Value.bool (Bool.eq_iff_iff.2 (by simp only [okN_iff, decide_eq_true_eq, true_iff, Bool.false_eq_true, false_iff]; omega))
      ·
        refine gT rfl <| v0 (S0.move rfl) rfl <| gT rfl <| v0 (S0.cmp rfl rfl rfl) rfl <| v0 (S0.pickF rfl rfl) rfl <| v0 (S0.assign rfl) rfl <| vE <| WP.ret <| ?_
        refine r1 rfl rfl ⟨?_, rfl⟩
        exact congrArg Value.bool (Bool.eq_iff_iff.2 (by simp only [okN_iff, decide_eq_true_eq, true_iff, Bool.false_eq_true, false_iff]; omega))
theorem all_take_succ {s : Str} {q : UInt8 → Bool} {i : Nat} {c : UInt8} (h : (s.take i).all q = true) (hx : s[i]? = some c) (hc : q c = true) : (s.take (i + 1)).all q = true := by
  rw [List.take_add_one, hx, List.all_append, h]; simp [hc]
theorem not_all {s : Str} {q : UInt8 → Bool} {i : Nat} {c : UInt8} (hx : s[i]? = some c) (hc : q c = false) : s.all q = false := by
  rw [List.all_eq_false]
  obtain ⟨hlt, e⟩ := List.getElem?_eq_some_iff.1 hx
  exact ⟨c, by rw [← e]; exact List.getElem_mem hlt, by simp [hc]⟩
theorem name_spec (s : Str) : FN Tryz.prog 69 [sv s] [] (is (.bool (nameS s)) []) := by
  refine FN.intro 22 [(0, sv s)] Tryz.func69 rfl (enters Tryz.func69 (by kernel_rfl) rfl) Tryz.ntmps69 rfl rfl ?_
  refine WP.seq <| WP.region <| v0 (S0.assign rfl) rfl <| vE <| WP.seq <| WP.region <| v0 (S0.assign rfl) rfl <| vE <| WP.seq <| WP.seq <| WP.region <| v0 (S0.move rfl) rfl <| ?_  -- op t7 := range 9 t6
  refine vn (S1.rangeSt rfl) rfl fun b7 => ?_
  refine vE <| WP.block <| ?_  -- Code.loop
  refine WP.loop (fun i : Nat => i ≤ s.length ∧ (s.take i).all (fun c => okN c.toNat) = true) (fun i : Nat => [(0, sv s), (3, .func (.func 93) ⟨[]⟩ ⟨[]⟩), (7, .pointer (some ⟨b7, 0, none⟩))]) (fun i : Nat => [[(b7, .stringIter ⟨⟨s⟩⟩ i)]]) (fun i : Nat => s.length - i) (0) (⟨by omega, by simp⟩) ⟨rfl, rfl, rfl, trivial⟩ ⟨_, (take1 at0 take0)⟩ (fun i hinv => ?_) 
  obtain ⟨hi, hall⟩ := hinv
  refine WP.seq <| WP.region <| ?_  -- op t8 := next t7 true
  skip
  by_cases hlt : i < s.length
  · skip
    have hx : s[i]? = some s[i] := by simp [hlt]
    refine v1 (S1.nextSt rfl hlt) rfl <| ?_
    refine v0 (S0.extract rfl rfl) rfl <| vE <| WP.seq <| ?_  -- cond
    refine WP.condTh rfl (rfl) ?_
    skip
    by_cases hc : s[i].toNat < 128
    · skip
      rw [decode_ascii hx hc]
      refine WP.skip <| WP.block <| WP.seq <| WP.region <| v0 (S0.extract rfl rfl) rfl <| v0 (S0.assign rfl) rfl <| vE <| WP.seq <| WP.region <| v0 (S0.move rfl) rfl <| v0 (S0.move rfl) rfl <| ?_  -- op t13 := call t11(t12)
      refine vcd (S1.callC rfl rfl rfl (letter_spec s[i].toNat) take0) rfl ?_
      refine v0 (S0.not rfl) rfl <| vE <| ?_  -- cond
      first | refine WP.condP rfl (fun hok => ?_) (fun hok => ?_) | refine WP.condN rfl (fun hok => ?_) (fun hok => ?_) | refine WP.cond rfl (fun hok => ?_) (fun hok => ?_)
      · skip
        refine WP.seq <| WP.region <| v0 (S0.assign rfl) rfl <| vE <| WP.ret <| ?_  -- ret
        refine Leaves.drop take0 ?_
        refine r1 rfl rfl ⟨?_, rfl⟩
        have : s.all (fun c => okN c.toNat) = false := not_all hx (by simpa using hok)
        simp [nameS, this]
      · skip
        refine WP.skip <| ?_  -- roundend
        exact ⟨i + 1, (by first | exact ⟨hlt, all_take_succ hall hx (by simpa using hok)⟩ | (dsimp only; exact ⟨hlt, all_take_succ hall hx (by simpa using hok)⟩)), (by omega), ⟨⟨rfl, rfl, rfl, trivial⟩, rfl, rfl⟩, ⟨_, (take1 at0 take0)⟩⟩
    · skip
      obtain ⟨hd, -⟩ := decode_other hx hc
      refine WP.skip <| WP.block <| WP.seq <| WP.region <| v0 (S0.extract rfl rfl) rfl <| v0 (S0.assign rfl) rfl <| vE <| WP.seq <| WP.region <| v0 (S0.move rfl) rfl <| v0 (S0.move rfl) rfl <| ?_  -- op t13 := call t11(t12)
      refine vcd (S1.callC rfl rfl rfl (letter_spec ((Utf8.decode ⟨⟨s⟩⟩ i).1 : Int)) take0) rfl ?_
      rw [okN_ge (by omega)]
      refine v0 (S0.not rfl) rfl <| vE <| ?_  -- cond
      refine WP.condTh rfl (rfl) ?_
      refine WP.seq <| WP.region <| v0 (S0.assign rfl) rfl <| vE <| WP.ret <| ?_  -- ret
      refine Leaves.drop take0 ?_
      refine r1 rfl rfl ⟨?_, rfl⟩
      have : s.all (fun c => okN c.toNat) = false := not_all hx (okN_ge (by omega))
      simp [nameS, this]
  · skip
    refine v1 (S1.nextStEnd rfl hlt) rfl <| ?_
    refine v0 (S0.extract rfl rfl) rfl <| vE <| WP.seq <| ?_  -- cond
    refine WP.condFh rfl (rfl) ?_
    rw [List.take_of_length_le (by omega)] at hall
    refine WP.exit <| WP.seq <| WP.region <| v0 (S0.move rfl) rfl <| v0 (S0.cmpS rfl rfl rfl) rfl <| v0 (S0.move rfl) rfl <| ?_
    first | refine csP (t := 17) rfl (fun hq0 => ?_) (fun hq0 => ?_) | refine csN (t := 17) rfl (fun hq0 => ?_) (fun hq0 => ?_) | refine cs (t := 17) rfl (fun hq0 => ?_) (fun hq0 => ?_)
    ·
      refine gT rfl <| v0 (S0.move rfl) rfl <| gT rfl <| v0 (S0.lenSt rfl) rfl <| gT rfl <| v0 (S0.cmp rfl rfl rfl) rfl <| v0 (S0.pickT rfl rfl) rfl <| v0 (S0.assign rfl) rfl <| vE <| WP.ret <| ?_
      refine Leaves.drop take0 ?_
      refine r1 rfl rfl ⟨?_, rfl⟩
      exact congrArg Value.bool (by simp [nameS, hall, *] <;> omega)
    ·
      refine gF rfl rfl <| gF rfl rfl <| gF rfl rfl <| v0 (S0.pickF rfl rfl) rfl <| v0 (S0.assign rfl) rfl <| vE <| WP.ret <| ?_
      refine Leaves.drop take0 ?_
      refine r1 rfl rfl ⟨?_, rfl⟩
      exact congrArg Value.bool (by simp [nameS, hall, *] <;> omega)
theorem rightfn_spec (s : Str) : FN Tryz.prog 98 [sv s] [] (is (.bool (!nameS s)) []) := by
  refine FN.intro 6 [(0, sv s)] Tryz.func98 rfl (enters Tryz.func98 (by kernel_rfl) rfl) Tryz.ntmps98 rfl rfl ?_
  refine WP.seq <| WP.region <| v0 (S0.assign rfl) rfl <| vE <| WP.seq <| WP.region <| v0 (S0.move rfl) rfl <| ?_  -- op t4 := call F69{rivulet/topic.name}(t3)
  refine vcd (S1.callF rfl (name_spec s) take0) rfl ?_
  refine v0 (S0.not rfl) rfl <| v0 (S0.assign rfl) rfl <| vE <| WP.ret <| ?_  -- ret
  refine r1 rfl rfl ?_
  exact ⟨rfl, rfl⟩
theorem any_not (l : List Str) : (!l.any fun x => !nameS x) = l.all nameS := by
  induction l with
  | nil => rfl
  | cons x l ih => simp only [List.any_cons, List.all_cons, Bool.not_or, Bool.not_not, ih]
theorem right_spec {s : Str} (hl : s.length ≤ 1000000) : FN Tryz.prog 75 [sv s] [] (is (.bool (rightS s)) []) := by
  have hll := levels_len s
  refine FN.intro 14 [(0, sv s)] Tryz.func75 rfl (enters Tryz.func75 (by kernel_rfl) rfl) Tryz.ntmps75 rfl rfl ?_
  refine WP.seq <| WP.region <| v0 (S0.assign rfl) rfl <| vE <| WP.seq <| WP.region <| v0 (S0.move rfl) rfl <| ?_  -- op t5 := call F40{rivulet/topic.Levels}(t4)
  refine vc (S1.callF rfl (levels_spec hl) take0) rfl ?_
  rintro _ _ ⟨row, hsl, rfl⟩
  refine app ?_
  obtain ⟨a, cap, rfl, -, -⟩ := hsl.strsE
  refine v0 (S0.assign rfl) rfl <| vE <| WP.seq <| WP.region <| v0 (S0.move rfl) rfl <| v0 (S0.lenSl rfl) rfl <| v0 (S0.cmp rfl rfl rfl) rfl <| v0 (S0.move rfl) rfl <| ?_  -- guard t9 (wants True) at t10 := move t3 [if #3=True]
  first | refine csP (t := 9) rfl (fun h8 => ?_) (fun h8 => ?_) | refine csN (t := 9) rfl (fun h8 => ?_) (fun h8 => ?_) | refine cs (t := 9) rfl (fun h8 => ?_) (fun h8 => ?_)
  · skip
    refine gT rfl <| v0 (S0.move rfl) rfl <| ?_  -- op t11 := call F97{slices.ContainsFunc[[]string,string]}(t10, F98) [if #3=True]
    refine gT rfl <| vcd (S1.callF rfl (FN.nil1 (anyFuncS hsl (by omega) fun x _ => FN.nil0 (rightfn_spec x))) (take1 at0 take0)) rfl ?_
    refine gT rfl <| v0 (S0.not rfl) rfl <| v0 (S0.pickT rfl rfl) rfl <| v0 (S0.assign rfl) rfl <| vE <| WP.ret <| ?_  -- ret
    refine Leaves.drop take0 ?_
    refine r1 rfl rfl ⟨?_, rfl⟩
    have h8' : (levels s).length ≤ 8 := by omega
    rw [any_not]
    simp [rightS, h8']
  · skip
    refine gF rfl rfl <| gF rfl rfl <| gF rfl rfl <| v0 (S0.pickF rfl rfl) rfl <| v0 (S0.assign rfl) rfl <| vE <| WP.ret <| ?_  -- ret
    refine Leaves.drop take0 ?_
    refine r1 rfl rfl ⟨?_, rfl⟩
    have h8' : ¬ (levels s).length ≤ 8 := by omega
    simp [rightS, h8']
theorem filter_spec {s : Str} (hl : s.length ≤ 1000000) : FN Tryz.prog 36 [sv s] [] (is (.bool (filtS s)) []) := by
  have hll := levels_len s
  refine FN.intro 40 [(0, sv s)] Tryz.func36 rfl (enters Tryz.func36 (by kernel_rfl) rfl) Tryz.ntmps36 rfl rfl ?_
  refine WP.seq <| WP.region <| v0 (S0.assign rfl) rfl <| vE <| WP.seq <| WP.region <| v0 (S0.move rfl) rfl <| ?_  -- op t8 := call F40{rivulet/topic.Levels}(t7)
  refine vc (S1.callF rfl (levels_spec hl) take0) rfl ?_
  rintro _ _ ⟨row, hsl, rfl⟩
  refine app ?_
  obtain ⟨a, cap, rfl, -, hrow⟩ := hsl.strsE
  refine v0 (S0.assign rfl) rfl <| vE <| WP.seq <| WP.seq <| WP.region <| v0 (S0.move rfl) rfl <| v0 (S0.lenSl rfl) rfl <| v0 (S0.cmp rfl rfl rfl) rfl <| vE <| ?_  -- cond
  first | refine WP.condP rfl (fun h8 => ?_) (fun h8 => ?_) | refine WP.condN rfl (fun h8 => ?_) (fun h8 => ?_) | refine WP.cond rfl (fun h8 => ?_) (fun h8 => ?_)
  · skip
    refine WP.seq <| WP.region <| v0 (S0.assign rfl) rfl <| vE <| WP.ret <| ?_  -- ret
    refine Leaves.drop take0 ?_
    refine r1 rfl rfl ⟨?_, rfl⟩
    have h8' : ¬ (levels s).length ≤ 8 := by omega
    simp [filtS, h8']
  · skip
    have h8' : (levels s).length ≤ 8 := by omega
    refine WP.skip <| WP.seq <| WP.seq <| WP.region <| v0 (S0.move rfl) rfl <| v0 (S0.lenSl rfl) rfl <| v0 (S0.move rfl) rfl <| vE <| WP.block <| ?_  -- Code.loop
    refine WP.loop (fun i : Nat => i ≤ (levels s).length ∧ ∀ j y, j < i → (levels s)[j]? = some y → badAt (levels s) j y = false) (fun i : Nat => [(0, sv s), (3, .slice a (levels s).length cap), (12, .slice a (levels s).length cap), (13, .int .i64 ((levels s).length : Int)), (14, .int .i64 (i : Int))]) (fun i : Nat => [row]) (fun i : Nat => (levels s).length - i) (0) (⟨by omega, fun j y hj => by omega⟩) ⟨rfl, rfl, rfl, rfl, rfl, trivial⟩ ⟨_, (take1 at0 take0)⟩ (fun i hinv => ?_) 
    obtain ⟨hi, hno⟩ := hinv
    refine WP.seq <| WP.region <| v0 (S0.cmp rfl rfl rfl) rfl <| vE <| WP.seq <| ?_  -- cond
    first | refine WP.condP rfl (fun h1 => ?_) (fun h1 => ?_) | refine WP.condN rfl (fun h1 => ?_) (fun h1 => ?_) | refine WP.cond rfl (fun h1 => ?_) (fun h1 => ?_)
    · skip
      have hlt : i < (levels s).length := by omega
      rcases hrow with ⟨e, -⟩ | ⟨b1, sp1, rfl, rfl, hsp1⟩
      · rw [e] at hlt; simp at hlt
      have hx : (levels s)[i]? = some (levels s)[i] := by simp [hlt]
      have hlast : ((i : Int) = ((levels s).length : Int) - 1) ↔ i + 1 = (levels s).length := by omega
      have hb : badAt (levels s) i (levels s)[i] = (!nameS (levels s)[i] && (!decide ((levels s)[i] = [43]) && (!decide ((levels s)[i] = [35]) || !decide ((i : Int) = ((levels s).length : Int) - 1)))) := by simp [badAt, hlast]
      clear hlast
      have hbad : badAt (levels s) i (levels s)[i] = true → false = filtS s := fun e => by
        have : ¬ filtL (levels s) = true := fun hf => by have := (filtL_iff _).1 hf i _ hx; rw [e] at this; cases this
        have : filtL (levels s) = false := by simpa using this
        simp [filtS, this]
      refine WP.skip <| WP.seq <| WP.block <| WP.seq <| WP.region <| v0 (S0.move rfl) rfl <| ?_  -- op t17 := indexAddr 51 t12 t14
      refine v0 (S0.index1 rfl rfl hlt) rfl <| ?_
      refine v0 (S0.load rfl (strs_get hx)) rfl <| ?_
      refine v0 (S0.assign rfl) rfl <| v0 (S0.assign rfl) rfl <| vE <| WP.seq <| WP.region <| v0 (S0.move rfl) rfl <| v0 (S0.move rfl) rfl <| v0 (S0.lenSl rfl) rfl <| v0 (S0.ari rfl rfl rfl (wrap_i64 (by omega))) rfl <| v0 (S0.cmp rfl rfl rfl) rfl <| v0 (S0.assign rfl) rfl <| vE <| WP.seq <| WP.region <| v0 (S0.move rfl) rfl <| ?_  -- op t25 := call F69{rivulet/topic.name}(t24)
      refine vcd (S1.callF rfl (name_spec (levels s)[i]) take0) rfl ?_
      refine v0 (S0.not rfl) rfl <| v0 (S0.move rfl) rfl <| ?_
      first | refine csP (t := 27) rfl (fun hq0 => ?_) (fun hq0 => ?_) | refine csN (t := 27) rfl (fun hq0 => ?_) (fun hq0 => ?_) | refine cs (t := 27) rfl (fun hq0 => ?_) (fun hq0 => ?_)
      ·
        refine gT rfl <| v0 (S0.move rfl) rfl <| gT rfl <| v0 (S0.cmpS rfl rfl rfl) rfl <| v0 (S0.pickT rfl rfl) rfl <| v0 (S0.move rfl) rfl <| ?_
        first | refine csP (t := 31) rfl (fun hq1 => ?_) (fun hq1 => ?_) | refine csN (t := 31) rfl (fun hq1 => ?_) (fun hq1 => ?_) | refine cs (t := 31) rfl (fun hq1 => ?_) (fun hq1 => ?_)
        ·
          refine gT rfl <| v0 (S0.move rfl) rfl <| gT rfl <| v0 (S0.cmpS rfl rfl rfl) rfl <| gT rfl <| v0 (S0.move rfl) rfl <| ?_
          first | refine csP (t := 34) rfl (fun hq2 => ?_) (fun hq2 => ?_) | refine csN (t := 34) rfl (fun hq2 => ?_) (fun hq2 => ?_) | refine cs (t := 34) rfl (fun hq2 => ?_) (fun hq2 => ?_)
          ·
            refine gF rfl rfl <| gF rfl rfl <| gT rfl <| v0 (S0.pickT rfl rfl) rfl <| v0 (S0.pickT rfl rfl) rfl <| vE <| WP.condT rfl <| WP.seq <| WP.region <| v0 (S0.assign rfl) rfl <| vE <| WP.ret <| ?_
            refine Leaves.drop take0 ?_
            refine r1 rfl rfl ⟨?_, rfl⟩
            exact congrArg Value.bool (hbad (by rw [hb]; simp [not_name_rest, not_name_one, *]))
          ·
            refine gT rfl <| v0 (S0.move rfl) rfl <| gT rfl <| v0 (S0.not rfl) rfl <| gT rfl <| v0 (S0.pickF rfl rfl) rfl <| v0 (S0.pickT rfl rfl) rfl <| vE <| ?_
            first | refine WP.condP rfl (fun hq3 => ?_) (fun hq3 => ?_) | refine WP.condN rfl (fun hq3 => ?_) (fun hq3 => ?_) | refine WP.cond rfl (fun hq3 => ?_) (fun hq3 => ?_)
            ·
              refine WP.seq <| WP.region <| v0 (S0.assign rfl) rfl <| vE <| WP.ret <| ?_
              refine Leaves.drop take0 ?_
              refine r1 rfl rfl ⟨?_, rfl⟩
              exact congrArg Value.bool (hbad (by rw [hb]; simp [not_name_rest, not_name_one, *]))
            ·
              refine WP.skip <| WP.region <| v0 (S0.ari rfl rfl rfl (wrap_i64 (by omega))) rfl <| v0 (S0.move rfl) rfl <| vE <| ?_
              exact ⟨i + 1, (by first | exact ⟨hlt, below_at (p := fun j y => badAt (levels s) j y = false) hno hx (by show badAt (levels s) i (levels s)[i] = false; rw [hb]; simp [not_name_rest, not_name_one, *])⟩ | (dsimp only; exact ⟨hlt, below_at (p := fun j y => badAt (levels s) j y = false) hno hx (by show badAt (levels s) i (levels s)[i] = false; rw [hb]; simp [not_name_rest, not_name_one, *])⟩)), (by omega), ⟨⟨rfl, rfl, rfl, rfl, rfl, trivial⟩, rfl, rfl⟩, ⟨_, (take1 at0 take0)⟩⟩
        ·
          refine gF rfl rfl <| gF rfl rfl <| gF rfl rfl <| gF rfl rfl <| gF rfl rfl <| gF rfl rfl <| v0 (S0.pickF rfl rfl) rfl <| vE <| WP.condF rfl <| WP.skip <| WP.region <| v0 (S0.ari rfl rfl rfl (wrap_i64 (by omega))) rfl <| v0 (S0.move rfl) rfl <| vE <| ?_
          exact ⟨i + 1, (by first | exact ⟨hlt, below_at (p := fun j y => badAt (levels s) j y = false) hno hx (by show badAt (levels s) i (levels s)[i] = false; rw [hb]; simp [not_name_rest, not_name_one, *])⟩ | (dsimp only; exact ⟨hlt, below_at (p := fun j y => badAt (levels s) j y = false) hno hx (by show badAt (levels s) i (levels s)[i] = false; rw [hb]; simp [not_name_rest, not_name_one, *])⟩)), (by omega), ⟨⟨rfl, rfl, rfl, rfl, rfl, trivial⟩, rfl, rfl⟩, ⟨_, (take1 at0 take0)⟩⟩
      ·
        refine gF rfl rfl <| gF rfl rfl <| v0 (S0.pickF rfl rfl) rfl <| v0 (S0.move rfl) rfl <| gF rfl rfl <| gF rfl rfl <| gF rfl rfl <| gF rfl rfl <| gF rfl rfl <| gF rfl rfl <| v0 (S0.pickF rfl rfl) rfl <| vE <| WP.condF rfl <| WP.skip <| WP.region <| v0 (S0.ari rfl rfl rfl (wrap_i64 (by omega))) rfl <| v0 (S0.move rfl) rfl <| vE <| ?_
        exact ⟨i + 1, (by first | exact ⟨hlt, below_at (p := fun j y => badAt (levels s) j y = false) hno hx (by show badAt (levels s) i (levels s)[i] = false; rw [hb]; simp [not_name_rest, not_name_one, *])⟩ | (dsimp only; exact ⟨hlt, below_at (p := fun j y => badAt (levels s) j y = false) hno hx (by show badAt (levels s) i (levels s)[i] = false; rw [hb]; simp [not_name_rest, not_name_one, *])⟩)), (by omega), ⟨⟨rfl, rfl, rfl, rfl, rfl, trivial⟩, rfl, rfl⟩, ⟨_, (take1 at0 take0)⟩⟩
    · skip
      refine WP.exit <| WP.seq <| WP.region <| v0 (S0.assign rfl) rfl <| vE <| WP.ret <| ?_  -- ret
      refine Leaves.drop take0 ?_
      refine r1 rfl rfl ⟨?_, rfl⟩
      have : filtL (levels s) = true := (filtL_iff _).2 fun j y hj => hno j y (by have := (List.getElem?_eq_some_iff.1 hj).1; omega) hj
      simp [filtS, h8', this]

theorem drop_cons {α : Type} {l : List α} {i : Nat} {x : α} (h : l[i]? = some x) : l.drop i = x :: l.drop (i + 1) := by
  obtain ⟨hlt, e⟩ := List.getElem?_eq_some_iff.1 h
  rw [List.drop_eq_getElem_cons hlt, e]
theorem match_spec {f t : Str} (hf : f.length ≤ 1000000) (ht : t.length ≤ 1000000) : FN Tryz.prog 100 [sv f, sv t] [] (is (.bool (matchS f t)) []) := by
  refine FN.intro 53 [(0, sv f), (1, sv t)] Tryz.func100 rfl (enters Tryz.func100 (by kernel_rfl) rfl) Tryz.ntmps100 rfl rfl ?_
  refine WP.seq <| WP.region <| v0 (S0.assign rfl) rfl <| vE <| WP.seq <| WP.seq <| WP.region <| v0 (S0.move rfl) rfl <| ?_  -- op t10 := call F36{rivulet/topic.Filter}(t9)
  refine vcd (S1.callF rfl (filter_spec hf) take0) rfl ?_
  refine v0 (S0.not rfl) rfl <| v0 (S0.move rfl) rfl <| ?_  -- guard t12 (wants False) at t13 := move t1 [if #3=False]
  first | refine csP (t := 12) rfl (fun hF => ?_) (fun hF => ?_) | refine csN (t := 12) rfl (fun hF => ?_) (fun hF => ?_) | refine cs (t := 12) rfl (fun hF => ?_) (fun hF => ?_)
  · skip
    refine gF rfl rfl <| gF rfl rfl <| gF rfl rfl <| v0 (S0.pickT rfl rfl) rfl <| vE <| WP.condT rfl <| WP.seq <| WP.region <| v0 (S0.assign rfl) rfl <| vE <| WP.ret <| ?_  -- ret
    refine r1 rfl rfl ⟨?_, rfl⟩
    have : filtS f = false := by simpa using hF
    simp [matchS, this]
  · skip
    have hF : filtS f = true := by simpa using hF
    refine gT rfl <| v0 (S0.move rfl) rfl <| ?_  -- op t14 := call F75{rivulet/topic.Right}(t13) [if #3=False]
    refine gT rfl <| vcd (S1.callF rfl (right_spec ht) take0) rfl ?_
    refine gT rfl <| v0 (S0.not rfl) rfl <| v0 (S0.pickF rfl rfl) rfl <| vE <| ?_  -- cond
    first | refine WP.condP rfl (fun hR => ?_) (fun hR => ?_) | refine WP.condN rfl (fun hR => ?_) (fun hR => ?_) | refine WP.cond rfl (fun hR => ?_) (fun hR => ?_)
    · skip
      refine WP.seq <| WP.region <| v0 (S0.assign rfl) rfl <| vE <| WP.ret <| ?_  -- ret
      refine r1 rfl rfl ⟨?_, rfl⟩
      have : rightS t = false := by simpa using hR
      simp [matchS, this]
    · skip
      have hR : rightS t = true := by simpa using hR
      have em : matchS f t = matchL (levels f) (levels t) := by simp [matchS, hF, hR]
      have hfl := levels_len f
      have htl := levels_len t
      rw [em]
      refine WP.skip <| WP.seq <| WP.region <| v0 (S0.move rfl) rfl <| ?_  -- op t18 := call F40{rivulet/topic.Levels}(t17)
      refine vc (S1.callF rfl (levels_spec hf) take0) rfl ?_
      rintro _ _ ⟨rf, hsf, rfl⟩
      refine app ?_
      refine v0 (S0.move rfl) rfl <| ?_  -- op t20 := call F40{rivulet/topic.Levels}(t19)
      refine vc (S1.callF rfl (levels_spec ht) take0) rfl ?_
      rintro _ _ ⟨rt, hst, rfl⟩
      refine app ?_
      obtain ⟨af, cf, rfl, -, hrf⟩ := hsf.strsE
      obtain ⟨at', ct, rfl, -, hrt⟩ := hst.strsE
      refine v0 (S0.assign rfl) rfl <| v0 (S0.assign rfl) rfl <| vE <| WP.seq <| WP.seq <| WP.region <| v0 (S0.move rfl) rfl <| v0 (S0.lenSl rfl) rfl <| v0 (S0.move rfl) rfl <| vE <| WP.block <| ?_  -- Code.loop
      refine WP.loop (fun i : Nat => i ≤ (levels f).length ∧ i ≤ (levels t).length ∧ matchL (levels f) (levels t) = matchL ((levels f).drop i) ((levels t).drop i)) (fun i : Nat => [(5, .slice af (levels f).length cf), (6, .slice at' (levels t).length ct), (21, .slice af (levels f).length cf), (22, .int .i64 ((levels f).length : Int)), (23, .int .i64 (i : Int))]) (fun i : Nat => [rt, rf]) (fun i : Nat => (levels f).length - i) (0) (⟨by omega, by omega, rfl⟩) ⟨rfl, rfl, rfl, rfl, rfl, trivial⟩ ⟨_, (take1 at0 (take1 at0 take0))⟩ (fun i hinv => ?_) 
      obtain ⟨hi, hit, hinv⟩ := hinv
      refine WP.seq <| WP.region <| v0 (S0.cmp rfl rfl rfl) rfl <| vE <| WP.seq <| ?_  -- cond
      first | refine WP.condP rfl (fun h1 => ?_) (fun h1 => ?_) | refine WP.condN rfl (fun h1 => ?_) (fun h1 => ?_) | refine WP.cond rfl (fun h1 => ?_) (fun h1 => ?_)
      · skip
        have hlt : i < (levels f).length := by omega
        rcases hrf with ⟨e, -⟩ | ⟨b1, sp1, rfl, rfl, hsp1⟩
        · rw [e] at hlt; simp at hlt
        have hx : (levels f)[i]? = some (levels f)[i] := by simp [hlt]
        rw [drop_cons hx] at hinv
        generalize (levels f)[i] = x at hx hinv
        refine WP.skip <| WP.seq <| WP.block <| WP.seq <| WP.region <| v0 (S0.move rfl) rfl <| ?_  -- op t26 := indexAddr 51 t21 t23
        refine v0 (S0.index1 rfl rfl hlt) rfl <| ?_
        refine v0 (S0.load rfl (strs_get hx)) rfl <| ?_
        refine v0 (S0.assign rfl) rfl <| v0 (S0.assign rfl) rfl <| vE <| WP.block <| WP.seq <| WP.region <| v0 (S0.move rfl) rfl <| v0 (S0.cmpS rfl rfl rfl) rfl <| v0 (S0.assign rfl) rfl <| vE <| ?_  -- cond
        first | refine WP.condP rfl (fun h2 => ?_) (fun h2 => ?_) | refine WP.condN rfl (fun h2 => ?_) (fun h2 => ?_) | refine WP.cond rfl (fun h2 => ?_) (fun h2 => ?_)
        · skip
          refine WP.seq <| WP.region <| v0 (S0.assign rfl) rfl <| vE <| WP.ret <| ?_  -- ret
          refine Leaves.drop take0 ?_
          refine r1 rfl rfl ⟨?_, rfl⟩
          rw [hinv]; simp [matchL, h2]
        · skip
          refine WP.seq <| WP.region <| v0 (S0.move rfl) rfl <| v0 (S0.move rfl) rfl <| v0 (S0.lenSl rfl) rfl <| v0 (S0.cmp rfl rfl rfl) rfl <| v0 (S0.assign rfl) rfl <| vE <| ?_  -- cond
          first | refine WP.condP rfl (fun h3 => ?_) (fun h3 => ?_) | refine WP.condN rfl (fun h3 => ?_) (fun h3 => ?_) | refine WP.cond rfl (fun h3 => ?_) (fun h3 => ?_)
          · skip
            refine WP.seq <| WP.region <| v0 (S0.assign rfl) rfl <| vE <| WP.ret <| ?_  -- ret
            refine Leaves.drop take0 ?_
            refine r1 rfl rfl ⟨?_, rfl⟩
            have hd : (levels t).drop i = [] := List.drop_eq_nil_of_le (by omega)
            rw [hinv, hd]; simp [matchL, h2]
          · skip
            have hlt2 : i < (levels t).length := by omega
            rcases hrt with ⟨e, -⟩ | ⟨b2, sp2, rfl, rfl, hsp2⟩
            · rw [e] at hlt2; simp at hlt2
            have hy : (levels t)[i]? = some (levels t)[i] := by simp [hlt2]
            rw [drop_cons hy] at hinv
            generalize (levels t)[i] = y at hy hinv
            simp only [matchL, h2, decide_false, Bool.false_or] at hinv
            refine WP.seq <| WP.region <| v0 (S0.move rfl) rfl <| v0 (S0.cmpS rfl rfl rfl) rfl <| v0 (S0.move rfl) rfl <| ?_  -- guard t39 (wants True) at t40 := move t8 [if #2=True]
            first | refine csP (t := 39) rfl (fun h4 => ?_) (fun h4 => ?_) | refine csN (t := 39) rfl (fun h4 => ?_) (fun h4 => ?_) | refine cs (t := 39) rfl (fun h4 => ?_) (fun h4 => ?_)
            · skip
              refine gT rfl <| v0 (S0.move rfl) rfl <| gT rfl <| v0 (S0.move rfl) rfl <| gT rfl <| v0 (S0.move rfl) rfl <| ?_  -- op t43 := indexAddr 51 t41 t42 [if #2=True]
              refine gT rfl <| v0 (S0.index1 rfl rfl hlt2) rfl <| ?_
              refine gT rfl <| v0 (S0.load rfl (strs_get hy)) rfl <| ?_
              refine gT rfl <| v0 (S0.cmpS rfl rfl rfl) rfl <| v0 (S0.pickT rfl rfl) rfl <| v0 (S0.assign rfl) rfl <| vE <| ?_  -- cond
              first | refine WP.condP rfl (fun h5 => ?_) (fun h5 => ?_) | refine WP.condN rfl (fun h5 => ?_) (fun h5 => ?_) | refine WP.cond rfl (fun h5 => ?_) (fun h5 => ?_)
              · skip
                refine WP.seq <| WP.region <| v0 (S0.assign rfl) rfl <| vE <| WP.ret <| ?_  -- ret
                refine Leaves.drop take0 ?_
                refine r1 rfl rfl ⟨?_, rfl⟩
                rw [hinv]; simp [h4, h5]
              · skip
                refine WP.skip <| WP.region <| v0 (S0.ari rfl rfl rfl (wrap_i64 (by omega))) rfl <| v0 (S0.move rfl) rfl <| vE <| ?_  -- roundend
                exact ⟨i + 1, (by first | exact ⟨hlt, hlt2, by rw [hinv]; simp [h5]⟩ | (dsimp only; exact ⟨hlt, hlt2, by rw [hinv]; simp [h5]⟩)), (by omega), ⟨⟨rfl, rfl, rfl, rfl, rfl, trivial⟩, rfl, rfl⟩, ⟨_, (take1 at0 (take1 at0 take0))⟩⟩
            · skip
              refine gF rfl rfl <| gF rfl rfl <| gF rfl rfl <| gF rfl rfl <| gF rfl rfl <| gF rfl rfl <| v0 (S0.pickF rfl rfl) rfl <| v0 (S0.assign rfl) rfl <| vE <| WP.condF rfl <| WP.skip <| WP.region <| v0 (S0.ari rfl rfl rfl (wrap_i64 (by omega))) rfl <| v0 (S0.move rfl) rfl <| vE <| ?_  -- roundend
              exact ⟨i + 1, (by first | exact ⟨hlt, hlt2, by rw [hinv]; simp [h4]⟩ | (dsimp only; exact ⟨hlt, hlt2, by rw [hinv]; simp [h4]⟩)), (by omega), ⟨⟨rfl, rfl, rfl, rfl, rfl, trivial⟩, rfl, rfl⟩, ⟨_, (take1 at0 (take1 at0 take0))⟩⟩
      · skip
        have e : i = (levels f).length := by omega
        refine WP.exit <| WP.seq <| WP.region <| v0 (S0.move rfl) rfl <| v0 (S0.lenSl rfl) rfl <| v0 (S0.move rfl) rfl <| v0 (S0.lenSl rfl) rfl <| v0 (S0.cmp rfl rfl rfl) rfl <| v0 (S0.assign rfl) rfl <| vE <| WP.ret <| ?_  -- ret
        refine Leaves.drop take0 ?_
        refine r1 rfl rfl ⟨?_, rfl⟩
        have hd1 : (levels f).drop i = [] := List.drop_eq_nil_of_le (by omega)
        rw [hinv, hd1]
        have h2 := List.length_drop (i := i) (l := levels t)
        cases hd : (levels t).drop i with
        | nil => rw [hd] at h2; simp at h2; simp [matchL]; omega
        | cons y r => rw [hd] at h2; simp at h2; simp [matchL]; omega
end Go.Proofs.YtanecnnfpdhadaaGreatDoor
/- Ref3 -/
namespace Go.Proofs.YtanecnnfpdhadaaGreatDoor
open Go

theorem strs_cut (sp : List Value) (R : List Str) (i j cap : Nat) (hij : i ≤ j) (hj : j ≤ R.length) (hc : R.length ≤ cap) :
    ((strs R ++ sp).drop (if cap = i then 0 else 0 + i * 1)).take ((j - i) * 1) = strs ((R.drop i).take (j - i)) ∧ (if cap = i then 0 else 0 + i * 1) + (j - i) * 1 ≤ (strs R ++ sp).length := by
  have := flat_cut (k := 1) (en := fun x : Str => [sv x]) (fun _ => rfl) sp R i j cap hij hj hc
  rw [strs_flat, strs_flat]; exact this
theorem strs_cv (l : List Str) : ∀ v ∈ strs l, cellV v = true := by
  intro v hv
  obtain ⟨x, -, rfl⟩ := List.mem_map.1 hv
  rfl

theorem take_no {s : Str} {a i : Nat} {c : UInt8} (h : (47 : UInt8) ∉ (s.drop a).take (i - a)) (ha : a ≤ i) (hx : s[i]? = some c) (hc : c ≠ 47) : (47 : UInt8) ∉ (s.drop a).take (i + 1 - a) := by
  rw [show i + 1 - a = (i - a) + 1 from by omega, List.take_add_one]
  have e : (s.drop a)[i - a]? = some c := by rw [List.getElem?_drop, show a + (i - a) = i from by omega, hx]
  rw [e]
  simp only [Option.toList, List.mem_append, List.mem_singleton, not_or]
  exact ⟨h, fun e => hc e.symm⟩
theorem split_at {s : Str} {a i : Nat} {c : UInt8} (ha : a ≤ i) (hx : s[i]? = some c) : s.drop a = (s.drop a).take (i - a) ++ c :: s.drop (i + 1) := by
  have e : (s.drop a).drop (i - a) = c :: s.drop (i + 1) := by
    rw [List.drop_drop, show a + (i - a) = i from by omega, drop_cons hx]
  rw [← e, List.take_append_drop]

theorem rlevels_spec {s : Str} (hl : s.length ≤ 1000000) : FN Tryz.prog 65 [sv s] [] (fun v h => ∃ row, IsSl 9 1 v (strs (levels s)) row ∧ h = [row]) := by
  have hll := levels_len s
  refine FN.intro 33 [(0, sv s)] Tryz.func65 rfl (enters Tryz.func65 (by kernel_rfl) rfl) Tryz.ntmps65 rfl rfl ?_
  refine WP.seq <| WP.region <| v0 (S0.assign rfl) rfl <| vE <| WP.seq <| WP.region <| vnv (S1.buildSlice rfl (qs := []) rfl rfl) rfl fun b6 => v0 (S0.assign rfl) rfl <| v0 (S0.assign rfl) rfl <| vE <| WP.seq <| WP.seq <| WP.region <| v0 (S0.assign rfl) rfl <| vE <| WP.block <| ?_  -- Code.loop
  refine WP.loop (fun st : Nat × Nat × List Str × Value × List Blk => st.2.1 ≤ st.1 ∧ st.1 ≤ s.length ∧ levels s = st.2.2.1 ++ levels (s.drop st.2.1) ∧ (47 : UInt8) ∉ (s.drop st.2.1).take (st.1 - st.2.1) ∧ IsSl 9 1 st.2.2.2.1 (strs st.2.2.1) st.2.2.2.2) (fun st : Nat × Nat × List Str × Value × List Blk => [(0, sv s), (3, st.2.2.2.1), (4, .int .i64 (st.2.1 : Int)), (5, .int .i64 (st.1 : Int))]) (fun st : Nat × Nat × List Str × Value × List Blk => [st.2.2.2.2]) (fun st : Nat × Nat × List Str × Value × List Blk => s.length - st.1) ((0, 0, [], _, [(b6, .cells ⟨[]⟩ 9 (0, 0))])) (⟨Nat.le_refl _, Nat.zero_le _, by simp, by simp, IsSl.row (n := 0) (c := 0) (l := []) (sp := []) rfl rfl (Nat.le_refl _)⟩) ⟨rfl, rfl, rfl, rfl, trivial⟩ ⟨_, (take1 at0 take0)⟩ (fun st hinv => ?_) 
  obtain ⟨i, a, out, lv, row⟩ := st
  obtain ⟨hai, hi, hlev, hno, hsl⟩ := hinv
  dsimp only at hai hi hlev hno hsl ⊢
  have hol : out.length ≤ 1000000 := by
    have := congrArg List.length hlev
    have h2 := levels_ne (s.drop a)
    rw [List.length_append] at this
    have h3 : 0 < (levels (s.drop a)).length := List.length_pos_iff.2 h2
    omega
  refine WP.seq <| WP.seq <| WP.region <| v0 (S0.move rfl) rfl <| v0 (S0.move rfl) rfl <| v0 (S0.lenSt rfl) rfl <| v0 (S0.cmp rfl rfl rfl) rfl <| vE <| ?_  -- cond
  first | refine WP.condP rfl (fun h1 => ?_) (fun h1 => ?_) | refine WP.condN rfl (fun h1 => ?_) (fun h1 => ?_) | refine WP.cond rfl (fun h1 => ?_) (fun h1 => ?_)
  · skip
    have hlt : i < s.length := by omega
    have hx : s[i]? = some s[i] := by simp [hlt]
    generalize s[i] = c at hx
    refine WP.skip <| WP.seq <| WP.block <| WP.seq <| WP.region <| v0 (S0.move rfl) rfl <| v0 (S0.move rfl) rfl <| ?_  -- op t15 := index 9 t13 t14
    refine v0 (S0.indexSt rfl rfl hx) rfl <| ?_
    refine v0 (S0.cmp rfl rfl rfl) rfl <| vE <| ?_  -- cond
    first | refine WP.condP rfl (fun h2 => ?_) (fun h2 => ?_) | refine WP.condN rfl (fun h2 => ?_) (fun h2 => ?_) | refine WP.cond rfl (fun h2 => ?_) (fun h2 => ?_)
    · skip
      have hc : c = 47 := by
        have : c.toNat = 47 := by omega
        exact UInt8.toNat_inj.1 this
      subst hc
      refine WP.seq <| WP.region <| v0 (S0.move rfl) rfl <| v0 (S0.move rfl) rfl <| v0 (S0.move rfl) rfl <| v0 (S0.move rfl) rfl <| ?_  -- op t21 := slice 9 t18 t19 t20 none
      refine v0 (S0.sliceSt (i := a) (j := i) rfl rfl rfl ⟨hai, hi⟩) rfl <| ?_
      refine vnv (S1.buildSlice rfl (qs := [(0, _)]) rfl rfl) rfl fun b22 => ?_  -- op t23 := append(t17, t22) :[51, 51]
      refine ve (S1.appendL rfl hsl rfl rfl (atS at0) rfl rfl (by rw [strs_len]; simp; omega)) rfl ?_
      rintro v2 _ ⟨row2, hsl2, rfl⟩
      have hsl3 : IsSl 9 1 v2 (strs (out ++ [(s.drop a).take (i - a)])) row2 := by simpa [strs] using hsl2
      have hlev2 : levels s = (out ++ [(s.drop a).take (i - a)]) ++ levels (s.drop (i + 1)) := by
        have e1 : levels (s.drop a) = (s.drop a).take (i - a) :: levels (s.drop (i + 1)) := by
          conv => lhs; rw [split_at hai hx]
          exact levels_cut _ hno
        rw [hlev, e1]; simp
      refine v0 (S0.assign rfl) rfl <| vE <| WP.region <| v0 (S0.move rfl) rfl <| v0 (S0.ari rfl rfl rfl (wrap_i64 (by omega))) rfl <| v0 (S0.assign rfl) rfl <| vE <| WP.region <| v0 (S0.move rfl) rfl <| v0 (S0.ari rfl rfl rfl (wrap_i64 (by omega))) rfl <| v0 (S0.assign rfl) rfl <| vE <| ?_  -- roundend
      exact ⟨(i + 1, i + 1, out ++ [(s.drop a).take (i - a)], v2, row2), (by first | exact ⟨Nat.le_refl _, hlt, hlev2, by simp, hsl3⟩ | (dsimp only; exact ⟨Nat.le_refl _, hlt, hlev2, by simp, hsl3⟩)), (show s.length - (i + 1) < s.length - i by omega), ⟨⟨rfl, rfl, rfl, rfl, trivial⟩, rfl, rfl⟩, ⟨_, (take1 at0 take0)⟩⟩
    · skip
      refine WP.skip <| WP.region <| v0 (S0.move rfl) rfl <| v0 (S0.ari rfl rfl rfl (wrap_i64 (by omega))) rfl <| v0 (S0.assign rfl) rfl <| vE <| ?_  -- roundend
      have hc : c ≠ 47 := fun e => h2 (by rw [e]; rfl)
      exact ⟨(i + 1, a, out, lv, row), (by first | exact ⟨by omega, hlt, hlev, take_no hno hai hx hc, hsl⟩ | (dsimp only; exact ⟨by omega, hlt, hlev, take_no hno hai hx hc, hsl⟩)), (show s.length - (i + 1) < s.length - i by omega), ⟨⟨rfl, rfl, rfl, rfl, trivial⟩, rfl, rfl⟩, ⟨_, (take1 at0 take0)⟩⟩
  · skip
    have e : i = s.length := by omega
    subst e
    rw [List.take_of_length_le (by simp)] at hno
    rw [levels_none hno] at hlev
    refine WP.exit <| WP.seq <| WP.region <| v0 (S0.move rfl) rfl <| v0 (S0.move rfl) rfl <| v0 (S0.move rfl) rfl <| ?_  -- op t29 := slice 9 t27 t28 none none
    refine v0 (S0.sliceSt (i := a) (j := s.length) rfl rfl rfl ⟨hai, hi⟩) rfl <| ?_
    rw [List.take_of_length_le (show (s.drop a).length ≤ s.length - a by simp)]
    refine vnv (S1.buildSlice rfl (qs := [(0, _)]) rfl rfl) rfl fun b30 => ?_  -- op t31 := append(t26, t30) :[51, 51]
    refine ve (S1.appendL rfl hsl rfl rfl (atS at0) rfl rfl (by rw [strs_len]; simp; omega)) rfl ?_
    rintro v2 _ ⟨row2, hsl2, rfl⟩
    refine v0 (S0.assign rfl) rfl <| vE <| WP.seq <| WP.region <| v0 (S0.move rfl) rfl <| v0 (S0.assign rfl) rfl <| vE <| WP.ret <| ?_  -- ret
    refine Leaves.drop (take1 at0 take0) ?_
    refine r1 rfl rfl ?_
    refine ⟨row2, ?_, rfl⟩
    rw [hlev]
    simpa [strs] using hsl2

theorem rname_spec (s : Str) (hl : s.length ≤ 1000000) : FN Tryz.prog 66 [sv s] [] (is (.bool (nameS s)) []) := by
  refine FN.intro 45 [(0, sv s)] Tryz.func66 rfl (enters Tryz.func66 (by kernel_rfl) rfl) Tryz.ntmps66 rfl rfl ?_
  refine WP.seq <| WP.region <| v0 (S0.assign rfl) rfl <| vE <| WP.seq <| WP.seq <| WP.region <| v0 (S0.assign rfl) rfl <| vE <| WP.block <| ?_  -- Code.loop
  refine WP.loop (fun i : Nat => i ≤ s.length ∧ (s.take i).all (fun c => okN c.toNat) = true) (fun i : Nat => [(0, sv s), (3, .int .i64 (i : Int))]) (fun i : Nat => []) (fun i : Nat => s.length - i) (0) (⟨Nat.zero_le _, by simp⟩) ⟨rfl, rfl, trivial⟩ ⟨_, take0⟩ (fun i hinv => ?_) 
  obtain ⟨hi, hall⟩ := hinv
  refine WP.seq <| WP.seq <| WP.region <| v0 (S0.move rfl) rfl <| v0 (S0.move rfl) rfl <| v0 (S0.lenSt rfl) rfl <| v0 (S0.cmp rfl rfl rfl) rfl <| vE <| ?_  -- cond
  first | refine WP.condP rfl (fun h1 => ?_) (fun h1 => ?_) | refine WP.condN rfl (fun h1 => ?_) (fun h1 => ?_) | refine WP.cond rfl (fun h1 => ?_) (fun h1 => ?_)
  · skip
    have hlt : i < s.length := by omega
    have hx : s[i]? = some s[i] := by simp [hlt]
    generalize s[i] = c at hx
    have hbad : okN (c.toNat : Int) = false → false = nameS s := fun e => by simp [nameS, not_all (q := fun c => okN c.toNat) hx e]
    have hgood : okN (c.toNat : Int) = true → (s.take (i + 1)).all (fun c => okN c.toNat) = true := fun e => all_take_succ hall hx e
    have hb : okN (c.toNat : Int) = ((decide (97 ≤ (c.toNat : Int)) && decide ((c.toNat : Int) ≤ 122)) || (decide (48 ≤ (c.toNat : Int)) && decide ((c.toNat : Int) ≤ 57)) || decide ((c.toNat : Int) = 45) || decide ((c.toNat : Int) = 95)) := rfl
    refine WP.skip <| WP.seq <| WP.block <| WP.seq <| WP.region <| v0 (S0.move rfl) rfl <| v0 (S0.move rfl) rfl <| ?_  -- op t13 := index 9 t11 t12
    refine v0 (S0.indexSt rfl rfl hx) rfl <| ?_
    clear hall hx
    generalize (c.toNat : Int) = n at hbad hgood hb
    refine v0 (S0.assign rfl) rfl <| vE <| WP.seq <| WP.region <| v0 (S0.move rfl) rfl <| v0 (S0.cmp rfl rfl rfl) rfl <| v0 (S0.move rfl) rfl <| ?_
    first | refine csP (t := 16) rfl (fun hq0 => ?_) (fun hq0 => ?_) | refine csN (t := 16) rfl (fun hq0 => ?_) (fun hq0 => ?_) | refine cs (t := 16) rfl (fun hq0 => ?_) (fun hq0 => ?_)
    ·
      refine gT rfl <| v0 (S0.move rfl) rfl <| gT rfl <| v0 (S0.cmp rfl rfl rfl) rfl <| v0 (S0.pickT rfl rfl) rfl <| v0 (S0.move rfl) rfl <| ?_
      first | refine csP (t := 20) rfl (fun hq1 => ?_) (fun hq1 => ?_) | refine csN (t := 20) rfl (fun hq1 => ?_) (fun hq1 => ?_) | refine cs (t := 20) rfl (fun hq1 => ?_) (fun hq1 => ?_)
      ·
        refine gF rfl rfl <| gF rfl rfl <| gF rfl rfl <| gF rfl rfl <| gF rfl rfl <| gF rfl rfl <| v0 (S0.pickT rfl rfl) rfl <| v0 (S0.move rfl) rfl <| gF rfl rfl <| gF rfl rfl <| v0 (S0.pickT rfl rfl) rfl <| v0 (S0.move rfl) rfl <| gF rfl rfl <| gF rfl rfl <| v0 (S0.pickT rfl rfl) rfl <| v0 (S0.not rfl) rfl <| vE <| WP.condF rfl <| WP.skip <| WP.region <| v0 (S0.move rfl) rfl <| v0 (S0.ari rfl rfl rfl (wrap_i64 (by omega))) rfl <| v0 (S0.assign rfl) rfl <| vE <| ?_
        exact ⟨i + 1, (by first | exact ⟨hlt, hgood (by rw [hb]; simp [*]; try omega)⟩ | (dsimp only; exact ⟨hlt, hgood (by rw [hb]; simp [*]; try omega)⟩)), (by omega), ⟨⟨rfl, rfl, trivial⟩, rfl, rfl⟩, ⟨_, take0⟩⟩
      ·
        refine gT rfl <| v0 (S0.move rfl) rfl <| gT rfl <| v0 (S0.cmp rfl rfl rfl) rfl <| gT rfl <| v0 (S0.move rfl) rfl <| ?_
        first | refine csP (t := 23) rfl (fun hq2 => ?_) (fun hq2 => ?_) | refine csN (t := 23) rfl (fun hq2 => ?_) (fun hq2 => ?_) | refine cs (t := 23) rfl (fun hq2 => ?_) (fun hq2 => ?_)
        ·
          refine gT rfl <| v0 (S0.move rfl) rfl <| gT rfl <| v0 (S0.cmp rfl rfl rfl) rfl <| gT rfl <| v0 (S0.pickT rfl rfl) rfl <| v0 (S0.pickF rfl rfl) rfl <| v0 (S0.move rfl) rfl <| ?_
          first | refine csP (t := 28) rfl (fun hq3 => ?_) (fun hq3 => ?_) | refine csN (t := 28) rfl (fun hq3 => ?_) (fun hq3 => ?_) | refine cs (t := 28) rfl (fun hq3 => ?_) (fun hq3 => ?_)
          ·
            refine gF rfl rfl <| gF rfl rfl <| v0 (S0.pickT rfl rfl) rfl <| v0 (S0.move rfl) rfl <| gF rfl rfl <| gF rfl rfl <| v0 (S0.pickT rfl rfl) rfl <| v0 (S0.not rfl) rfl <| vE <| WP.condF rfl <| WP.skip <| WP.region <| v0 (S0.move rfl) rfl <| v0 (S0.ari rfl rfl rfl (wrap_i64 (by omega))) rfl <| v0 (S0.assign rfl) rfl <| vE <| ?_
            exact ⟨i + 1, (by first | exact ⟨hlt, hgood (by rw [hb]; simp [*]; try omega)⟩ | (dsimp only; exact ⟨hlt, hgood (by rw [hb]; simp [*]; try omega)⟩)), (by omega), ⟨⟨rfl, rfl, trivial⟩, rfl, rfl⟩, ⟨_, take0⟩⟩
          ·
            refine gT rfl <| v0 (S0.move rfl) rfl <| gT rfl <| v0 (S0.cmp rfl rfl rfl) rfl <| v0 (S0.pickF rfl rfl) rfl <| v0 (S0.move rfl) rfl <| ?_
            first | refine csP (t := 32) rfl (fun hq4 => ?_) (fun hq4 => ?_) | refine csN (t := 32) rfl (fun hq4 => ?_) (fun hq4 => ?_) | refine cs (t := 32) rfl (fun hq4 => ?_) (fun hq4 => ?_)
            ·
              refine gF rfl rfl <| gF rfl rfl <| v0 (S0.pickT rfl rfl) rfl <| v0 (S0.not rfl) rfl <| vE <| WP.condF rfl <| WP.skip <| WP.region <| v0 (S0.move rfl) rfl <| v0 (S0.ari rfl rfl rfl (wrap_i64 (by omega))) rfl <| v0 (S0.assign rfl) rfl <| vE <| ?_
              exact ⟨i + 1, (by first | exact ⟨hlt, hgood (by rw [hb]; simp [*]; try omega)⟩ | (dsimp only; exact ⟨hlt, hgood (by rw [hb]; simp [*]; try omega)⟩)), (by omega), ⟨⟨rfl, rfl, trivial⟩, rfl, rfl⟩, ⟨_, take0⟩⟩
            ·
              refine gT rfl <| v0 (S0.move rfl) rfl <| gT rfl <| v0 (S0.cmp rfl rfl rfl) rfl <| v0 (S0.pickF rfl rfl) rfl <| v0 (S0.not rfl) rfl <| vE <| ?_
              first | refine WP.condP rfl (fun hq5 => ?_) (fun hq5 => ?_) | refine WP.condN rfl (fun hq5 => ?_) (fun hq5 => ?_) | refine WP.cond rfl (fun hq5 => ?_) (fun hq5 => ?_)
              ·
                refine WP.seq <| WP.region <| v0 (S0.assign rfl) rfl <| vE <| WP.ret <| ?_
                refine r1 rfl rfl ⟨?_, rfl⟩
                exact congrArg Value.bool (hbad (by rw [hb]; simp [*]; try omega))
              ·
                refine WP.skip <| WP.region <| v0 (S0.move rfl) rfl <| v0 (S0.ari rfl rfl rfl (wrap_i64 (by omega))) rfl <| v0 (S0.assign rfl) rfl <| vE <| ?_
                exact ⟨i + 1, (by first | exact ⟨hlt, hgood (by rw [hb]; simp [*]; try omega)⟩ | (dsimp only; exact ⟨hlt, hgood (by rw [hb]; simp [*]; try omega)⟩)), (by omega), ⟨⟨rfl, rfl, trivial⟩, rfl, rfl⟩, ⟨_, take0⟩⟩
        ·
          refine gF rfl rfl <| gF rfl rfl <| gT rfl <| v0 (S0.pickF rfl rfl) rfl <| v0 (S0.pickF rfl rfl) rfl <| v0 (S0.move rfl) rfl <| gT rfl <| v0 (S0.move rfl) rfl <| gT rfl <| v0 (S0.cmp rfl rfl rfl) rfl <| v0 (S0.pickF rfl rfl) rfl <| v0 (S0.move rfl) rfl <| ?_
          first | refine csP (t := 32) rfl (fun hq3 => ?_) (fun hq3 => ?_) | refine csN (t := 32) rfl (fun hq3 => ?_) (fun hq3 => ?_) | refine cs (t := 32) rfl (fun hq3 => ?_) (fun hq3 => ?_)
          ·
            refine gF rfl rfl <| gF rfl rfl <| v0 (S0.pickT rfl rfl) rfl <| v0 (S0.not rfl) rfl <| vE <| WP.condF rfl <| WP.skip <| WP.region <| v0 (S0.move rfl) rfl <| v0 (S0.ari rfl rfl rfl (wrap_i64 (by omega))) rfl <| v0 (S0.assign rfl) rfl <| vE <| ?_
            exact ⟨i + 1, (by first | exact ⟨hlt, hgood (by rw [hb]; simp [*]; try omega)⟩ | (dsimp only; exact ⟨hlt, hgood (by rw [hb]; simp [*]; try omega)⟩)), (by omega), ⟨⟨rfl, rfl, trivial⟩, rfl, rfl⟩, ⟨_, take0⟩⟩
          ·
            refine gT rfl <| v0 (S0.move rfl) rfl <| gT rfl <| v0 (S0.cmp rfl rfl rfl) rfl <| v0 (S0.pickF rfl rfl) rfl <| v0 (S0.not rfl) rfl <| vE <| ?_
            first | refine WP.condP rfl (fun hq4 => ?_) (fun hq4 => ?_) | refine WP.condN rfl (fun hq4 => ?_) (fun hq4 => ?_) | refine WP.cond rfl (fun hq4 => ?_) (fun hq4 => ?_)
            ·
              refine WP.seq <| WP.region <| v0 (S0.assign rfl) rfl <| vE <| WP.ret <| ?_
              refine r1 rfl rfl ⟨?_, rfl⟩
              exact congrArg Value.bool (hbad (by rw [hb]; simp [*]; try omega))
            ·
              refine WP.skip <| WP.region <| v0 (S0.move rfl) rfl <| v0 (S0.ari rfl rfl rfl (wrap_i64 (by omega))) rfl <| v0 (S0.assign rfl) rfl <| vE <| ?_
              exact ⟨i + 1, (by first | exact ⟨hlt, hgood (by rw [hb]; simp [*]; try omega)⟩ | (dsimp only; exact ⟨hlt, hgood (by rw [hb]; simp [*]; try omega)⟩)), (by omega), ⟨⟨rfl, rfl, trivial⟩, rfl, rfl⟩, ⟨_, take0⟩⟩
    ·
      refine gF rfl rfl <| gF rfl rfl <| v0 (S0.pickF rfl rfl) rfl <| v0 (S0.move rfl) rfl <| gT rfl <| v0 (S0.move rfl) rfl <| gT rfl <| v0 (S0.cmp rfl rfl rfl) rfl <| gT rfl <| v0 (S0.move rfl) rfl <| ?_
      first | refine csP (t := 23) rfl (fun hq1 => ?_) (fun hq1 => ?_) | refine csN (t := 23) rfl (fun hq1 => ?_) (fun hq1 => ?_) | refine cs (t := 23) rfl (fun hq1 => ?_) (fun hq1 => ?_)
      ·
        refine gT rfl <| v0 (S0.move rfl) rfl <| gT rfl <| v0 (S0.cmp rfl rfl rfl) rfl <| gT rfl <| v0 (S0.pickT rfl rfl) rfl <| v0 (S0.pickF rfl rfl) rfl <| v0 (S0.move rfl) rfl <| ?_
        first | refine csP (t := 28) rfl (fun hq2 => ?_) (fun hq2 => ?_) | refine csN (t := 28) rfl (fun hq2 => ?_) (fun hq2 => ?_) | refine cs (t := 28) rfl (fun hq2 => ?_) (fun hq2 => ?_)
        ·
          refine gF rfl rfl <| gF rfl rfl <| v0 (S0.pickT rfl rfl) rfl <| v0 (S0.move rfl) rfl <| gF rfl rfl <| gF rfl rfl <| v0 (S0.pickT rfl rfl) rfl <| v0 (S0.not rfl) rfl <| vE <| WP.condF rfl <| WP.skip <| WP.region <| v0 (S0.move rfl) rfl <| v0 (S0.ari rfl rfl rfl (wrap_i64 (by omega))) rfl <| v0 (S0.assign rfl) rfl <| vE <| ?_
          exact ⟨i + 1, (by first | exact ⟨hlt, hgood (by rw [hb]; simp [*]; try omega)⟩ | (dsimp only; exact ⟨hlt, hgood (by rw [hb]; simp [*]; try omega)⟩)), (by omega), ⟨⟨rfl, rfl, trivial⟩, rfl, rfl⟩, ⟨_, take0⟩⟩
        ·
          refine gT rfl <| v0 (S0.move rfl) rfl <| gT rfl <| v0 (S0.cmp rfl rfl rfl) rfl <| v0 (S0.pickF rfl rfl) rfl <| v0 (S0.move rfl) rfl <| ?_
          first | refine csP (t := 32) rfl (fun hq3 => ?_) (fun hq3 => ?_) | refine csN (t := 32) rfl (fun hq3 => ?_) (fun hq3 => ?_) | refine cs (t := 32) rfl (fun hq3 => ?_) (fun hq3 => ?_)
          ·
            refine gF rfl rfl <| gF rfl rfl <| v0 (S0.pickT rfl rfl) rfl <| v0 (S0.not rfl) rfl <| vE <| WP.condF rfl <| WP.skip <| WP.region <| v0 (S0.move rfl) rfl <| v0 (S0.ari rfl rfl rfl (wrap_i64 (by omega))) rfl <| v0 (S0.assign rfl) rfl <| vE <| ?_
            exact ⟨i + 1, (by first | exact ⟨hlt, hgood (by rw [hb]; simp [*]; try omega)⟩ | (dsimp only; exact ⟨hlt, hgood (by rw [hb]; simp [*]; try omega)⟩)), (by omega), ⟨⟨rfl, rfl, trivial⟩, rfl, rfl⟩, ⟨_, take0⟩⟩
          ·
            refine gT rfl <| v0 (S0.move rfl) rfl <| gT rfl <| v0 (S0.cmp rfl rfl rfl) rfl <| v0 (S0.pickF rfl rfl) rfl <| v0 (S0.not rfl) rfl <| vE <| ?_
            first | refine WP.condP rfl (fun hq4 => ?_) (fun hq4 => ?_) | refine WP.condN rfl (fun hq4 => ?_) (fun hq4 => ?_) | refine WP.cond rfl (fun hq4 => ?_) (fun hq4 => ?_)
            ·
              refine WP.seq <| WP.region <| v0 (S0.assign rfl) rfl <| vE <| WP.ret <| ?_
              refine r1 rfl rfl ⟨?_, rfl⟩
              exact congrArg Value.bool (hbad (by rw [hb]; simp [*]; try omega))
            ·
              refine WP.skip <| WP.region <| v0 (S0.move rfl) rfl <| v0 (S0.ari rfl rfl rfl (wrap_i64 (by omega))) rfl <| v0 (S0.assign rfl) rfl <| vE <| ?_
              exact ⟨i + 1, (by first | exact ⟨hlt, hgood (by rw [hb]; simp [*]; try omega)⟩ | (dsimp only; exact ⟨hlt, hgood (by rw [hb]; simp [*]; try omega)⟩)), (by omega), ⟨⟨rfl, rfl, trivial⟩, rfl, rfl⟩, ⟨_, take0⟩⟩
      ·
        refine gF rfl rfl <| gF rfl rfl <| gT rfl <| v0 (S0.pickF rfl rfl) rfl <| v0 (S0.pickF rfl rfl) rfl <| v0 (S0.move rfl) rfl <| gT rfl <| v0 (S0.move rfl) rfl <| gT rfl <| v0 (S0.cmp rfl rfl rfl) rfl <| v0 (S0.pickF rfl rfl) rfl <| v0 (S0.move rfl) rfl <| ?_
        first | refine csP (t := 32) rfl (fun hq2 => ?_) (fun hq2 => ?_) | refine csN (t := 32) rfl (fun hq2 => ?_) (fun hq2 => ?_) | refine cs (t := 32) rfl (fun hq2 => ?_) (fun hq2 => ?_)
        ·
          refine gF rfl rfl <| gF rfl rfl <| v0 (S0.pickT rfl rfl) rfl <| v0 (S0.not rfl) rfl <| vE <| WP.condF rfl <| WP.skip <| WP.region <| v0 (S0.move rfl) rfl <| v0 (S0.ari rfl rfl rfl (wrap_i64 (by omega))) rfl <| v0 (S0.assign rfl) rfl <| vE <| ?_
          exact ⟨i + 1, (by first | exact ⟨hlt, hgood (by rw [hb]; simp [*]; try omega)⟩ | (dsimp only; exact ⟨hlt, hgood (by rw [hb]; simp [*]; try omega)⟩)), (by omega), ⟨⟨rfl, rfl, trivial⟩, rfl, rfl⟩, ⟨_, take0⟩⟩
        ·
          refine gT rfl <| v0 (S0.move rfl) rfl <| gT rfl <| v0 (S0.cmp rfl rfl rfl) rfl <| v0 (S0.pickF rfl rfl) rfl <| v0 (S0.not rfl) rfl <| vE <| ?_
          first | refine WP.condP rfl (fun hq3 => ?_) (fun hq3 => ?_) | refine WP.condN rfl (fun hq3 => ?_) (fun hq3 => ?_) | refine WP.cond rfl (fun hq3 => ?_) (fun hq3 => ?_)
          ·
            refine WP.seq <| WP.region <| v0 (S0.assign rfl) rfl <| vE <| WP.ret <| ?_
            refine r1 rfl rfl ⟨?_, rfl⟩
            exact congrArg Value.bool (hbad (by rw [hb]; simp [*]; try omega))
          ·
            refine WP.skip <| WP.region <| v0 (S0.move rfl) rfl <| v0 (S0.ari rfl rfl rfl (wrap_i64 (by omega))) rfl <| v0 (S0.assign rfl) rfl <| vE <| ?_
            exact ⟨i + 1, (by first | exact ⟨hlt, hgood (by rw [hb]; simp [*]; try omega)⟩ | (dsimp only; exact ⟨hlt, hgood (by rw [hb]; simp [*]; try omega)⟩)), (by omega), ⟨⟨rfl, rfl, trivial⟩, rfl, rfl⟩, ⟨_, take0⟩⟩
  · skip
    have e : i = s.length := by omega
    subst e
    rw [List.take_length] at hall
    refine WP.exit <| WP.seq <| WP.region <| v0 (S0.move rfl) rfl <| v0 (S0.lenSt rfl) rfl <| v0 (S0.cmp rfl rfl rfl) rfl <| v0 (S0.move rfl) rfl <| ?_
    first | refine csP (t := 40) rfl (fun hq0 => ?_) (fun hq0 => ?_) | refine csN (t := 40) rfl (fun hq0 => ?_) (fun hq0 => ?_) | refine cs (t := 40) rfl (fun hq0 => ?_) (fun hq0 => ?_)
    ·
      refine gT rfl <| v0 (S0.move rfl) rfl <| gT rfl <| v0 (S0.lenSt rfl) rfl <| gT rfl <| v0 (S0.cmp rfl rfl rfl) rfl <| v0 (S0.pickT rfl rfl) rfl <| v0 (S0.assign rfl) rfl <| vE <| WP.ret <| ?_
      refine r1 rfl rfl ⟨?_, rfl⟩
      exact congrArg Value.bool (by rw [Bool.eq_iff_iff]; simp [nameS, hall, ← List.length_pos_iff]; try omega)
    ·
      refine gF rfl rfl <| gF rfl rfl <| gF rfl rfl <| v0 (S0.pickF rfl rfl) rfl <| v0 (S0.assign rfl) rfl <| vE <| WP.ret <| ?_
      refine r1 rfl rfl ⟨?_, rfl⟩
      exact congrArg Value.bool (by rw [Bool.eq_iff_iff]; simp [nameS, hall, ← List.length_pos_iff]; try omega)

theorem levels_mem_len : ∀ (s : Str) (x : Str), x ∈ levels s → x.length ≤ s.length
  | [], x, h => by simp [levels] at h; simp [h]
  | c :: s, x, h => by
    simp only [levels] at h
    split at h
    · rcases List.mem_cons.1 h with rfl | h
      · simp
      · have := levels_mem_len s x h; simp; omega
    · split at h
      · simp at h; simp [h]
      · rename_i l ls e
        rcases List.mem_cons.1 h with rfl | h
        · have := levels_mem_len s l (by rw [e]; simp); simp; omega
        · have := levels_mem_len s x (by rw [e]; simp [h]); simp; omega
theorem rright_spec {s : Str} (hl : s.length ≤ 900000) : FN Tryz.prog 64 [sv s] [] (is (.bool (rightS s)) []) := by
  have hll := levels_len s
  have hlm : ∀ x ∈ levels s, x.length ≤ 1000000 := fun x hx => by have := levels_mem_len s x hx; omega
  refine FN.intro 22 [(0, sv s)] Tryz.func64 rfl (enters Tryz.func64 (by kernel_rfl) rfl) Tryz.ntmps64 rfl rfl ?_
  refine WP.seq <| WP.region <| v0 (S0.assign rfl) rfl <| vE <| WP.seq <| WP.region <| v0 (S0.move rfl) rfl <| ?_  -- op t6 := call F65{rivulet/rivuletref03.Levels}(t5)
  refine vc (S1.callF rfl (rlevels_spec (by omega)) take0) rfl ?_
  rintro _ _ ⟨row, hsl, rfl⟩
  refine app ?_
  obtain ⟨a, cap, rfl, -, hrow⟩ := hsl.strsE
  refine v0 (S0.assign rfl) rfl <| vE <| WP.seq <| WP.seq <| WP.region <| v0 (S0.assign rfl) rfl <| vE <| WP.block <| ?_  -- Code.loop
  refine WP.loop (fun i : Nat => i ≤ (levels s).length ∧ ((levels s).take i).all nameS = true) (fun i : Nat => [(3, .slice a (levels s).length cap), (4, .int .i64 (i : Int))]) (fun i : Nat => [row]) (fun i : Nat => (levels s).length - i) (0) (⟨Nat.zero_le _, by simp⟩) ⟨rfl, rfl, trivial⟩ ⟨_, (take1 at0 take0)⟩ (fun i hinv => ?_) 
  obtain ⟨hi, hall⟩ := hinv
  refine WP.seq <| WP.seq <| WP.region <| v0 (S0.move rfl) rfl <| v0 (S0.move rfl) rfl <| v0 (S0.lenSl rfl) rfl <| v0 (S0.cmp rfl rfl rfl) rfl <| vE <| ?_  -- cond
  first | refine WP.condP rfl (fun h1 => ?_) (fun h1 => ?_) | refine WP.condN rfl (fun h1 => ?_) (fun h1 => ?_) | refine WP.cond rfl (fun h1 => ?_) (fun h1 => ?_)
  · skip
    have hlt : i < (levels s).length := by omega
    rcases hrow with ⟨e, -⟩ | ⟨b1, sp1, rfl, rfl, hsp1⟩
    · rw [e] at hlt; simp at hlt
    have hx : (levels s)[i]? = some (levels s)[i] := by simp [hlt]
    have hxm := hlm _ (List.getElem_mem hlt)
    generalize (levels s)[i] = x at hx hxm
    refine WP.skip <| WP.seq <| WP.block <| WP.seq <| WP.region <| v0 (S0.move rfl) rfl <| v0 (S0.move rfl) rfl <| ?_  -- op t15 := indexAddr 51 t13 t14
    refine v0 (S0.index1 rfl rfl hlt) rfl <| ?_
    refine v0 (S0.load rfl (strs_get hx)) rfl <| ?_
    -- (nothing to walk: op t17 := call F66{rivulet/rivuletref03.Name}(t16))
    refine vcd (S1.callF rfl (rname_spec x hxm) take0) rfl ?_
    refine v0 (S0.not rfl) rfl <| vE <| ?_  -- cond
    first | refine WP.condP rfl (fun h2 => ?_) (fun h2 => ?_) | refine WP.condN rfl (fun h2 => ?_) (fun h2 => ?_) | refine WP.cond rfl (fun h2 => ?_) (fun h2 => ?_)
    · skip
      refine WP.seq <| WP.region <| v0 (S0.assign rfl) rfl <| vE <| WP.ret <| ?_  -- ret
      refine Leaves.drop take0 ?_
      refine r1 rfl rfl ⟨?_, rfl⟩
      have h2' : nameS x = false := by simpa using h2
      have : (levels s).all nameS = false := by
        rw [List.all_eq_false]
        obtain ⟨hlt', e⟩ := List.getElem?_eq_some_iff.1 hx
        exact ⟨x, by rw [← e]; exact List.getElem_mem hlt', by simp [h2']⟩
      simp [rightS, this]
    · skip
      have h2' : nameS x = true := by simpa using h2
      refine WP.skip <| WP.region <| v0 (S0.move rfl) rfl <| v0 (S0.ari rfl rfl rfl (wrap_i64 (by omega))) rfl <| v0 (S0.assign rfl) rfl <| vE <| ?_  -- roundend
      exact ⟨i + 1, (by first | exact ⟨hlt, by rw [List.take_add_one, hx, List.all_append, hall]; simp [h2']⟩ | (dsimp only; exact ⟨hlt, by rw [List.take_add_one, hx, List.all_append, hall]; simp [h2']⟩)), (by omega), ⟨⟨rfl, rfl, trivial⟩, rfl, rfl⟩, ⟨_, (take1 at0 take0)⟩⟩
  · skip
    have e : i = (levels s).length := by omega
    subst e
    rw [List.take_length] at hall
    refine WP.exit <| WP.seq <| WP.region <| v0 (S0.move rfl) rfl <| v0 (S0.lenSl rfl) rfl <| v0 (S0.cmp rfl rfl rfl) rfl <| v0 (S0.assign rfl) rfl <| vE <| WP.ret <| ?_  -- ret
    refine Leaves.drop take0 ?_
    refine r1 rfl rfl ⟨?_, rfl⟩
    rw [rightS, hall, Bool.and_true]
    congr 1; rw [decide_eq_decide]; omega
theorem rfilter_spec {s : Str} (hl : s.length ≤ 900000) : FN Tryz.prog 29 [sv s] [] (is (.bool (filtS s)) []) := by
  have hll := levels_len s
  have hlm : ∀ x ∈ levels s, x.length ≤ 1000000 := fun x hx => by have := levels_mem_len s x hx; omega
  refine FN.intro 43 [(0, sv s)] Tryz.func29 rfl (enters Tryz.func29 (by kernel_rfl) rfl) Tryz.ntmps29 rfl rfl ?_
  refine WP.seq <| WP.region <| v0 (S0.assign rfl) rfl <| vE <| WP.seq <| WP.region <| v0 (S0.move rfl) rfl <| ?_  -- op t6 := call F65{rivulet/rivuletref03.Levels}(t5)
  refine vc (S1.callF rfl (rlevels_spec (by omega)) take0) rfl ?_
  rintro _ _ ⟨row, hsl, rfl⟩
  refine app ?_
  obtain ⟨a, cap, rfl, -, hrow⟩ := hsl.strsE
  refine v0 (S0.assign rfl) rfl <| vE <| WP.seq <| WP.seq <| WP.region <| v0 (S0.assign rfl) rfl <| vE <| WP.block <| ?_  -- Code.loop
  refine WP.loop (fun i : Nat => i ≤ (levels s).length ∧ ∀ j y, j < i → (levels s)[j]? = some y → badAt (levels s) j y = false) (fun i : Nat => [(3, .slice a (levels s).length cap), (4, .int .i64 (i : Int))]) (fun i : Nat => [row]) (fun i : Nat => (levels s).length - i) (0) (⟨by omega, fun j y hj => by omega⟩) ⟨rfl, rfl, trivial⟩ ⟨_, (take1 at0 take0)⟩ (fun i hinv => ?_) 
  obtain ⟨hi, hno⟩ := hinv
  refine WP.seq <| WP.seq <| WP.region <| v0 (S0.move rfl) rfl <| v0 (S0.move rfl) rfl <| v0 (S0.lenSl rfl) rfl <| v0 (S0.cmp rfl rfl rfl) rfl <| vE <| ?_  -- cond
  first | refine WP.condP rfl (fun h1 => ?_) (fun h1 => ?_) | refine WP.condN rfl (fun h1 => ?_) (fun h1 => ?_) | refine WP.cond rfl (fun h1 => ?_) (fun h1 => ?_)
  · skip
    have hlt : i < (levels s).length := by omega
    rcases hrow with ⟨e, -⟩ | ⟨b1, sp1, rfl, rfl, hsp1⟩
    · rw [e] at hlt; simp at hlt
    have hx : (levels s)[i]? = some (levels s)[i] := by simp [hlt]
    have hxm := hlm _ (List.getElem_mem hlt)
    generalize (levels s)[i] = x at hx hxm
    have hlast : ((i : Int) < ((levels s).length : Int) - 1) ↔ ¬ i + 1 = (levels s).length := by omega
    have hb : badAt (levels s) i x = (!nameS x && (!decide (x = [43]) && (!decide (x = [35]) || decide ((i : Int) < ((levels s).length : Int) - 1)))) := by simp [badAt, hlast]
    clear hlast
    have hbad : badAt (levels s) i x = true → false = filtS s := fun e => by
      have : ¬ filtL (levels s) = true := fun hf => by have := (filtL_iff _).1 hf i _ hx; rw [e] at this; cases this
      have : filtL (levels s) = false := by simpa using this
      simp [filtS, this]
    have hgood : badAt (levels s) i x = false → ∀ j y, j < i + 1 → (levels s)[j]? = some y → badAt (levels s) j y = false := fun e => below_at (p := fun j y => badAt (levels s) j y = false) hno hx e
    refine WP.skip <| WP.seq <| WP.block <| WP.seq <| WP.region <| v0 (S0.move rfl) rfl <| v0 (S0.move rfl) rfl <| ?_  -- op t15 := indexAddr 51 t13 t14
    refine v0 (S0.index1 rfl rfl hlt) rfl <| ?_
    refine v0 (S0.load rfl (strs_get hx)) rfl <| ?_
    -- (nothing to walk: op t17 := call F66{rivulet/rivuletref03.Name}(t16))
    refine vcd (S1.callF rfl (rname_spec x hxm) take0) rfl ?_
    refine v0 (S0.not rfl) rfl <| v0 (S0.move rfl) rfl <| ?_  -- guard t19 (wants True) at t20 := move t3 [if #6=True]
    first | refine csP (t := 19) rfl (fun h2 => ?_) (fun h2 => ?_) | refine csN (t := 19) rfl (fun h2 => ?_) (fun h2 => ?_) | refine cs (t := 19) rfl (fun h2 => ?_) (fun h2 => ?_)
    · skip
      refine gT rfl <| v0 (S0.move rfl) rfl <| gT rfl <| v0 (S0.move rfl) rfl <| ?_  -- op t22 := indexAddr 51 t20 t21 [if #6=True]
      refine gT rfl <| v0 (S0.index1 rfl rfl hlt) rfl <| ?_
      refine gT rfl <| v0 (S0.load rfl (strs_get hx)) rfl <| ?_
      refine gT rfl <| v0 (S0.cmpS rfl rfl rfl) rfl <| v0 (S0.pickT rfl rfl) rfl <| v0 (S0.move rfl) rfl <| ?_  -- guard t26 (wants True) at t27 := move t3 [if #13=True]
      first | refine csP (t := 26) rfl (fun h3 => ?_) (fun h3 => ?_) | refine csN (t := 26) rfl (fun h3 => ?_) (fun h3 => ?_) | refine cs (t := 26) rfl (fun h3 => ?_) (fun h3 => ?_)
      · skip
        refine gT rfl <| v0 (S0.move rfl) rfl <| gT rfl <| v0 (S0.move rfl) rfl <| ?_  -- op t29 := indexAddr 51 t27 t28 [if #13=True]
        refine gT rfl <| v0 (S0.index1 rfl rfl hlt) rfl <| ?_
        refine gT rfl <| v0 (S0.load rfl (strs_get hx)) rfl <| ?_
        refine gT rfl <| v0 (S0.cmpS rfl rfl rfl) rfl <| gT rfl <| v0 (S0.move rfl) rfl <| ?_  -- guard t32 (wants False) at t33 := move t4 [if #19=False]
        first | refine csP (t := 32) rfl (fun hq0 => ?_) (fun hq0 => ?_) | refine csN (t := 32) rfl (fun hq0 => ?_) (fun hq0 => ?_) | refine cs (t := 32) rfl (fun hq0 => ?_) (fun hq0 => ?_)
        ·
          refine gF rfl rfl <| gF rfl rfl <| gF rfl rfl <| gF rfl rfl <| gF rfl rfl <| gT rfl <| v0 (S0.pickT rfl rfl) rfl <| v0 (S0.pickT rfl rfl) rfl <| vE <| WP.condT rfl <| WP.seq <| WP.region <| v0 (S0.assign rfl) rfl <| vE <| WP.ret <| ?_
          refine Leaves.drop take0 ?_
          refine r1 rfl rfl ⟨?_, rfl⟩
          exact congrArg Value.bool (hbad (by rw [hb]; simp [not_name_rest, *]))
        ·
          refine gT rfl <| v0 (S0.move rfl) rfl <| gT rfl <| v0 (S0.move rfl) rfl <| gT rfl <| v0 (S0.lenSl rfl) rfl <| gT rfl <| v0 (S0.ari rfl rfl rfl (wrap_i64 (by omega))) rfl <| gT rfl <| v0 (S0.cmp rfl rfl rfl) rfl <| gT rfl <| v0 (S0.pickF rfl rfl) rfl <| v0 (S0.pickT rfl rfl) rfl <| vE <| ?_
          first | refine WP.condP rfl (fun hq1 => ?_) (fun hq1 => ?_) | refine WP.condN rfl (fun hq1 => ?_) (fun hq1 => ?_) | refine WP.cond rfl (fun hq1 => ?_) (fun hq1 => ?_)
          ·
            refine WP.seq <| WP.region <| v0 (S0.assign rfl) rfl <| vE <| WP.ret <| ?_
            refine Leaves.drop take0 ?_
            refine r1 rfl rfl ⟨?_, rfl⟩
            exact congrArg Value.bool (hbad (by rw [hb]; simp [not_name_rest, *]))
          ·
            refine WP.skip <| WP.region <| v0 (S0.move rfl) rfl <| v0 (S0.ari rfl rfl rfl (wrap_i64 (by omega))) rfl <| v0 (S0.assign rfl) rfl <| vE <| ?_
            exact ⟨i + 1, (by first | exact ⟨hlt, hgood (by rw [hb]; simp [not_name_rest, *])⟩ | (dsimp only; exact ⟨hlt, hgood (by rw [hb]; simp [not_name_rest, *])⟩)), (by omega), ⟨⟨rfl, rfl, trivial⟩, rfl, rfl⟩, ⟨_, (take1 at0 take0)⟩⟩
      · skip
        refine gF rfl rfl <| gF rfl rfl <| gF rfl rfl <| gF rfl rfl <| gF rfl rfl <| gF rfl rfl <| gF rfl rfl <| gF rfl rfl <| gF rfl rfl <| gF rfl rfl <| gF rfl rfl <| gF rfl rfl <| v0 (S0.pickF rfl rfl) rfl <| vE <| WP.condF rfl <| WP.skip <| WP.region <| v0 (S0.move rfl) rfl <| v0 (S0.ari rfl rfl rfl (wrap_i64 (by omega))) rfl <| v0 (S0.assign rfl) rfl <| vE <| ?_  -- roundend
        exact ⟨i + 1, (by first | exact ⟨hlt, hgood (by rw [hb]; simp [h3])⟩ | (dsimp only; exact ⟨hlt, hgood (by rw [hb]; simp [h3])⟩)), (by omega), ⟨⟨rfl, rfl, trivial⟩, rfl, rfl⟩, ⟨_, (take1 at0 take0)⟩⟩
    · skip
      refine gF rfl rfl <| gF rfl rfl <| gF rfl rfl <| gF rfl rfl <| gF rfl rfl <| v0 (S0.pickF rfl rfl) rfl <| v0 (S0.move rfl) rfl <| gF rfl rfl <| gF rfl rfl <| gF rfl rfl <| gF rfl rfl <| gF rfl rfl <| gF rfl rfl <| gF rfl rfl <| gF rfl rfl <| gF rfl rfl <| gF rfl rfl <| gF rfl rfl <| gF rfl rfl <| v0 (S0.pickF rfl rfl) rfl <| vE <| WP.condF rfl <| WP.skip <| WP.region <| v0 (S0.move rfl) rfl <| v0 (S0.ari rfl rfl rfl (wrap_i64 (by omega))) rfl <| v0 (S0.assign rfl) rfl <| vE <| ?_  -- roundend
      exact ⟨i + 1, (by first | exact ⟨hlt, hgood (by rw [hb]; simp at h2; simp [h2])⟩ | (dsimp only; exact ⟨hlt, hgood (by rw [hb]; simp at h2; simp [h2])⟩)), (by omega), ⟨⟨rfl, rfl, trivial⟩, rfl, rfl⟩, ⟨_, (take1 at0 take0)⟩⟩
  · skip
    have h8 : filtL (levels s) = true := (filtL_iff _).2 fun j y hj => hno j y (by have := (List.getElem?_eq_some_iff.1 hj).1; omega) hj
    refine WP.exit <| WP.seq <| WP.region <| v0 (S0.move rfl) rfl <| v0 (S0.lenSl rfl) rfl <| v0 (S0.cmp rfl rfl rfl) rfl <| v0 (S0.assign rfl) rfl <| vE <| WP.ret <| ?_  -- ret
    refine Leaves.drop take0 ?_
    refine r1 rfl rfl ⟨?_, rfl⟩
    rw [filtS, h8, Bool.and_true]
    congr 1; rw [decide_eq_decide]; omega

theorem rrow_spec {s : Str} {n : Nat} (hl : s.length ≤ 900000) (hn : n ≤ 900000) : FN Tryz.prog 90 [sv s, .int .i64 (n : Int)] [] (fun v h => ∃ rv row, IsSl 9 1 rv (strs (rowL (levels s) n).1) row ∧ v = .tuple ⟨[rv, .bool (rowL (levels s) n).2]⟩ ∧ h = [row]) := by
  have hll := levels_len s
  have hpos : 0 < (levels s).length := List.length_pos_iff.2 (levels_ne s)
  have hk : ((levels s).length : Int) - 1 = (((levels s).length - 1 : Nat) : Int) := by omega
  have hlt : (levels s).length - 1 < (levels s).length := by omega
  obtain ⟨x, hx⟩ : ∃ x, (levels s)[(levels s).length - 1]? = some x := ⟨_, List.getElem?_eq_getElem hlt⟩
  have hlast : (levels s).getLast? = some x := by rw [List.getLast?_eq_getElem?, hx]
  have erow : rowL (levels s) n = if x = [35] then ((levels s).take ((levels s).length - 1) ++ List.replicate (n - ((levels s).length - 1)) [43], decide ((levels s).length - 1 ≤ n)) else (levels s, decide ((levels s).length = n)) := by
    unfold rowL; rw [hlast]
  refine FN.intro 41 [(0, sv s), (1, .int .i64 (n : Int))] Tryz.func90 rfl (enters Tryz.func90 (by kernel_rfl) rfl) Tryz.ntmps90 rfl rfl ?_
  refine WP.seq <| WP.region <| v0 (S0.assign rfl) rfl <| v0 (S0.assign rfl) rfl <| vE <| WP.seq <| WP.region <| v0 (S0.move rfl) rfl <| ?_  -- op t10 := call F65{rivulet/rivuletref03.Levels}(t9)
  refine vc (S1.callF rfl (rlevels_spec (by omega)) take0) rfl ?_
  rintro _ _ ⟨row, hsl, rfl⟩
  refine app ?_
  obtain ⟨a, cap, rfl, hcap, hrow⟩ := hsl.strsE
  rcases hrow with ⟨e, -⟩ | ⟨b1, sp1, rfl, rfl, hsp1⟩
  · exact absurd e (levels_ne s)
  refine v0 (S0.assign rfl) rfl <| vE <| WP.seq <| WP.region <| v0 (S0.move rfl) rfl <| v0 (S0.lenSl rfl) rfl <| v0 (S0.assign rfl) rfl <| vE <| WP.seq <| WP.seq <| WP.region <| v0 (S0.move rfl) rfl <| v0 (S0.move rfl) rfl <| v0 (S0.ari rfl rfl rfl (wrap_i64 (by omega))) rfl <| ?_  -- op t16 := indexAddr 51 t13 t15
  rw [hk]
  refine v0 (S0.index1 rfl rfl hlt) rfl <| ?_
  refine v0 (S0.load rfl (strs_get hx)) rfl <| ?_
  refine v0 (S0.cmpS rfl rfl rfl) rfl <| vE <| ?_  -- cond
  first | refine WP.condP rfl (fun h1 => ?_) (fun h1 => ?_) | refine WP.condN rfl (fun h1 => ?_) (fun h1 => ?_) | refine WP.cond rfl (fun h1 => ?_) (fun h1 => ?_)
  · skip
    refine WP.seq <| WP.region <| v0 (S0.move rfl) rfl <| v0 (S0.move rfl) rfl <| v0 (S0.move rfl) rfl <| v0 (S0.cmp rfl rfl rfl) rfl <| v0 (S0.assign rfl) rfl <| v0 (S0.assign rfl) rfl <| vE <| WP.ret <| ?_  -- ret
    refine r2 rfl rfl rfl ?_
    rw [erow, if_neg h1, show decide (((levels s).length : Int) = (n : Int)) = decide ((levels s).length = n) from decide_eq_decide.2 (by omega)]
    exact ⟨_, _, hsl, rfl, rfl⟩
  · skip
    rw [erow, if_pos h1]
    obtain ⟨hw, hle⟩ := strs_cut sp1 (levels s) 0 ((levels s).length - 1) cap (Nat.zero_le _) (by omega) hcap
    rw [List.drop_zero, Nat.sub_zero] at hw
    have htl : ((levels s).take ((levels s).length - 1)).length = (levels s).length - 1 := by simp
    refine WP.skip <| WP.seq <| WP.region <| vnv (S1.buildSlice rfl (qs := []) rfl rfl) rfl fun b23 => v0 (S0.move rfl) rfl <| v0 (S0.move rfl) rfl <| v0 (S0.ari rfl rfl rfl (wrap_i64 (by omega))) rfl <| ?_  -- op t27 := slice 51 t24 none t26 none
    rw [hk]
    refine v0 (S0.slice (i := 0) (j := (levels s).length - 1) rfl rfl rfl ⟨Nat.zero_le _, by omega⟩) rfl <| ?_
    refine ve (S1.appendS rfl (IsSl.row (n := 0) (c := 0) (l := []) (sp := []) rfl rfl (Nat.le_refl _)) rfl hle hw at0 (strs_cv _) rfl (by rw [strs_len, htl]; simp only [List.length_nil]; omega)) rfl ?_
    rintro v2 _ ⟨row2, hsl2, rfl⟩
    refine v0 (S0.assign rfl) rfl <| vE <| WP.seq <| WP.block <| ?_  -- Code.loop
    refine WP.loop (fun st : Nat × Value × List Blk => st.1 ≤ n - ((levels s).length - 1) ∧ IsSl 9 1 st.2.1 (strs ((levels s).take ((levels s).length - 1) ++ List.replicate st.1 [43])) st.2.2) (fun st : Nat × Value × List Blk => [(1, .int .i64 (n : Int)), (8, st.2.1)]) (fun st : Nat × Value × List Blk => [st.2.2]) (fun st : Nat × Value × List Blk => n - st.1) ((0, v2, row2)) (⟨Nat.zero_le _, by simpa [strs] using hsl2⟩) ⟨rfl, rfl, trivial⟩ ⟨_, (take1 at0 take0)⟩ (fun st hinv => ?_) 
    obtain ⟨j, lv, lrow⟩ := st
    obtain ⟨hj, hsl3⟩ := hinv
    dsimp only at hj hsl3 ⊢
    have hlen : ((levels s).take ((levels s).length - 1) ++ List.replicate j [43]).length = (levels s).length - 1 + j := by simp
    obtain ⟨a3, c3, rfl, -, -⟩ := hsl3.strsE
    rw [hlen] at hsl3 ⊢
    refine WP.seq <| WP.seq <| WP.region <| v0 (S0.move rfl) rfl <| v0 (S0.lenSl rfl) rfl <| v0 (S0.move rfl) rfl <| v0 (S0.cmp rfl rfl rfl) rfl <| vE <| ?_  -- cond
    first | refine WP.condP rfl (fun h2 => ?_) (fun h2 => ?_) | refine WP.condN rfl (fun h2 => ?_) (fun h2 => ?_) | refine WP.cond rfl (fun h2 => ?_) (fun h2 => ?_)
    · skip
      refine WP.skip <| WP.block <| WP.region <| v0 (S0.move rfl) rfl <| vnv (S1.buildSlice rfl (qs := [(0, _)]) rfl rfl) rfl fun b34 => ?_  -- op t35 := append(t33, t34) :[51, 51]
      refine ve (S1.appendL rfl hsl3 rfl rfl (atS at0) rfl rfl (by rw [strs_len, hlen]; simp; omega)) rfl ?_
      rintro v4 _ ⟨row4, hsl4, rfl⟩
      have hsl5 : IsSl 9 1 v4 (strs ((levels s).take ((levels s).length - 1) ++ List.replicate (j + 1) [43])) row4 := by
        rw [List.replicate_succ']
        simpa [strs] using hsl4
      refine v0 (S0.assign rfl) rfl <| vE <| ?_  -- roundend
      exact ⟨(j + 1, v4, row4), (by first | exact ⟨by omega, hsl5⟩ | (dsimp only; exact ⟨by omega, hsl5⟩)), (show n - (j + 1) < n - j by omega), ⟨⟨rfl, rfl, trivial⟩, rfl, rfl⟩, ⟨_, (take1 at0 take0)⟩⟩
    · skip
      have e : j = n - ((levels s).length - 1) := by omega
      refine WP.exit <| WP.seq <| WP.region <| v0 (S0.move rfl) rfl <| v0 (S0.move rfl) rfl <| v0 (S0.lenSl rfl) rfl <| v0 (S0.move rfl) rfl <| v0 (S0.cmp rfl rfl rfl) rfl <| v0 (S0.assign rfl) rfl <| v0 (S0.assign rfl) rfl <| vE <| WP.ret <| ?_  -- ret
      refine r2 rfl rfl rfl ?_
      rw [show decide ((((levels s).length - 1 + j : Nat) : Int) = (n : Int)) = decide ((levels s).length - 1 ≤ n) from decide_eq_decide.2 (by omega)]
      exact ⟨_, _, by rw [← e]; exact hsl3, rfl, rfl⟩
theorem rowOk_take : ∀ (f t : List Str) (i : Nat) (x y : Str), f[i]? = some x → t[i]? = some y → (decide (x = [43]) || decide (x = y)) = false → rowOk f t = false
  | [], _, i, x, y, h, _, _ => by simp at h
  | _ :: _, [], i, x, y, _, h, _ => by simp at h
  | a :: f, b :: t, 0, x, y, h1, h2, h3 => by
    simp at h1 h2; subst h1 h2
    simp only [rowOk, h3, Bool.false_and]
  | a :: f, b :: t, i + 1, x, y, h1, h2, h3 => by
    simp only [rowOk, rowOk_take f t i x y (by simpa using h1) (by simpa using h2) h3, Bool.and_false]
theorem rowOk_all : ∀ (f t : List Str), (∀ (i : Nat) (x y : Str), f[i]? = some x → t[i]? = some y → (decide (x = [43]) || decide (x = y)) = true) → rowOk f t = true
  | [], _, _ => by simp [rowOk]
  | _ :: _, [], _ => by simp [rowOk]
  | a :: f, b :: t, h => by
    have h0 := h 0 a b rfl rfl
    simp only [rowOk, h0, Bool.true_and]
    exact rowOk_all f t fun i x y hx hy => h (i + 1) x y (by simpa using hx) (by simpa using hy)
theorem rmatch_spec {f t : Str} (hf : f.length ≤ 800000) (ht : t.length ≤ 800000) : FN Tryz.prog 62 [sv f, sv t] [] (is (.bool (matchS f t)) []) := by
  refine FN.intro 52 [(0, sv f), (1, sv t)] Tryz.func62 rfl (enters Tryz.func62 (by kernel_rfl) rfl) Tryz.ntmps62 rfl rfl ?_
  refine WP.seq <| WP.region <| v0 (S0.assign rfl) rfl <| vE <| WP.seq <| WP.seq <| WP.region <| v0 (S0.move rfl) rfl <| ?_  -- op t10 := call F29{rivulet/rivuletref03.Filter}(t9)
  refine vcd (S1.callF rfl (rfilter_spec (show f.length ≤ 900000 by omega)) take0) rfl ?_
  refine v0 (S0.not rfl) rfl <| v0 (S0.move rfl) rfl <| ?_  -- guard t12 (wants False) at t13 := move t1 [if #3=False]
  first | refine csP (t := 12) rfl (fun hF => ?_) (fun hF => ?_) | refine csN (t := 12) rfl (fun hF => ?_) (fun hF => ?_) | refine cs (t := 12) rfl (fun hF => ?_) (fun hF => ?_)
  · skip
    refine gF rfl rfl <| gF rfl rfl <| gF rfl rfl <| v0 (S0.pickT rfl rfl) rfl <| vE <| WP.condT rfl <| WP.seq <| WP.region <| v0 (S0.assign rfl) rfl <| vE <| WP.ret <| ?_  -- ret
    refine r1 rfl rfl ⟨?_, rfl⟩
    have : filtS f = false := by simpa using hF
    simp [matchS, this]
  · skip
    have hF : filtS f = true := by simpa using hF
    refine gT rfl <| v0 (S0.move rfl) rfl <| ?_  -- op t14 := call F64{rivulet/rivuletref03.Right}(t13) [if #3=False]
    refine gT rfl <| vcd (S1.callF rfl (rright_spec (show t.length ≤ 900000 by omega)) take0) rfl ?_
    refine gT rfl <| v0 (S0.not rfl) rfl <| v0 (S0.pickF rfl rfl) rfl <| vE <| ?_  -- cond
    first | refine WP.condP rfl (fun hR => ?_) (fun hR => ?_) | refine WP.condN rfl (fun hR => ?_) (fun hR => ?_) | refine WP.cond rfl (fun hR => ?_) (fun hR => ?_)
    · skip
      refine WP.seq <| WP.region <| v0 (S0.assign rfl) rfl <| vE <| WP.ret <| ?_  -- ret
      refine r1 rfl rfl ⟨?_, rfl⟩
      have : rightS t = false := by simpa using hR
      simp [matchS, this]
    · skip
      have hR : rightS t = true := by simpa using hR
      have htl := levels_len t
      have hFl : filtL (levels f) = true := by simp [filtS] at hF; exact hF.2
      have em : matchS f t = ((rowL (levels f) (levels t).length).2 && rowOk (rowL (levels f) (levels t).length).1 (levels t)) := by
        rw [matchS, hF, hR, matchL_row _ _ hFl (levels_ne f)]; rfl
      have hrl := rowL_len (l := levels f) (n := (levels t).length)
      rw [em]
      refine WP.skip <| WP.seq <| WP.region <| v0 (S0.move rfl) rfl <| ?_  -- op t18 := call F65{rivulet/rivuletref03.Levels}(t17)
      refine vc (S1.callF rfl (rlevels_spec (by omega)) take0) rfl ?_
      rintro _ _ ⟨rt, hst, rfl⟩
      refine app ?_
      obtain ⟨at', ct, rfl, -, hrt⟩ := hst.strsE
      refine v0 (S0.assign rfl) rfl <| vE <| WP.seq <| WP.region <| v0 (S0.move rfl) rfl <| v0 (S0.move rfl) rfl <| v0 (S0.lenSl rfl) rfl <| ?_  -- op t23 := call F90{rivulet/rivuletref03.Row}(t20, t22)
      refine vc (S1.callF rfl (rrow_spec (n := (levels t).length) (show f.length ≤ 900000 by omega) (by omega)) take0) rfl ?_
      rintro _ _ ⟨rv, rf, hsf, rfl, rfl⟩
      refine app ?_
      generalize (rowL (levels f) (levels t).length).2 = q at hrl
      generalize (rowL (levels f) (levels t).length).1 = F at hrl hsf
      obtain ⟨af, cf, rfl, -, hrf⟩ := hsf.strsE
      refine v0 (S0.move rfl) rfl <| v0 (S0.extract rfl rfl) rfl <| v0 (S0.extract rfl rfl) rfl <| v0 (S0.assign rfl) rfl <| v0 (S0.assign rfl) rfl <| vE <| WP.seq <| WP.seq <| WP.region <| v0 (S0.assign rfl) rfl <| vE <| WP.block <| ?_  -- Code.loop
      refine WP.loop (fun st : Nat × Bool => st.1 ≤ (levels t).length ∧ (st.2 = true → q = true ∧ ∀ j x y, j < st.1 → F[j]? = some x → (levels t)[j]? = some y → (decide (x = [43]) || decide (x = y)) = true) ∧ (st.2 = false → (q && rowOk F (levels t)) = false)) (fun st : Nat × Bool => [(5, .slice at' (levels t).length ct), (6, .slice af F.length cf), (7, .bool st.2), (8, .int .i64 (st.1 : Int))]) (fun st : Nat × Bool => [rf, rt]) (fun st : Nat × Bool => (levels t).length - st.1) ((0, q)) (⟨Nat.zero_le _, fun e => ⟨e, fun j x y hj => by omega⟩, fun e => by simp at e; simp [e]⟩) ⟨rfl, rfl, rfl, rfl, trivial⟩ ⟨_, (take1 at0 (take1 at0 take0))⟩ (fun st hinv => ?_) 
      obtain ⟨i, is⟩ := st
      obtain ⟨hi, htr, hfa⟩ := hinv
      dsimp only at hi htr hfa ⊢
      refine WP.seq <| WP.seq <| WP.region <| v0 (S0.move rfl) rfl <| v0 (S0.move rfl) rfl <| v0 (S0.lenSl rfl) rfl <| v0 (S0.cmp rfl rfl rfl) rfl <| v0 (S0.move rfl) rfl <| ?_  -- guard t30 (wants True) at t31 := move t7 [if #4=True]
      first | refine csP (t := 30) rfl (fun h1 => ?_) (fun h1 => ?_) | refine csN (t := 30) rfl (fun h1 => ?_) (fun h1 => ?_) | refine cs (t := 30) rfl (fun h1 => ?_) (fun h1 => ?_)
      · skip
        refine gT rfl <| v0 (S0.move rfl) rfl <| v0 (S0.pickT rfl rfl) rfl <| vE <| ?_  -- cond
        skip
        cases is with
        | true =>
          skip
          obtain ⟨rfl, hok⟩ := htr rfl
          have hFl := hrl rfl
          have hlt : i < (levels t).length := by omega
          have hlt2 : i < F.length := by omega
          rcases hrf with ⟨e, -⟩ | ⟨b1, sp1, rfl, rfl, hsp1⟩
          · rw [e] at hlt2; simp at hlt2
          rcases hrt with ⟨e, -⟩ | ⟨b2, sp2, rfl, rfl, hsp2⟩
          · rw [e] at hlt; simp at hlt
          have hx : F[i]? = some F[i] := by simp [hlt2]
          have hy : (levels t)[i]? = some (levels t)[i] := by simp [hlt]
          generalize F[i] = x at hx
          generalize (levels t)[i] = y at hy
          have hbad : (decide (x = [43]) || decide (x = y)) = false → (true && rowOk F (levels t)) = false := fun e => by rw [rowOk_take F _ i x y hx hy e]; rfl
          have hgood : (decide (x = [43]) || decide (x = y)) = true → ∀ (j : Nat) (x y : Str), j < i + 1 → F[j]? = some x → (levels t)[j]? = some y → (decide (x = [43]) || decide (x = y)) = true := fun e j x' y' hj hx' hy' => by
            by_cases ej : j = i
            · subst ej; rw [hx] at hx'; rw [hy] at hy'; cases hx'; cases hy'; exact e
            · exact hok j x' y' (by omega) hx' hy'
          refine WP.condTh rfl (rfl) ?_
          skip
          refine WP.skip <| WP.seq <| WP.block <| WP.drawP [(0, none), (1, none), (2, none), (3, none), (4, none), (5, none), (6, none), (7, none), (8, none), (9, none), (10, none), (11, none), (12, none), (13, none), (14, none), (15, none), (16, none)] mixed (by kernel_rfl) (by kernel_rfl) (by kernel_rfl) (take1 at0 (take1 at0 take0)) <| w0 rfl rfl rfl (S0.move rfl) rfl <| w0 rfl rfl rfl (S0.move rfl) rfl <| ?_  -- op t37 := indexAddr 51 t35 t36
          refine w0 rfl rfl rfl (S0.index1 rfl rfl hlt2) rfl <| ?_
          refine w0 rfl rfl rfl (S0.load rfl (strs_get hx)) rfl <| ?_
          refine w0 rfl rfl rfl (S0.cmpS rfl rfl rfl) rfl <| w0 rfl rfl rfl (S0.move rfl) rfl <| ?_  -- guard t40 (wants False) at t41 := move t6 [if #5=False]
          first | refine wcsP (t := 40) rfl (fun h2 => ?_) (fun h2 => ?_) | refine wcsN (t := 40) rfl (fun h2 => ?_) (fun h2 => ?_) | refine wcs (t := 40) rfl (fun h2 => ?_) (fun h2 => ?_)
          · skip
            refine wF rfl rfl rfl rfl <| wF rfl rfl rfl rfl <| wF rfl rfl rfl rfl <| wF rfl rfl rfl rfl <| wF rfl rfl rfl rfl <| wF rfl rfl rfl rfl <| wF rfl rfl rfl rfl <| wF rfl rfl rfl rfl <| wF rfl rfl rfl rfl <| w0 rfl rfl rfl (S0.pickT rfl rfl) rfl <| w0 rfl rfl rfl (S0.assign rfl) rfl <| wE <| WP.region <| v0 (S0.move rfl) rfl <| v0 (S0.ari rfl rfl rfl (wrap_i64 (by omega))) rfl <| v0 (S0.assign rfl) rfl <| vE <| ?_  -- roundend
            exact ⟨(i + 1, true), (by first | exact ⟨hlt, fun _ => ⟨rfl, hgood (by simp [h2])⟩, fun e => by cases e⟩ | (dsimp only; exact ⟨hlt, fun _ => ⟨rfl, hgood (by simp [h2])⟩, fun e => by cases e⟩)), (show (levels t).length - (i + 1) < (levels t).length - i by omega), ⟨⟨rfl, rfl, rfl, rfl, trivial⟩, rfl, rfl⟩, ⟨_, (take1 at0 (take1 at0 take0))⟩⟩
          · skip
            refine w0 rfl rfl rfl (S0.move rfl) rfl <| w0 rfl rfl rfl (S0.move rfl) rfl <| ?_  -- op t43 := indexAddr 51 t41 t42 [if #5=False]
            refine w0 rfl rfl rfl (S0.index1 rfl rfl hlt2) rfl <| ?_
            refine w0 rfl rfl rfl (S0.load rfl (strs_get hx)) rfl <| ?_
            refine w0 rfl rfl rfl (S0.move rfl) rfl <| w0 rfl rfl rfl (S0.move rfl) rfl <| ?_  -- op t47 := indexAddr 51 t45 t46 [if #5=False]
            refine w0 rfl rfl rfl (S0.index1 rfl rfl hlt) rfl <| ?_
            refine w0 rfl rfl rfl (S0.load rfl (strs_get hy)) rfl <| ?_
            refine w0 rfl rfl rfl (S0.cmpS rfl rfl rfl) rfl <| w0 rfl rfl rfl (S0.pickF rfl rfl) rfl <| w0 rfl rfl rfl (S0.assign rfl) rfl <| wE <| WP.region <| v0 (S0.move rfl) rfl <| v0 (S0.ari rfl rfl rfl (wrap_i64 (by omega))) rfl <| v0 (S0.assign rfl) rfl <| vE <| ?_  -- roundend
            exact ⟨(i + 1, decide (x = y)), (by first | exact ⟨hlt, fun e => ⟨rfl, hgood (by simp at e; simp [e])⟩, fun e => hbad (by simp at e; simp [e, h2])⟩ | (dsimp only; exact ⟨hlt, fun e => ⟨rfl, hgood (by simp at e; simp [e])⟩, fun e => hbad (by simp at e; simp [e, h2])⟩)), (show (levels t).length - (i + 1) < (levels t).length - i by omega), ⟨⟨rfl, rfl, rfl, rfl, trivial⟩, rfl, rfl⟩, ⟨_, (take1 at0 (take1 at0 take0))⟩⟩
        | false =>
          skip
          refine WP.condFh rfl (rfl) ?_
          refine WP.exit <| WP.seq <| WP.region <| v0 (S0.move rfl) rfl <| v0 (S0.assign rfl) rfl <| vE <| WP.ret <| ?_  -- ret
          refine Leaves.drop take0 ?_
          refine r1 rfl rfl ⟨?_, rfl⟩
          rw [hfa rfl]
      · skip
        refine gF rfl rfl <| v0 (S0.pickF rfl rfl) rfl <| vE <| WP.condF rfl <| WP.exit <| WP.seq <| WP.region <| v0 (S0.move rfl) rfl <| v0 (S0.assign rfl) rfl <| vE <| WP.ret <| ?_  -- ret
        refine Leaves.drop take0 ?_
        refine r1 rfl rfl ⟨?_, rfl⟩
        cases is with
        | true =>
          obtain ⟨rfl, hok⟩ := htr rfl
          rw [rowOk_all F (levels t) fun j x y hx hy => hok j x y (by have := (List.getElem?_eq_some_iff.1 hy).1; omega) hx hy]
          rfl
        | false => rw [hfa rfl]
end Go.Proofs.YtanecnnfpdhadaaGreatDoor
/- View -/
/-
  Slices that are read: cuts of rows among them.
-/
namespace Go.Proofs.YtanecnnfpdhadaaGreatDoor
open Go

/-- a slice that is read: its elements are laid by 'en' -/
def Rd {α : Type} (k : Nat) (en : α → List Value) (v : Value) (R : List α) (c : List Blk) : Prop :=
  ∃ a cap, v = .slice a R.length cap ∧ R.length ≤ cap ∧ (R = [] ∨ ∃ b o L U fz, a = some ⟨b, o, none⟩ ∧ (b, Obj.cells ⟨L⟩ U fz) ∈ c ∧ ∀ i x, R[i]? = some x → (L.drop (o + i * k)).take k = en x)
theorem Rd.nil {α : Type} {k : Nat} {en : α → List Value} {c : List Blk} : Rd k en (.slice none 0 0) ([] : List α) c := ⟨none, 0, rfl, Nat.le_refl _, .inl rfl⟩
theorem IsSl.rd {α : Type} {en : α → List Value} {E : TypeId} {k : Nat} (hk : ∀ x, (en x).length = k + 1) {R : List α} {v : Value} {row : List Blk} (h : IsSl E (k + 1) v (R.flatMap en) row) : Rd (k + 1) en v R row := by
  obtain ⟨a, cap, rfl, hc, hr⟩ := IsSl.elems hk h
  refine ⟨a, cap, rfl, hc, ?_⟩
  rcases hr with ⟨h0, -⟩ | ⟨b, sp, rfl, rfl, -⟩
  · exact .inl h0
  · refine .inr ⟨b, 0, _, _, _, rfl, List.mem_cons_self, fun i x hx => ?_⟩
    rw [Nat.zero_add]
    exact flat_take (k := k + 1) hk sp R i x hx
theorem Rd.mono {α : Type} {k : Nat} {en : α → List Value} {v : Value} {R : List α} {c c' : List Blk} (h : Rd k en v R c) (hs : ∀ p ∈ c, p ∈ c') : Rd k en v R c' := by
  obtain ⟨a, cap, e, hc, h⟩ := h
  exact ⟨a, cap, e, hc, h.imp id fun ⟨b, o, L, U, fz, e1, e2, e3⟩ => ⟨b, o, L, U, fz, e1, hs _ e2, e3⟩⟩
theorem rd_get {α : Type} {k : Nat} {en : α → List Value} {L : List Value} {m : Nat} {x : α} (h : (L.drop m).take k = en x) {j : Nat} (hj : j < k) : L[m + j]? = (en x)[j]? := by
  rw [← h, List.getElem?_take_of_lt hj, List.getElem?_drop]
section
variable {P : Program} {f : Fr} {d : Option Tmp} {ty : TypeId} {p : String} {af : Array Edge} {gd : Option (Nat × Bool)} {SL : List Blk} {T E : TypeId} {x : Operand} {k by_ : Nat} {zv : Value}
/-- a cut of a slice, whatever its base -/
theorem S0.sliceG {a : Option Addr} {n c : Nat} {lo hi : Option Operand} {i j : Nat} [kk : Und P T (.slice E)] [ki : Inf P E k by_ zv] (hx : ev f x = some (.slice a n c))
    (hlo : match lo with | none => i = 0 | some y => ev f y = some (.int .i64 i)) (hhi : match hi with | none => j = n | some y => ev f y = some (.int .i64 j)) (hij : i ≤ j ∧ j ≤ c) :
    S0 P f SL ⟨d, .slice T x lo hi none, ty, p, af, gd⟩ (.slice (if c = i then a else a.map (·.add (i * k))) (j - i) (c - i)) :=
  S0.pure (by intro c; simp) (by intro c; simp) fun ρ w k' => by
    obtain ⟨h1, h2⟩ := hij
    have e1 : ∀ (bd : BoundsCode) (m : Nat), j ≤ m → (Instr.sliceBound (.int .i64 j) m bd).run P w = .ok j w := fun bd m hm => by
      simp only [Instr.sliceBound, asIntOf, Sem.run_bind, Sem.run_pure, Result.andThen_ok]
      rw [if_pos ⟨by omega, by omega⟩]; simp
    have e2 : ∀ (bd : BoundsCode) (m : Nat), i ≤ m → (Instr.sliceBound (.int .i64 i) m bd).run P w = .ok i w := fun bd m hm => by
      simp only [Instr.sliceBound, asIntOf, Sem.run_bind, Sem.run_pure, Result.andThen_ok]
      rw [if_pos ⟨by omega, by omega⟩]; simp
    have eb : (Instr.sliceBounds true n c (lo.map ρ) (hi.map ρ) none).run P w = .ok (i, j, c) w := by
      cases lo with
      | none => cases hi with
        | none => simp only at hlo hhi; subst hlo hhi; simp [Instr.sliceBounds]
        | some yh => simp only at hlo hhi; subst hlo; simp [Instr.sliceBounds, k' _ _ hhi, e1 _ c h2]
      | some yl => cases hi with
        | none => simp only at hlo hhi; subst hhi; simp [Instr.sliceBounds, k' _ _ hlo, e2 _ j h1]
        | some yh => simp only at hlo hhi; simp [Instr.sliceBounds, k' _ _ hlo, k' _ _ hhi, e1 _ c h2, e2 _ j h1]
    simp only [execOp, k' _ _ hx, Instr.sliceAt, Sem.run_bind, run_underlying kk.eq, Result.andThen_ok, Instr.slice, Option.map_none, eb, run_sizeOf (k := ki), Sem.run_pure]
end
theorem Rd.cutG {α : Type} {k : Nat} {en : α → List Value} {a : Option Addr} {n cap : Nat} {R : List α} {c : List Blk} (h : Rd k en (.slice a n cap) R c) (i j : Nat) (hij : i ≤ j) (hj : j ≤ R.length) :
    n = R.length ∧ n ≤ cap ∧ Rd k en (.slice (if cap = i then a else a.map (·.add (i * k))) (j - i) (cap - i)) ((R.drop i).take (j - i)) c := by
  obtain ⟨a', cap', e, hc, h⟩ := h
  simp only [Value.slice.injEq] at e
  obtain ⟨rfl, rfl, rfl⟩ := e
  have hlen : ((R.drop i).take (j - i)).length = j - i := by simp; omega
  refine ⟨rfl, hc, _, _, by rw [hlen], by rw [hlen]; omega, ?_⟩
  by_cases h0 : j = i
  · left; subst h0; simp
  right
  rcases h with h | ⟨b', o', L, U, fz, rfl, e2, e3⟩
  · subst h; simp at hj; omega
  · rw [if_neg (by omega)]
    refine ⟨b', o' + i * k, L, U, fz, ?_, e2, fun m x hx => ?_⟩
    · simp only [Option.map_some, Addr.add]
      split <;> simp_all
    · have hm : m < j - i := by have := (List.getElem?_eq_some_iff.1 hx).1; omega
      rw [List.getElem?_take_of_lt hm, List.getElem?_drop] at hx
      have := e3 (i + m) x hx
      rw [Nat.add_mul, ← Nat.add_assoc] at this
      exact this
/-- texts that are read -/
abbrev RdS (v : Value) (R : List Str) (c : List Blk) : Prop := Rd 1 (fun x : Str => [sv x]) v R c
theorem IsSl.rdS {E : TypeId} {R : List Str} {v : Value} {row : List Blk} (h : IsSl E 1 v (strs R) row) : RdS v R row := by
  rw [strs_flat] at h
  exact IsSl.rd (k := 0) (fun _ => rfl) h
theorem rdS_get {L : List Value} {o i : Nat} {x : Str} (h : (L.drop (o + i * 1)).take 1 = [sv x]) : L[o + i]? = some (sv x) := by
  have := rd_get (en := fun x : Str => [sv x]) h (j := 0) (by omega)
  simpa using this
theorem rdS_hd {L : List Value} {o : Nat} {x : Str} {l : List Str} (h : ∀ i y, (x :: l)[i]? = some y → (L.drop (o + i * 1)).take 1 = [sv y]) : L[o]? = some (sv x) := rdS_get (i := 0) (h 0 x rfl)
/-- without its first one -/
theorem RdS.tail {a : Option Addr} {n cap : Nat} {x : Str} {R : List Str} {c : List Blk} (h : RdS (.slice a n cap) (x :: R) c) : RdS (.slice (if cap = 1 then a else a.map (·.add (1 * 1))) (n - 1) (cap - 1)) R c := by
  obtain ⟨e, -, h2⟩ := h.cutG 1 (x :: R).length (by simp) (Nat.le_refl _)
  have e2 : ((x :: R).drop 1).take ((x :: R).length - 1) = R := by simp
  rw [e2, ← e] at h2
  exact h2
end Go.Proofs.YtanecnnfpdhadaaGreatDoor
/- OrderA -/
namespace Go.Proofs.YtanecnnfpdhadaaGreatDoor
open Go

theorem nan_spec (x : Str) : FN Tryz.prog 94 [sv x] [] (is (.bool false) []) := by
  refine FN.intro 6 [(0, sv x)] Tryz.func94 rfl (enters Tryz.func94 (by kernel_rfl) rfl) Tryz.ntmps94 rfl rfl ?_
  refine WP.seq <| WP.region <| v0 (S0.assign rfl) rfl <| vE <| WP.seq <| WP.region <| v0 (S0.move rfl) rfl <| v0 (S0.move rfl) rfl <| v0 (S0.cmpS rfl rfl rfl) rfl <| v0 (S0.assign rfl) rfl <| vE <| WP.ret <| ?_
  refine r1 rfl rfl ⟨?_, rfl⟩
  exact congrArg Value.bool (by simp)
theorem cmpT_by {x y : Str} {n : Int} (h : (ltS x y = true ∧ n = -1) ∨ (ltS x y = false ∧ x = y ∧ n = 0) ∨ (ltS x y = false ∧ x ≠ y ∧ n = 1)) : n = cmpT x y := by
  unfold cmpT
  rcases h with ⟨h, rfl⟩ | ⟨h, rfl, rfl⟩ | ⟨h, h2, rfl⟩
  · simp [h]
  · simp [h]
  · simp [h, h2]
theorem cmpT_spec (x y : Str) : FN Tryz.prog 70 [sv x, sv y] [] (is (.int .i64 (cmpT x y)) []) := by
  refine FN.intro 20 [(0, sv x), (1, sv y)] Tryz.func70 rfl (enters Tryz.func70 (by kernel_rfl) rfl) Tryz.ntmps70 rfl rfl ?_
  refine WP.seq <| WP.region <| v0 (S0.assign rfl) rfl <| vE <| WP.seq <| WP.region <| v0 (S0.move rfl) rfl <| ?_  -- op t8 := call F94{cmp.isNaN[string]}(t7)
  refine vcd (S1.callF rfl (nan_spec x) take0) rfl ?_
  refine v0 (S0.assign rfl) rfl <| vE <| WP.seq <| WP.region <| v0 (S0.move rfl) rfl <| ?_  -- op t10 := call F94{cmp.isNaN[string]}(t9)
  refine vcd (S1.callF rfl (nan_spec y) take0) rfl ?_
  refine v0 (S0.assign rfl) rfl <| vE <| WP.seq <| WP.seq <| WP.region <| v0 (S0.move rfl) rfl <| vE <| ?_
  first | refine WP.condP rfl (fun hq0 => ?_) (fun hq0 => ?_) | refine WP.condN rfl (fun hq0 => ?_) (fun hq0 => ?_) | refine WP.cond rfl (fun hq0 => ?_) (fun hq0 => ?_)
  ·
    refine WP.seq <| WP.seq <| WP.region <| v0 (S0.move rfl) rfl <| vE <| ?_
    first | refine WP.condP rfl (fun hq1 => ?_) (fun hq1 => ?_) | refine WP.condN rfl (fun hq1 => ?_) (fun hq1 => ?_) | refine WP.cond rfl (fun hq1 => ?_) (fun hq1 => ?_)
    ·
      refine WP.seq <| WP.region <| v0 (S0.assign rfl) rfl <| vE <| WP.ret <| ?_
      refine r1 rfl rfl ⟨?_, rfl⟩
      exact congrArg (Value.int .i64) (cmpT_by (by simp_all))
    ·
      refine WP.skip <| WP.seq <| WP.region <| v0 (S0.assign rfl) rfl <| vE <| WP.ret <| ?_
      refine r1 rfl rfl ⟨?_, rfl⟩
      exact congrArg (Value.int .i64) (cmpT_by (by simp_all))
  ·
    refine WP.skip <| WP.seq <| WP.seq <| WP.region <| v0 (S0.move rfl) rfl <| vE <| ?_
    first | refine WP.condP rfl (fun hq1 => ?_) (fun hq1 => ?_) | refine WP.condN rfl (fun hq1 => ?_) (fun hq1 => ?_) | refine WP.cond rfl (fun hq1 => ?_) (fun hq1 => ?_)
    ·
      refine WP.seq <| WP.region <| v0 (S0.assign rfl) rfl <| vE <| WP.ret <| ?_
      refine r1 rfl rfl ⟨?_, rfl⟩
      exact congrArg (Value.int .i64) (cmpT_by (by simp_all))
    ·
      refine WP.skip <| WP.seq <| WP.seq <| WP.region <| v0 (S0.move rfl) rfl <| v0 (S0.move rfl) rfl <| v0 (S0.cmpS rfl rfl rfl) rfl <| vE <| ?_
      first | refine WP.condP rfl (fun hq2 => ?_) (fun hq2 => ?_) | refine WP.condN rfl (fun hq2 => ?_) (fun hq2 => ?_) | refine WP.cond rfl (fun hq2 => ?_) (fun hq2 => ?_)
      ·
        refine WP.seq <| WP.region <| v0 (S0.assign rfl) rfl <| vE <| WP.ret <| ?_
        refine r1 rfl rfl ⟨?_, rfl⟩
        exact congrArg (Value.int .i64) (cmpT_by (by simp_all))
      ·
        refine WP.skip <| WP.seq <| WP.seq <| WP.region <| v0 (S0.move rfl) rfl <| v0 (S0.move rfl) rfl <| v0 (S0.cmpS rfl rfl rfl) rfl <| vE <| ?_
        first | refine WP.condP rfl (fun hq3 => ?_) (fun hq3 => ?_) | refine WP.condN rfl (fun hq3 => ?_) (fun hq3 => ?_) | refine WP.cond rfl (fun hq3 => ?_) (fun hq3 => ?_)
        ·
          refine WP.seq <| WP.region <| v0 (S0.assign rfl) rfl <| vE <| WP.ret <| ?_
          refine r1 rfl rfl ⟨?_, rfl⟩
          exact congrArg (Value.int .i64) (cmpT_by (by simp_all))
        ·
          refine WP.skip <| WP.seq <| WP.region <| v0 (S0.assign rfl) rfl <| vE <| WP.ret <| ?_
          refine r1 rfl rfl ⟨?_, rfl⟩
          exact congrArg (Value.int .i64) (cmpT_by (by simp_all))
theorem cmpL_drop {A B : List Str} {i : Nat} {x y : Str} (hx : A[i]? = some x) (hy : B[i]? = some y) (h : cmpT x y = 0) : cmpL (A.drop i) (B.drop i) = cmpL (A.drop (i + 1)) (B.drop (i + 1)) := by
  rw [drop_cons hx, drop_cons hy]
  simp [cmpL, h]
theorem compare_spec {va vb : Value} {A B : List Str} {ca cb : List Blk} (ha : RdS va A ca) (hb : RdS vb B cb) (hl : A.length ≤ 1000000) : FN Tryz.prog 39 [va, vb] [ca, cb] (is (.int .i64 (cmpL A B)) [ca, cb]) := by
  obtain ⟨a, cap, rfl, hcap, ha⟩ := ha
  obtain ⟨b, cap2, rfl, hcap2, hb⟩ := hb
  refine FN.intro 36 [(0, .slice a A.length cap), (1, .slice b B.length cap2)] Tryz.func39 rfl (enters Tryz.func39 (by kernel_rfl) rfl) Tryz.ntmps39 rfl rfl ?_
  refine WP.seq <| WP.region <| v0 (S0.assign rfl) rfl <| vE <| WP.seq <| WP.seq <| WP.region <| v0 (S0.move rfl) rfl <| v0 (S0.lenSl rfl) rfl <| v0 (S0.move rfl) rfl <| vE <| WP.block <| ?_  -- Code.loop
  refine WP.loop (fun i : Nat => i ≤ A.length ∧ i ≤ B.length ∧ cmpL A B = cmpL (A.drop i) (B.drop i)) (fun i : Nat => [(0, .slice a A.length cap), (1, .slice b B.length cap2), (9, .slice a A.length cap), (10, .int .i64 (A.length : Int)), (11, .int .i64 (i : Int))]) (fun i : Nat => [ca, cb]) (fun i : Nat => A.length - i) (0) (⟨Nat.zero_le _, Nat.zero_le _, by simp⟩) ⟨rfl, rfl, rfl, rfl, rfl, trivial⟩ ⟨_, (take1 at0 (take1 at0 take0))⟩ (fun i hinv => ?_) 
  obtain ⟨hi, hi2, hinv⟩ := hinv
  refine WP.seq <| WP.region <| v0 (S0.cmp rfl rfl rfl) rfl <| vE <| WP.seq <| ?_  -- cond
  first | refine WP.condP rfl (fun h1 => ?_) (fun h1 => ?_) | refine WP.condN rfl (fun h1 => ?_) (fun h1 => ?_) | refine WP.cond rfl (fun h1 => ?_) (fun h1 => ?_)
  · skip
    have hlt : i < A.length := by omega
    rcases ha with e | ⟨b1, o1, L1, U1, fz1, rfl, hm1, he1⟩
    · rw [e] at hlt; simp at hlt
    have : HasC ca b1 (.cells ⟨L1⟩ U1 fz1) := ⟨hm1⟩
    have hx : A[i]? = some A[i] := by simp [hlt]
    generalize A[i] = x at hx
    have hxe := he1 i x hx
    skip
    refine WP.skip <| WP.seq <| WP.block <| WP.seq <| WP.region <| v0 (S0.move rfl) rfl <| ?_  -- op t14 := indexAddr 51 t9 t11
    refine v0 (S0.indexO1 rfl rfl hlt) rfl <| ?_
    refine v0 (S0.load rfl (rdS_get hxe)) rfl <| ?_
    refine v0 (S0.assign rfl) rfl <| v0 (S0.assign rfl) rfl <| vE <| WP.seq <| WP.seq <| WP.region <| v0 (S0.move rfl) rfl <| v0 (S0.move rfl) rfl <| v0 (S0.lenSl rfl) rfl <| v0 (S0.cmp rfl rfl rfl) rfl <| vE <| ?_  -- cond
    first | refine WP.condP rfl (fun h2 => ?_) (fun h2 => ?_) | refine WP.condN rfl (fun h2 => ?_) (fun h2 => ?_) | refine WP.cond rfl (fun h2 => ?_) (fun h2 => ?_)
    · skip
      refine WP.seq <| WP.region <| v0 (S0.assign rfl) rfl <| vE <| WP.ret <| ?_  -- ret
      refine r1 rfl rfl ⟨?_, rfl⟩
      have h2' : B.drop i = [] := List.drop_eq_nil_of_le (by omega)
      rw [hinv, h2', drop_cons hx]; rfl
    · skip
      have hlt2 : i < B.length := by omega
      rcases hb with e | ⟨b2, o2, L2, U2, fz2, rfl, hm2, he2⟩
      · rw [e] at hlt2; simp at hlt2
      have : HasC cb b2 (.cells ⟨L2⟩ U2 fz2) := ⟨hm2⟩
      have hy : B[i]? = some B[i] := by simp [hlt2]
      generalize B[i] = y at hy
      have hye := he2 i y hy
      refine WP.skip <| WP.seq <| WP.region <| v0 (S0.move rfl) rfl <| v0 (S0.move rfl) rfl <| ?_  -- op t22 := indexAddr 51 t20 t21
      refine v0 (S0.indexO1 rfl rfl hlt2) rfl <| ?_
      refine v0 (S0.load rfl (rdS_get hye)) rfl <| ?_
      refine v0 (S0.assign rfl) rfl <| vE <| WP.seq <| WP.region <| v0 (S0.move rfl) rfl <| v0 (S0.move rfl) rfl <| ?_  -- op t26 := call F70{cmp.Compare[string]}(t24, t25)
      refine vcd (S1.callF rfl (cmpT_spec x y) take0) rfl ?_
      refine v0 (S0.assign rfl) rfl <| vE <| WP.seq <| WP.region <| v0 (S0.move rfl) rfl <| v0 (S0.cmp rfl rfl rfl) rfl <| vE <| ?_  -- cond
      first | refine WP.condP rfl (fun h3 => ?_) (fun h3 => ?_) | refine WP.condN rfl (fun h3 => ?_) (fun h3 => ?_) | refine WP.cond rfl (fun h3 => ?_) (fun h3 => ?_)
      · skip
        refine WP.seq <| WP.region <| v0 (S0.move rfl) rfl <| v0 (S0.assign rfl) rfl <| vE <| WP.ret <| ?_  -- ret
        refine r1 rfl rfl ⟨?_, rfl⟩
        rw [hinv, drop_cons hx, drop_cons hy]
        simp [cmpL, h3]
      · skip
        refine WP.skip <| WP.region <| v0 (S0.ari rfl rfl rfl (wrap_i64 (by omega))) rfl <| v0 (S0.move rfl) rfl <| vE <| ?_  -- roundend
        exact ⟨i + 1, (by first | exact ⟨hlt, hlt2, by rw [hinv, cmpL_drop hx hy (by simpa using h3)]⟩ | (dsimp only; exact ⟨hlt, hlt2, by rw [hinv, cmpL_drop hx hy (by simpa using h3)]⟩)), (by omega), ⟨⟨rfl, rfl, rfl, rfl, rfl, trivial⟩, rfl, rfl⟩, ⟨_, (take1 at0 (take1 at0 take0))⟩⟩
  · skip
    have e : i = A.length := by omega
    have hd : A.drop i = [] := List.drop_eq_nil_of_le (by omega)
    rw [hd] at hinv
    refine WP.exit <| WP.seq <| WP.seq <| WP.region <| v0 (S0.move rfl) rfl <| v0 (S0.lenSl rfl) rfl <| v0 (S0.move rfl) rfl <| v0 (S0.lenSl rfl) rfl <| v0 (S0.cmp rfl rfl rfl) rfl <| vE <| ?_  -- cond
    first | refine WP.condP rfl (fun h2 => ?_) (fun h2 => ?_) | refine WP.condN rfl (fun h2 => ?_) (fun h2 => ?_) | refine WP.cond rfl (fun h2 => ?_) (fun h2 => ?_)
    · skip
      refine WP.seq <| WP.region <| v0 (S0.assign rfl) rfl <| vE <| WP.ret <| ?_  -- ret
      refine r1 rfl rfl ⟨?_, rfl⟩
      have hlt2 : i < B.length := by omega
      rw [hinv, List.drop_eq_getElem_cons hlt2]; rfl
    · skip
      refine WP.skip <| WP.seq <| WP.region <| v0 (S0.assign rfl) rfl <| vE <| WP.ret <| ?_  -- ret
      refine r1 rfl rfl ⟨?_, rfl⟩
      have h2' : B.drop i = [] := List.drop_eq_nil_of_le (by omega)
      rw [hinv, h2']; rfl
end Go.Proofs.YtanecnnfpdhadaaGreatDoor
/- RdA -/
namespace Go.Proofs.YtanecnnfpdhadaaGreatDoor
open Go

section
variable {P : Program} {r : Option Nat} {f : Fr} {h : Hp} {d : Option Tmp} {ty : TypeId} {p : String} {af : Array Edge} {gd : Option (Nat × Bool)} {T E T2 E2 : TypeId} {x y : Operand} {by_ : Nat} {zv v u : Value}
theorem rdS_all {L : List Value} {o : Nat} : ∀ {R : List Str}, (∀ i x, R[i]? = some x → (L.drop (o + i * 1)).take 1 = [sv x]) → R ≠ [] → (L.drop o).take (R.length * 1) = strs R ∧ o + R.length * 1 ≤ L.length := by
  intro R h hne
  have hlen : o + R.length ≤ L.length := by
    have hlt : R.length - 1 < R.length := by have := List.length_pos_iff.2 hne; omega
    have h1 := rdS_get (h (R.length - 1) R[R.length - 1] (by simp [hlt]))
    have := (List.getElem?_eq_some_iff.1 h1).1
    omega
  refine ⟨?_, by omega⟩
  apply List.ext_getElem?
  intro i
  by_cases hi : i < R.length
  · have h1 := rdS_get (h i R[i] (by simp [hi]))
    rw [List.getElem?_take_of_lt (by omega), List.getElem?_drop, h1]
    simp [strs, hi]
  · rw [List.getElem?_eq_none (by simp; omega), List.getElem?_eq_none (by simp [strs]; omega)]
/-- 'append(x, y...)': y read -/
theorem S1.appendRd {R : List Str} {l : List Value} {c0 c : List Blk} {hr : Hp} [kk : Und P T (.slice E)] [k2 : Und P T2 (.slice E2)] [ki : Inf P E 1 by_ zv]
    (hx : ev f x = some v) (hs : IsSl E 1 v l c) (hy : ev f y = some u) (hu : RdS u R c0) (hin : ∀ q ∈ c0, q ∈ h.flatten)
    (hp : h.flatten.Perm (c ++ hr.flatten)) (hz : zv.cells.size = 1) (hroom : l.length + R.length ≤ 1000000000) (hb : by_ ≤ 100000 := by decide) :
    S1 P r ⟨d, .call ⟨.builtin .append, #[x, y], #[T, T2]⟩, ty, p, af, gd⟩ f h (fun v' h' => ∃ c', IsSl E 1 v' (l ++ strs R) c' ∧ h' = c' :: hr) := by
  have hsl : (strs R).length = R.length := by simp [strs]
  have hrm : (l.length + (strs R).length) * by_ ≤ 140737488355328 ∧ l.length + (strs R).length < 4611686018427387904 := ⟨by
    rw [hsl]
    have := Nat.mul_le_mul hroom hb
    omega, by omega⟩
  obtain ⟨a, cap, rfl, hcap, hu⟩ := hu
  by_cases hR : R = []
  · subst hR
    simp only [strs, List.map_nil, List.append_nil]
    refine S1.ofRun (by intro c; simp) fun E' R' ρ w k' st => ?_
    have hexec : execOp ρ ⟨d, .call ⟨.builtin .append, #[x, y], #[T, T2]⟩, ty, p, af, gd⟩ = (do pure (.value (← Builtin.append_ #[T, T2] ty #[v, .slice a 0 cap]))) := by
      simp only [execOp, resolve, invoke, builtin]
      simp [k' _ _ hx, k' _ _ hy]
    have hf : (Builtin.firstCells 1 0 (.slice a 0 cap)).run P w = .ok ⟨[]⟩ w := by
      cases a <;> simp [Builtin.firstCells, loadCells, loadCellsFrom]
    refine ⟨v, _, w, ?_, ⟨c, hs, rfl⟩, by simpa using st.perm (hp.append_right R')⟩
    rw [hexec]
    obtain ⟨ab, n, cp, rfl, hle⟩ : ∃ ab n cp, v = .slice ab n cp ∧ n ≤ cp := by
      cases hs with
      | nil => exact ⟨_, _, _, rfl, Nat.le_refl _⟩
      | row _ _ h3 => exact ⟨_, _, _, rfl, h3⟩
    have := run_append_in (P := P) (ty := ty) (T := T) (T2 := T2) (E := E) (E2 := E2) (k := 1) (by_ := by_) (zv := zv) (w := w) (base := ab) (n := n) (c := cp) (m := 0) (ws := []) ⟨a, cap, rfl⟩ hf (by omega) (w' := w) (by cases ab <;> rfl)
    simp [this]
  · rcases hu with e | ⟨b, o, L, U, fz, rfl, hm, hel⟩
    · exact absurd e hR
    obtain ⟨h1, h2⟩ := rdS_all hel hR
    have h3 := S1.append (P := P) (r := r) (d := d) (ty := ty) (p := p) (af := af) (gd := gd) (T := T) (T2 := T2) (E2 := E2) (kk := kk) (k2 := k2) (ki := ki) (k := 0) hx hs hy (ws := strs R) (m := R.length) (.inr ⟨b, o, cap, L, U, fz, rfl, hin _ hm, h2, h1⟩) hp (strs_cv R) hz hrm
    exact ⟨fun E' R a w next Q hxx st kont => h3.run E' R a w next Q hxx st fun v h' w' hpost st' => by
      obtain ⟨c', h2, -, h3⟩ := hpost
      exact kont v h' w' ⟨c', h2, h3⟩ st'⟩
end
/-- blocks taken together -/
theorem FN.join {P : Program} {g : Nat} {args : List Value} {h h2 : Hp} {post : Value → Hp → Prop} (H : FN P g args h post) (he : h2.flatten = h.flatten) (post2 : Value → Hp → Prop) (hq : ∀ v h', post v h' → ∃ h'', post2 v h'' ∧ h''.flatten = h'.flatten) : FN P g args h2 post2 :=
  ⟨H.enters, fun E R w st => (H.run E R w (by rw [← he]; exact st)).mono fun _ _ ⟨v, h', e, hp, st'⟩ => by
    obtain ⟨h'', h1, h2⟩ := hq v h' hp
    exact ⟨v, h'', e, h1, by rw [h2]; exact st'⟩⟩

end Go.Proofs.YtanecnnfpdhadaaGreatDoor
/- RefL -/
namespace Go.Proofs.YtanecnnfpdhadaaGreatDoor
open Go

theorem ltS_cons (a b : UInt8) (x y : Str) (h : a ≠ b) : ltS (a :: x) (b :: y) = decide ((a.toNat : Int) < (b.toNat : Int)) := by
  simp only [ltS, h, decide_false, Bool.false_and, Bool.or_false]
  rw [decide_eq_decide, UInt8.lt_iff_toNat_lt]
  omega
theorem rless1_spec {a b : Str} (ha : a.length ≤ 1000000) (hb : b.length ≤ 1000000) : FN Tryz.prog 91 [sv a, sv b] [] (is (.bool (ltS a b)) []) := by
  refine FN.intro 37 [(0, sv a), (1, sv b)] Tryz.func91 rfl (enters Tryz.func91 (by kernel_rfl) rfl) Tryz.ntmps91 rfl rfl ?_
  refine WP.seq <| WP.region <| v0 (S0.assign rfl) rfl <| vE <| WP.seq <| WP.seq <| WP.region <| v0 (S0.assign rfl) rfl <| vE <| WP.block <| ?_  -- Code.loop
  refine WP.loop (fun i : Nat => i ≤ a.length ∧ i ≤ b.length ∧ ltS a b = ltS (a.drop i) (b.drop i)) (fun i : Nat => [(0, sv a), (1, sv b), (5, .int .i64 (i : Int))]) (fun i : Nat => []) (fun i : Nat => a.length - i) (0) (⟨Nat.zero_le _, Nat.zero_le _, by simp⟩) ⟨rfl, rfl, rfl, trivial⟩ ⟨_, take0⟩ (fun i hinv => ?_) 
  obtain ⟨hi, hi2, hinv⟩ := hinv
  refine WP.seq <| WP.seq <| WP.region <| v0 (S0.move rfl) rfl <| v0 (S0.move rfl) rfl <| v0 (S0.lenSt rfl) rfl <| v0 (S0.cmp rfl rfl rfl) rfl <| v0 (S0.move rfl) rfl <| ?_  -- guard t10 (wants True) at t11 := move t5 [if #4=True]
  first | refine csP (t := 10) rfl (fun h1 => ?_) (fun h1 => ?_) | refine csN (t := 10) rfl (fun h1 => ?_) (fun h1 => ?_) | refine cs (t := 10) rfl (fun h1 => ?_) (fun h1 => ?_)
  · skip
    have hlt : i < a.length := by omega
    have hx : a[i]? = some a[i] := by simp [hlt]
    generalize a[i] = x at hx
    rw [drop_cons hx] at hinv
    refine gT rfl <| v0 (S0.move rfl) rfl <| gT rfl <| v0 (S0.move rfl) rfl <| gT rfl <| v0 (S0.lenSt rfl) rfl <| gT rfl <| v0 (S0.cmp rfl rfl rfl) rfl <| v0 (S0.pickT rfl rfl) rfl <| vE <| ?_  -- cond
    first | refine WP.condP rfl (fun h2 => ?_) (fun h2 => ?_) | refine WP.condN rfl (fun h2 => ?_) (fun h2 => ?_) | refine WP.cond rfl (fun h2 => ?_) (fun h2 => ?_)
    · skip
      have hlt2 : i < b.length := by omega
      have hy : b[i]? = some b[i] := by simp [hlt2]
      generalize b[i] = y at hy
      rw [drop_cons hy] at hinv
      refine WP.skip <| WP.seq <| WP.block <| WP.seq <| WP.drawP [(0, none), (1, none), (2, none), (3, none), (4, none), (5, none), (6, none)] mixed (by kernel_rfl) (by kernel_rfl) (by kernel_rfl) take0 <| w0 rfl rfl rfl (S0.move rfl) rfl <| w0 rfl rfl rfl (S0.move rfl) rfl <| ?_  -- op t20 := index 9 t18 t19
      refine w0 rfl rfl rfl (S0.indexSt rfl rfl hx) rfl <| ?_
      refine w0 rfl rfl rfl (S0.move rfl) rfl <| w0 rfl rfl rfl (S0.move rfl) rfl <| ?_  -- op t23 := index 9 t21 t22
      refine w0 rfl rfl rfl (S0.indexSt rfl rfl hy) rfl <| ?_
      refine w0 rfl rfl rfl (S0.cmp rfl rfl rfl) rfl <| wE <| ?_  -- cond
      first | refine WP.condP rfl (fun h3 => ?_) (fun h3 => ?_) | refine WP.condN rfl (fun h3 => ?_) (fun h3 => ?_) | refine WP.cond rfl (fun h3 => ?_) (fun h3 => ?_)
      · skip
        have hne : x ≠ y := fun e => h3 (by rw [e])
        refine WP.seq <| WP.drawP [(0, none), (1, none), (2, none), (3, none), (4, none), (5, none), (6, none), (7, none)] mixed (by kernel_rfl) (by kernel_rfl) (by kernel_rfl) take0 <| w0 rfl rfl rfl (S0.move rfl) rfl <| w0 rfl rfl rfl (S0.move rfl) rfl <| ?_  -- op t27 := index 9 t25 t26
        refine w0 rfl rfl rfl (S0.indexSt rfl rfl hx) rfl <| ?_
        refine w0 rfl rfl rfl (S0.move rfl) rfl <| w0 rfl rfl rfl (S0.move rfl) rfl <| ?_  -- op t30 := index 9 t28 t29
        refine w0 rfl rfl rfl (S0.indexSt rfl rfl hy) rfl <| ?_
        refine w0 rfl rfl rfl (S0.cmp rfl rfl rfl) rfl <| w0 rfl rfl rfl (S0.assign rfl) rfl <| wE <| WP.ret <| ?_  -- ret
        refine r1 rfl rfl ⟨?_, rfl⟩
        rw [hinv, ltS_cons _ _ _ _ hne]
      · skip
        have he : x = y := UInt8.toNat_inj.1 (by omega)
        refine WP.skip <| WP.region <| v0 (S0.move rfl) rfl <| v0 (S0.ari rfl rfl rfl (wrap_i64 (by omega))) rfl <| v0 (S0.assign rfl) rfl <| vE <| ?_  -- roundend
        exact ⟨i + 1, (by first | exact ⟨hlt, hlt2, by rw [hinv, he]; simp [ltS]⟩ | (dsimp only; exact ⟨hlt, hlt2, by rw [hinv, he]; simp [ltS]⟩)), (by omega), ⟨⟨rfl, rfl, rfl, trivial⟩, rfl, rfl⟩, ⟨_, take0⟩⟩
    · skip
      have e : b.drop i = [] := List.drop_eq_nil_of_le (by omega)
      refine WP.exit <| WP.seq <| WP.region <| v0 (S0.move rfl) rfl <| v0 (S0.lenSt rfl) rfl <| v0 (S0.move rfl) rfl <| v0 (S0.lenSt rfl) rfl <| v0 (S0.cmp rfl rfl rfl) rfl <| v0 (S0.assign rfl) rfl <| vE <| WP.ret <| ?_  -- ret
      refine r1 rfl rfl ⟨?_, rfl⟩
      rw [hinv, e]
      have : ¬ (a.length : Int) < (b.length : Int) := by omega
      simp [ltS, this]
  · skip
    have e : a.drop i = [] := List.drop_eq_nil_of_le (by omega)
    refine gF rfl rfl <| gF rfl rfl <| gF rfl rfl <| gF rfl rfl <| v0 (S0.pickF rfl rfl) rfl <| vE <| WP.condF rfl <| WP.exit <| WP.seq <| WP.region <| v0 (S0.move rfl) rfl <| v0 (S0.lenSt rfl) rfl <| v0 (S0.move rfl) rfl <| v0 (S0.lenSt rfl) rfl <| v0 (S0.cmp rfl rfl rfl) rfl <| v0 (S0.assign rfl) rfl <| vE <| WP.ret <| ?_  -- ret
    refine r1 rfl rfl ⟨?_, rfl⟩
    rw [hinv, e]
    cases hb : b.drop i with
    | nil =>
      have := List.drop_eq_nil_iff.1 hb
      simp [ltS]; omega
    | cons y t =>
      have := congrArg List.length hb
      simp at this
      simp [ltS]; omega
theorem rless_spec {a b : Str} (ha : a.length ≤ 100000) (hb : b.length ≤ 100000) : FN Tryz.prog 67 [sv a, sv b] [] (is (.bool (lessS a b)) []) := by
  have hal := levels_len a
  have hbl := levels_len b
  have hma : ∀ x ∈ levels a, x.length ≤ 1000000 := fun x hx => by have := levels_mem_len a x hx; omega
  have hmb : ∀ x ∈ levels b, x.length ≤ 1000000 := fun x hx => by have := levels_mem_len b x hx; omega
  refine FN.intro 47 [(0, sv a), (1, sv b)] Tryz.func67 rfl (enters Tryz.func67 (by kernel_rfl) rfl) Tryz.ntmps67 rfl rfl ?_
  refine WP.seq <| WP.region <| v0 (S0.assign rfl) rfl <| vE <| WP.seq <| WP.region <| v0 (S0.move rfl) rfl <| ?_  -- op t9 := call F65{rivulet/rivuletref03.Levels}(t8)
  refine vc (S1.callF rfl (rlevels_spec (show a.length ≤ 1000000 by omega)) take0) rfl ?_
  rintro _ _ ⟨ra, hsa, rfl⟩
  refine app ?_
  refine v0 (S0.move rfl) rfl <| ?_  -- op t11 := call F65{rivulet/rivuletref03.Levels}(t10)
  refine vc (S1.callF rfl (rlevels_spec (show b.length ≤ 1000000 by omega)) take0) rfl ?_
  rintro _ _ ⟨rb, hsb, rfl⟩
  refine app ?_
  rw [lessS]
  generalize levels a = A at hsa hal hma
  generalize levels b = B at hsb hbl hmb
  obtain ⟨aa, ac, rfl, -, hra⟩ := hsa.strsE
  obtain ⟨ba, bc, rfl, -, hrb⟩ := hsb.strsE
  refine v0 (S0.assign rfl) rfl <| v0 (S0.assign rfl) rfl <| vE <| WP.seq <| WP.seq <| WP.region <| v0 (S0.assign rfl) rfl <| vE <| WP.block <| ?_  -- Code.loop
  refine WP.loop (fun i : Nat => i ≤ A.length ∧ i ≤ B.length ∧ ltL A B = ltL (A.drop i) (B.drop i)) (fun i : Nat => [(5, .slice aa A.length ac), (6, .slice ba B.length bc), (7, .int .i64 (i : Int))]) (fun i : Nat => [ra, rb]) (fun i : Nat => A.length - i) (0) (⟨Nat.zero_le _, Nat.zero_le _, by simp⟩) ⟨rfl, rfl, rfl, trivial⟩ ⟨_, (take1 (atS at0) (take1 at0 take0))⟩ (fun i hinv => ?_) 
  obtain ⟨hi, hi2, hinv⟩ := hinv
  refine WP.seq <| WP.seq <| WP.region <| v0 (S0.move rfl) rfl <| v0 (S0.move rfl) rfl <| v0 (S0.lenSl rfl) rfl <| v0 (S0.cmp rfl rfl rfl) rfl <| v0 (S0.move rfl) rfl <| ?_  -- guard t16 (wants True) at t17 := move t7 [if #4=True]
  first | refine csP (t := 16) rfl (fun h1 => ?_) (fun h1 => ?_) | refine csN (t := 16) rfl (fun h1 => ?_) (fun h1 => ?_) | refine cs (t := 16) rfl (fun h1 => ?_) (fun h1 => ?_)
  · skip
    have hlt : i < A.length := by omega
    rcases hra with ⟨e, -⟩ | ⟨b1, sp1, rfl, rfl, hsp1⟩
    · rw [e] at hlt; simp at hlt
    have hx : A[i]? = some A[i] := by simp [hlt]
    have hxl := hma _ (List.getElem_mem hlt)
    generalize A[i] = x at hx hxl
    rw [drop_cons hx] at hinv
    refine gT rfl <| v0 (S0.move rfl) rfl <| gT rfl <| v0 (S0.move rfl) rfl <| gT rfl <| v0 (S0.lenSl rfl) rfl <| gT rfl <| v0 (S0.cmp rfl rfl rfl) rfl <| v0 (S0.pickT rfl rfl) rfl <| vE <| ?_  -- cond
    first | refine WP.condP rfl (fun h2 => ?_) (fun h2 => ?_) | refine WP.condN rfl (fun h2 => ?_) (fun h2 => ?_) | refine WP.cond rfl (fun h2 => ?_) (fun h2 => ?_)
    · skip
      have hlt2 : i < B.length := by omega
      rcases hrb with ⟨e, -⟩ | ⟨b2, sp2, rfl, rfl, hsp2⟩
      · rw [e] at hlt2; simp at hlt2
      have hy : B[i]? = some B[i] := by simp [hlt2]
      have hyl := hmb _ (List.getElem_mem hlt2)
      generalize B[i] = y at hy hyl
      rw [drop_cons hy] at hinv
      skip
      refine WP.skip <| WP.seq <| WP.block <| WP.seq <| WP.drawP [(0, none), (1, none), (2, none), (3, none), (4, none), (5, none), (6, none), (7, none), (8, none)] mixed (by kernel_rfl) (by kernel_rfl) (by kernel_rfl) (take1 at0 (take1 at0 take0)) <| w0 rfl rfl rfl (S0.move rfl) rfl <| w0 rfl rfl rfl (S0.move rfl) rfl <| ?_  -- op t26 := indexAddr 51 t24 t25
      refine w0 rfl rfl rfl (S0.index1 rfl rfl hlt) rfl <| ?_
      refine w0 rfl rfl rfl (S0.load rfl (strs_get hx)) rfl <| ?_
      refine w0 rfl rfl rfl (S0.move rfl) rfl <| w0 rfl rfl rfl (S0.move rfl) rfl <| ?_  -- op t30 := indexAddr 51 t28 t29
      refine w0 rfl rfl rfl (S0.index1 rfl rfl hlt2) rfl <| ?_
      refine w0 rfl rfl rfl (S0.load rfl (strs_get hy)) rfl <| ?_
      refine w0 rfl rfl rfl (S0.cmpS rfl rfl rfl) rfl <| wE <| ?_  -- cond
      first | refine WP.condP rfl (fun h3 => ?_) (fun h3 => ?_) | refine WP.condN rfl (fun h3 => ?_) (fun h3 => ?_) | refine WP.cond rfl (fun h3 => ?_) (fun h3 => ?_)
      · skip
        skip
        refine WP.seq <| WP.drawP [(0, none), (1, none), (2, none), (3, none), (4, none), (5, none), (6, none), (7, none), (8, none), (9, none)] mixed (by kernel_rfl) (by kernel_rfl) (by kernel_rfl) (take1 at0 (take1 at0 take0)) <| w0 rfl rfl rfl (S0.move rfl) rfl <| w0 rfl rfl rfl (S0.move rfl) rfl <| ?_  -- op t35 := indexAddr 51 t33 t34
        refine w0 rfl rfl rfl (S0.index1 rfl rfl hlt) rfl <| ?_
        refine w0 rfl rfl rfl (S0.load rfl (strs_get hx)) rfl <| ?_
        refine w0 rfl rfl rfl (S0.move rfl) rfl <| w0 rfl rfl rfl (S0.move rfl) rfl <| ?_  -- op t39 := indexAddr 51 t37 t38
        refine w0 rfl rfl rfl (S0.index1 rfl rfl hlt2) rfl <| ?_
        refine w0 rfl rfl rfl (S0.load rfl (strs_get hy)) rfl <| ?_
        -- (nothing to walk: op t41 := call F91{rivulet/rivuletref01.Less}(t36, t40))
        refine wcd rfl rfl rfl rfl (S1.callF rfl (rless1_spec hxl hyl) take0) rfl ?_
        refine w0 rfl rfl rfl (S0.assign rfl) rfl <| wE <| WP.ret <| ?_  -- ret
        refine Leaves.drop take0 ?_
        refine r1 rfl rfl ⟨?_, rfl⟩
        rw [hinv]; simp [ltL, h3]
      · skip
        refine WP.skip <| WP.region <| v0 (S0.move rfl) rfl <| v0 (S0.ari rfl rfl rfl (wrap_i64 (by omega))) rfl <| v0 (S0.assign rfl) rfl <| vE <| ?_  -- roundend
        exact ⟨i + 1, (by first | exact ⟨hlt, hlt2, by rw [hinv]; subst h3; simp [ltL, ltS_irr]⟩ | (dsimp only; exact ⟨hlt, hlt2, by rw [hinv]; subst h3; simp [ltL, ltS_irr]⟩)), (by omega), ⟨⟨rfl, rfl, rfl, trivial⟩, rfl, rfl⟩, ⟨_, (take1 at0 (take1 at0 take0))⟩⟩
    · skip
      have e : B.drop i = [] := List.drop_eq_nil_of_le (by omega)
      refine WP.exit <| WP.seq <| WP.region <| v0 (S0.move rfl) rfl <| v0 (S0.lenSl rfl) rfl <| v0 (S0.move rfl) rfl <| v0 (S0.lenSl rfl) rfl <| v0 (S0.cmp rfl rfl rfl) rfl <| v0 (S0.assign rfl) rfl <| vE <| WP.ret <| ?_  -- ret
      refine Leaves.drop take0 ?_
      refine r1 rfl rfl ⟨?_, rfl⟩
      rw [hinv, e]
      simp [ltL]; omega
  · skip
    have e : A.drop i = [] := List.drop_eq_nil_of_le (by omega)
    refine gF rfl rfl <| gF rfl rfl <| gF rfl rfl <| gF rfl rfl <| v0 (S0.pickF rfl rfl) rfl <| vE <| WP.condF rfl <| WP.exit <| WP.seq <| WP.region <| v0 (S0.move rfl) rfl <| v0 (S0.lenSl rfl) rfl <| v0 (S0.move rfl) rfl <| v0 (S0.lenSl rfl) rfl <| v0 (S0.cmp rfl rfl rfl) rfl <| v0 (S0.assign rfl) rfl <| vE <| WP.ret <| ?_  -- ret
    refine Leaves.drop take0 ?_
    refine r1 rfl rfl ⟨?_, rfl⟩
    rw [hinv, e]
    cases hb : B.drop i with
    | nil =>
      have := List.drop_eq_nil_iff.1 hb
      simp [ltL]; omega
    | cons y t =>
      have := congrArg List.length hb
      simp at this
      simp [ltL]; omega
theorem same_spec {va vb : Value} {A B : List Str} {ca cb : List Blk} (ha : RdS va A ca) (hb : RdS vb B cb) (hl : A.length ≤ 1000000) : FN Tryz.prog 32 [va, vb] [ca, cb] (is (.bool (decide (A = B))) [ca, cb]) := by
  obtain ⟨aa, ac, rfl, -, hra⟩ := ha
  obtain ⟨ba, bc, rfl, -, hrb⟩ := hb
  refine FN.intro 26 [(0, .slice aa A.length ac), (1, .slice ba B.length bc)] Tryz.func32 rfl (enters Tryz.func32 (by kernel_rfl) rfl) Tryz.ntmps32 rfl rfl ?_
  refine WP.seq <| WP.region <| v0 (S0.assign rfl) rfl <| vE <| WP.seq <| WP.seq <| WP.region <| v0 (S0.move rfl) rfl <| v0 (S0.lenSl rfl) rfl <| v0 (S0.move rfl) rfl <| v0 (S0.lenSl rfl) rfl <| v0 (S0.cmp rfl rfl rfl) rfl <| vE <| ?_  -- cond
  first | refine WP.condP rfl (fun h1 => ?_) (fun h1 => ?_) | refine WP.condN rfl (fun h1 => ?_) (fun h1 => ?_) | refine WP.cond rfl (fun h1 => ?_) (fun h1 => ?_)
  · skip
    refine WP.seq <| WP.region <| v0 (S0.assign rfl) rfl <| vE <| WP.ret <| ?_  -- ret
    refine r1 rfl rfl ⟨?_, rfl⟩
    have : A ≠ B := fun e => h1 (by rw [e])
    simp [this]
  · skip
    have hlen : A.length = B.length := by omega
    refine WP.skip <| WP.seq <| WP.seq <| WP.region <| v0 (S0.assign rfl) rfl <| vE <| WP.block <| ?_  -- Code.loop
    refine WP.loop (fun i : Nat => i ≤ A.length ∧ A.take i = B.take i) (fun i : Nat => [(0, .slice aa A.length ac), (1, .slice ba B.length bc), (5, .int .i64 (i : Int))]) (fun i : Nat => [ca, cb]) (fun i : Nat => A.length - i) (0) (⟨Nat.zero_le _, by simp⟩) ⟨rfl, rfl, rfl, trivial⟩ ⟨_, (take1 at0 (take1 at0 take0))⟩ (fun i hinv => ?_) 
    obtain ⟨hi, hinv⟩ := hinv
    refine WP.seq <| WP.seq <| WP.region <| v0 (S0.move rfl) rfl <| v0 (S0.move rfl) rfl <| v0 (S0.lenSl rfl) rfl <| v0 (S0.cmp rfl rfl rfl) rfl <| vE <| ?_  -- cond
    first | refine WP.condP rfl (fun h2 => ?_) (fun h2 => ?_) | refine WP.condN rfl (fun h2 => ?_) (fun h2 => ?_) | refine WP.cond rfl (fun h2 => ?_) (fun h2 => ?_)
    · skip
      have hlt : i < A.length := by omega
      have hlt2 : i < B.length := by omega
      rcases hra with e | ⟨b1, o1, L1, U1, fz1, rfl, hm1, he1⟩
      · rw [e] at hlt; simp at hlt
      rcases hrb with e | ⟨b2, o2, L2, U2, fz2, rfl, hm2, he2⟩
      · rw [e] at hlt2; simp at hlt2
      have : HasC ca b1 (.cells ⟨L1⟩ U1 fz1) := ⟨hm1⟩
      have : HasC cb b2 (.cells ⟨L2⟩ U2 fz2) := ⟨hm2⟩
      have hx : A[i]? = some A[i] := by simp [hlt]
      generalize A[i] = x at hx
      have hy : B[i]? = some B[i] := by simp [hlt2]
      generalize B[i] = y at hy
      have hxe := he1 i x hx
      have hye := he2 i y hy
      skip
      refine WP.skip <| WP.seq <| WP.block <| WP.seq <| WP.drawP [(0, none), (1, none), (2, none), (3, none), (4, none), (5, none), (6, none), (7, none), (8, none)] mixed (by kernel_rfl) (by kernel_rfl) (by kernel_rfl) (take1 at0 (take1 at0 take0)) <| w0 rfl rfl rfl (S0.move rfl) rfl <| w0 rfl rfl rfl (S0.move rfl) rfl <| ?_  -- op t19 := indexAddr 51 t17 t18
      refine w0 rfl rfl rfl (S0.indexO1 rfl rfl hlt) rfl <| ?_
      refine w0 rfl rfl rfl (S0.load rfl (rdS_get hxe)) rfl <| ?_
      refine w0 rfl rfl rfl (S0.move rfl) rfl <| w0 rfl rfl rfl (S0.move rfl) rfl <| ?_  -- op t23 := indexAddr 51 t21 t22
      refine w0 rfl rfl rfl (S0.indexO1 rfl rfl hlt2) rfl <| ?_
      refine w0 rfl rfl rfl (S0.load rfl (rdS_get hye)) rfl <| ?_
      refine w0 rfl rfl rfl (S0.cmpS rfl rfl rfl) rfl <| wE <| ?_  -- cond
      first | refine WP.condP rfl (fun h3 => ?_) (fun h3 => ?_) | refine WP.condN rfl (fun h3 => ?_) (fun h3 => ?_) | refine WP.cond rfl (fun h3 => ?_) (fun h3 => ?_)
      · skip
        refine WP.seq <| WP.region <| v0 (S0.assign rfl) rfl <| vE <| WP.ret <| ?_  -- ret
        refine r1 rfl rfl ⟨?_, rfl⟩
        have : A ≠ B := fun e => h3 (by rw [e, hy] at hx; cases hx; rfl)
        simp [this]
      · skip
        refine WP.skip <| WP.region <| v0 (S0.move rfl) rfl <| v0 (S0.ari rfl rfl rfl (wrap_i64 (by omega))) rfl <| v0 (S0.assign rfl) rfl <| vE <| ?_  -- roundend
        exact ⟨i + 1, (by first | exact ⟨hlt, by subst h3; rw [List.take_add_one, List.take_add_one, hx, hy, hinv]⟩ | (dsimp only; exact ⟨hlt, by subst h3; rw [List.take_add_one, List.take_add_one, hx, hy, hinv]⟩)), (by omega), ⟨⟨rfl, rfl, rfl, trivial⟩, rfl, rfl⟩, ⟨_, (take1 at0 (take1 at0 take0))⟩⟩
    · skip
      refine WP.exit <| WP.seq <| WP.region <| v0 (S0.assign rfl) rfl <| vE <| WP.ret <| ?_  -- ret
      refine r1 rfl rfl ⟨?_, rfl⟩
      rw [List.take_of_length_le (by omega), List.take_of_length_le (by omega)] at hinv
      simp [hinv]
theorem insS_at {f : Str} : ∀ {l : List Str} {i : Nat}, i ≤ l.length → (∀ j y, j < i → l[j]? = some y → lessS y f = true) → (∀ y, l[i]? = some y → lessS y f = false) → insS l f = if l[i]? = some f then l else l.take i ++ f :: l.drop i
  | [], i, hi, _, _ => by simp at hi; subst hi; simp [insS]
  | x :: l, 0, _, _, h2 => by
    have := h2 x rfl
    simp only [insS, this, List.getElem?_cons_zero, Option.some.injEq]
    simp
  | x :: l, i + 1, hi, h1, h2 => by
    have h0 := h1 0 x (by omega) rfl
    have ih := insS_at (f := f) (l := l) (i := i) (by simpa using hi) (fun j y hj hy => h1 (j + 1) y (by omega) (by simpa using hy)) (fun y hy => h2 y (by simpa using hy))
    simp only [insS, h0, if_true, ih, List.getElem?_cons_succ]
    split <;> simp
theorem rinsert_spec {v : Value} {l : List Str} {row : List Blk} {f : Str} (hs : IsSl 9 1 v (strs l) row) (hl : l.length ≤ 1000) (hx : ∀ x ∈ l, x.length ≤ 1000) (hf : f.length ≤ 1000) :
    FN Tryz.prog 30 [v, sv f] [row] (fun u h => ∃ row2, IsSl 9 1 u (strs (insS l f)) row2 ∧ h = [row2]) := by
  have hs' := hs
  obtain ⟨a, cap, rfl, hcap, hrow⟩ := hs'.strsE
  refine FN.intro 49 [(0, .slice a l.length cap), (1, sv f)] Tryz.func30 rfl (enters Tryz.func30 (by kernel_rfl) rfl) Tryz.ntmps30 rfl rfl ?_
  refine WP.seq <| WP.region <| v0 (S0.assign rfl) rfl <| vE <| WP.seq <| WP.region <| v0 (S0.assign rfl) rfl <| vE <| WP.seq <| WP.block <| ?_  -- Code.loop
  refine WP.loop (fun i : Nat => i ≤ l.length ∧ ∀ j y, j < i → l[j]? = some y → lessS y f = true) (fun i : Nat => [(0, .slice a l.length cap), (1, sv f), (5, .int .i64 (i : Int))]) (fun i : Nat => [row]) (fun i : Nat => l.length - i) (0) (⟨Nat.zero_le _, fun j y hj => by omega⟩) ⟨rfl, rfl, rfl, trivial⟩ ⟨_, (take1 at0 take0)⟩ (fun i hinv => ?_) 
  obtain ⟨hi, hall⟩ := hinv
  refine WP.seq <| WP.seq <| WP.region <| v0 (S0.move rfl) rfl <| v0 (S0.move rfl) rfl <| v0 (S0.lenSl rfl) rfl <| v0 (S0.cmp rfl rfl rfl) rfl <| v0 (S0.move rfl) rfl <| ?_  -- guard t11 (wants True) at t12 := move t0 [if #4=True]
  first | refine csP (t := 11) rfl (fun h1 => ?_) (fun h1 => ?_) | refine csN (t := 11) rfl (fun h1 => ?_) (fun h1 => ?_) | refine cs (t := 11) rfl (fun h1 => ?_) (fun h1 => ?_)
  · skip
    have hlt : i < l.length := by omega
    rcases hrow with ⟨e, -⟩ | ⟨b1, sp1, rfl, rfl, hsp1⟩
    · rw [e] at hlt; simp at hlt
    have hg : l[i]? = some l[i] := by simp [hlt]
    have hxl := hx _ (List.getElem_mem hlt)
    generalize l[i] = x at hg hxl
    refine gT rfl <| v0 (S0.move rfl) rfl <| gT rfl <| v0 (S0.move rfl) rfl <| ?_  -- op t14 := indexAddr 51 t12 t13 [if #4=True]
    refine gT rfl <| v0 (S0.index1 rfl rfl hlt) rfl <| ?_
    refine gT rfl <| v0 (S0.load rfl (strs_get hg)) rfl <| ?_
    refine gT rfl <| v0 (S0.move rfl) rfl <| ?_  -- op t17 := call F67{rivulet/rivuletref03.Less}(t15, t16) [if #4=True]
    refine gT rfl <| vcd (S1.callF rfl (rless_spec (show x.length ≤ 100000 by omega) (show f.length ≤ 100000 by omega)) take0) rfl ?_
    refine v0 (S0.pickT rfl rfl) rfl <| vE <| ?_  -- cond
    first | refine WP.condP rfl (fun h2 => ?_) (fun h2 => ?_) | refine WP.condN rfl (fun h2 => ?_) (fun h2 => ?_) | refine WP.cond rfl (fun h2 => ?_) (fun h2 => ?_)
    · skip
      refine WP.skip <| WP.block <| WP.region <| v0 (S0.move rfl) rfl <| v0 (S0.ari rfl rfl rfl (wrap_i64 (by omega))) rfl <| v0 (S0.assign rfl) rfl <| vE <| ?_  -- roundend
      exact ⟨i + 1, (by first | exact ⟨hlt, below_at (p := fun _ y => lessS y f = true) hall hg h2⟩ | (dsimp only; exact ⟨hlt, below_at (p := fun _ y => lessS y f = true) hall hg h2⟩)), (by omega), ⟨⟨rfl, rfl, rfl, trivial⟩, rfl, rfl⟩, ⟨_, (take1 at0 take0)⟩⟩
    · skip
      have hins := insS_at (f := f) hi hall (fun y hy => by rw [hg] at hy; cases hy; simpa using h2)
      rw [hg] at hins
      refine WP.exit <| WP.seq <| WP.seq <| WP.region <| v0 (S0.move rfl) rfl <| v0 (S0.move rfl) rfl <| v0 (S0.lenSl rfl) rfl <| v0 (S0.cmp rfl rfl rfl) rfl <| v0 (S0.move rfl) rfl <| ?_  -- guard t25 (wants True) at t26 := move t0 [if #4=True]
      refine csTh (t := 25) rfl ((by simp; omega)) ?_
      refine gT rfl <| v0 (S0.move rfl) rfl <| gT rfl <| v0 (S0.move rfl) rfl <| ?_  -- op t28 := indexAddr 51 t26 t27 [if #4=True]
      refine gT rfl <| v0 (S0.index1 rfl rfl hlt) rfl <| ?_
      refine gT rfl <| v0 (S0.load rfl (strs_get hg)) rfl <| ?_
      refine gT rfl <| v0 (S0.move rfl) rfl <| gT rfl <| v0 (S0.cmpS rfl rfl rfl) rfl <| v0 (S0.pickT rfl rfl) rfl <| vE <| ?_  -- cond
      first | refine WP.condP rfl (fun h3 => ?_) (fun h3 => ?_) | refine WP.condN rfl (fun h3 => ?_) (fun h3 => ?_) | refine WP.cond rfl (fun h3 => ?_) (fun h3 => ?_)
      · skip
        refine WP.seq <| WP.region <| v0 (S0.move rfl) rfl <| v0 (S0.assign rfl) rfl <| vE <| WP.ret <| ?_  -- ret
        refine r1 rfl rfl ?_
        exact ⟨_, by rw [hins, if_pos (by rw [h3])]; exact hs, rfl⟩
      · skip
        rw [if_neg (fun e => h3 (by simpa using e))] at hins
        obtain ⟨hw, hle⟩ := strs_cut sp1 l 0 i cap (Nat.zero_le _) (by omega) hcap
        obtain ⟨hw2, hle2⟩ := strs_cut sp1 l i l.length cap (by omega) (Nat.le_refl _) hcap
        rw [List.drop_zero, Nat.sub_zero] at hw
        have htl : (l.take i).length = i := by rw [List.length_take]; omega
        have hdl : ((l.drop i).take (l.length - i)) = l.drop i := List.take_of_length_le (by simp)
        rw [hdl] at hw2
        refine WP.skip <| WP.seq <| WP.region <| vnv (S1.buildSlice rfl (qs := []) rfl rfl) rfl fun b34 => v0 (S0.move rfl) rfl <| v0 (S0.move rfl) rfl <| ?_  -- op t37 := slice 51 t35 none t36 none
        refine v0 (S0.slice (i := 0) (j := i) rfl rfl rfl ⟨Nat.zero_le _, by omega⟩) rfl <| ?_
        refine ve (S1.appendS rfl (IsSl.row (n := 0) (c := 0) (l := []) (sp := []) rfl rfl (Nat.le_refl _)) rfl hle hw at0 (strs_cv _) rfl (by rw [strs_len, htl]; simp only [List.length_nil]; omega)) rfl ?_
        rintro v2 _ ⟨row2, hs2, rfl⟩
        rw [List.nil_append] at hs2
        refine v0 (S0.assign rfl) rfl <| vE <| WP.seq <| WP.region <| v0 (S0.move rfl) rfl <| v0 (S0.move rfl) rfl <| vnv (S1.buildSlice rfl (qs := [(0, _)]) rfl rfl) rfl fun b41 => ?_  -- op t42 := append(t39, t41) :[51, 51]
        refine ve (S1.appendL rfl hs2 rfl rfl (atS at0) rfl rfl (by rw [strs_len, htl]; simp; omega)) rfl ?_
        rintro v3 _ ⟨row3, hs3, rfl⟩
        refine v0 (S0.assign rfl) rfl <| vE <| WP.seq <| WP.region <| v0 (S0.move rfl) rfl <| v0 (S0.move rfl) rfl <| v0 (S0.move rfl) rfl <| ?_  -- op t46 := slice 51 t44 t45 none none
        refine v0 (S0.slice (i := i) (j := l.length) rfl rfl rfl ⟨by omega, hcap⟩) rfl <| ?_
        refine ve (S1.appendS rfl hs3 rfl hle2 hw2 at0 (strs_cv _) rfl (by rw [List.length_append, strs_len, htl, strs_len]; simp; omega)) rfl ?_
        rintro v4 _ ⟨row4, hs4, rfl⟩
        refine v0 (S0.assign rfl) rfl <| vE <| WP.seq <| WP.region <| v0 (S0.move rfl) rfl <| v0 (S0.assign rfl) rfl <| vE <| WP.ret <| ?_  -- ret
        refine Leaves.drop (take1 at0 take0) ?_
        refine r1 rfl rfl ?_
        refine ⟨row4, ?_, rfl⟩
        rw [hins]
        simpa [strs] using hs4
  · skip
    have e : i = l.length := by omega
    subst e
    have hins := insS_at (f := f) (Nat.le_refl _) hall (fun y hy => by simp at hy)
    rw [if_neg (by simp), List.take_length, List.drop_length] at hins
    refine gF rfl rfl <| gF rfl rfl <| gF rfl rfl <| gF rfl rfl <| gF rfl rfl <| gF rfl rfl <| v0 (S0.pickF rfl rfl) rfl <| vE <| WP.condF rfl <| WP.exit <| WP.seq <| WP.seq <| WP.region <| v0 (S0.move rfl) rfl <| v0 (S0.move rfl) rfl <| v0 (S0.lenSl rfl) rfl <| v0 (S0.cmp rfl rfl rfl) rfl <| v0 (S0.move rfl) rfl <| ?_  -- guard t25 (wants True) at t26 := move t0 [if #4=True]
    refine csFh (t := 25) rfl ((by simp)) ?_
    refine gF rfl rfl <| gF rfl rfl <| gF rfl rfl <| gF rfl rfl <| gF rfl rfl <| gF rfl rfl <| v0 (S0.pickF rfl rfl) rfl <| vE <| WP.condF rfl <| WP.skip <| WP.seq <| WP.region <| vnv (S1.buildSlice rfl (qs := []) rfl rfl) rfl fun b34 => v0 (S0.move rfl) rfl <| v0 (S0.move rfl) rfl <| ?_  -- op t37 := slice 51 t35 none t36 none
    obtain ⟨-, -, hc1⟩ := hs.rdS.cutG 0 l.length (Nat.zero_le _) (Nat.le_refl _)
    obtain ⟨-, -, hc2⟩ := hs.rdS.cutG l.length l.length (Nat.le_refl _) (Nat.le_refl _)
    refine v0 (S0.sliceG (i := 0) (j := l.length) rfl rfl rfl ⟨Nat.zero_le _, hcap⟩) rfl <| ?_
    refine ve (S1.appendRd rfl (IsSl.row (n := 0) (c := 0) (l := []) (sp := []) rfl rfl (Nat.le_refl _)) rfl hc1 (fun q hq => List.mem_flatten.2 ⟨_, by simp, hq⟩) at0 rfl (by simp; omega)) rfl ?_
    rintro v2 _ ⟨row2, hs2, rfl⟩
    rw [List.nil_append] at hs2
    refine v0 (S0.assign rfl) rfl <| vE <| WP.seq <| WP.region <| v0 (S0.move rfl) rfl <| v0 (S0.move rfl) rfl <| vnv (S1.buildSlice rfl (qs := [(0, _)]) rfl rfl) rfl fun b41 => ?_  -- op t42 := append(t39, t41) :[51, 51]
    refine ve (S1.appendL rfl hs2 rfl rfl (atS at0) rfl rfl (by rw [strs_len]; simp; omega)) rfl ?_
    rintro v3 _ ⟨row3, hs3, rfl⟩
    refine v0 (S0.assign rfl) rfl <| vE <| WP.seq <| WP.region <| v0 (S0.move rfl) rfl <| v0 (S0.move rfl) rfl <| v0 (S0.move rfl) rfl <| ?_  -- op t46 := slice 51 t44 t45 none none
    refine v0 (S0.sliceG (i := l.length) (j := l.length) rfl rfl rfl ⟨Nat.le_refl _, hcap⟩) rfl <| ?_
    refine ve (S1.appendRd rfl hs3 rfl hc2 (fun q hq => List.mem_flatten.2 ⟨_, by simp, hq⟩) at0 rfl (by rw [List.length_append, strs_len]; simp; omega)) rfl ?_
    rintro v4 _ ⟨row4, hs4, rfl⟩
    refine v0 (S0.assign rfl) rfl <| vE <| WP.seq <| WP.region <| v0 (S0.move rfl) rfl <| v0 (S0.assign rfl) rfl <| vE <| WP.ret <| ?_  -- ret
    refine Leaves.drop (take1 at0 take0) ?_
    refine r1 rfl rfl ?_
    refine ⟨row4, ?_, rfl⟩
    rw [hins]
    simpa [strs] using hs4
end Go.Proofs.YtanecnnfpdhadaaGreatDoor
/- CloneS -/
namespace Go.Proofs.YtanecnnfpdhadaaGreatDoor
open Go

theorem strs_all (sp : List Value) (R : List Str) : ((strs R ++ sp).drop 0).take (R.length * 1) = strs R ∧ 0 + R.length * 1 ≤ (strs R ++ sp).length := by
  have : (strs R).length = R.length := by simp [strs]
  refine ⟨by rw [List.drop_zero, Nat.mul_one, ← this, List.take_left], by rw [List.length_append]; omega⟩
theorem clone_spec {v : Value} {l : List Str} {row : List Blk} (hs : IsSl 9 1 v (strs l) row) (hl : l.length ≤ 1000000) : FN Tryz.prog 42 [v] [row] (fun u h => ∃ row2, IsSl 9 1 u (strs l) row2 ∧ h = [row2, row]) := by
  obtain ⟨a, cap, rfl, hcap, hrow⟩ := hs.strsE
  rcases hrow with ⟨rfl, rfl, rfl, rfl⟩ | ⟨b, sp, rfl, rfl, hsp⟩
  · refine FN.intro 8 [(0, .slice none ([] : List Str).length 0)] Tryz.func42 rfl (enters Tryz.func42 (by kernel_rfl) rfl) Tryz.ntmps42 rfl rfl ?_
    refine WP.perm (h' := [[], []]) (k := []) (by simp) ?_
    refine WP.seq <| WP.region <| v0 (S0.assign rfl) rfl <| vE <| WP.seq <| WP.seq <| WP.region <| v0 (S0.move rfl) rfl <| v0 (S0.nilSl rfl rfl rfl) rfl <| vE <| ?_  -- cond
    refine WP.condTh rfl (rfl) ?_
    refine WP.seq <| WP.region <| v0 (S0.assign rfl) rfl <| vE <| WP.ret <| ?_  -- ret
    refine r1 rfl rfl ?_
    exact ⟨[], IsSl.nil, rfl⟩
  · refine FN.intro 8 [(0, .slice (some ⟨b, 0, none⟩) l.length cap)] Tryz.func42 rfl (enters Tryz.func42 (by kernel_rfl) rfl) Tryz.ntmps42 rfl rfl ?_
    refine WP.seq <| WP.region <| v0 (S0.assign rfl) rfl <| vE <| WP.seq <| WP.seq <| WP.region <| v0 (S0.move rfl) rfl <| v0 (S0.nilSl rfl rfl rfl) rfl <| vE <| ?_  -- cond
    refine WP.condFh rfl (rfl) ?_
    refine WP.skip <| WP.seq <| WP.region <| vnv (S1.buildSlice rfl (qs := []) rfl rfl) rfl fun b5 => v0 (S0.move rfl) rfl <| ?_  -- op t7 := append(t5, t6) :[51, 51]
    refine ve (S1.appendRd rfl (IsSl.row (n := 0) (c := 0) (l := []) (sp := []) rfl rfl (Nat.le_refl _)) rfl hs.rdS (fun q hq => List.mem_flatten.2 ⟨_, by simp, hq⟩) at0 rfl (by simp; omega)) rfl ?_
    rintro v2 _ ⟨row2, hsl2, rfl⟩
    rw [List.nil_append] at hsl2
    refine v0 (S0.assign rfl) rfl <| vE <| WP.ret <| ?_  -- ret
    refine r1 rfl rfl ?_
    exact ⟨row2, hsl2, rfl⟩
-- left out: idx_spec (slices.Index[[]string,string])
































theorem any_eq_mem (x : Str) (l : List Str) : (l.any fun y => decide (x = y)) = decide (x ∈ l) := by
  rw [Bool.eq_iff_iff]; simp
-- left out: contains_spec (slices.Contains[[]string,string])






end Go.Proofs.YtanecnnfpdhadaaGreatDoor
/- D2 -/
namespace Go.Proofs.YtanecnnfpdhadaaGreatDoor
open Go

theorem ask1_spec {a b : Str} (ha : a.length ≤ 100000) (hb : b.length ≤ 100000) : FN Tryz.prog 38 [sv a, sv b] [] (is (.int .i64 (cmpL (levels a) (levels b))) []) := by
  have hla : (levels a).length ≤ 1000000 := by have := levels_len a; omega
  refine FN.intro 10 [(0, sv a), (1, sv b)] Tryz.func38 rfl (enters Tryz.func38 (by kernel_rfl) rfl) Tryz.ntmps38 rfl rfl ?_
  refine WP.seq <| WP.region <| v0 (S0.assign rfl) rfl <| vE <| WP.seq <| WP.region <| v0 (S0.move rfl) rfl <| ?_  -- op t6 := call F40{rivulet/topic.Levels}(t5)
  refine vc (S1.callF rfl (levels_spec (show a.length ≤ 1000000 by omega)) take0) rfl ?_
  rintro va _ ⟨ra, h1, rfl⟩
  refine app ?_
  refine v0 (S0.move rfl) rfl <| ?_  -- op t8 := call F40{rivulet/topic.Levels}(t7)
  refine vc (S1.callF rfl (levels_spec (show b.length ≤ 1000000 by omega)) take0) rfl ?_
  rintro vb _ ⟨rb, h2, rfl⟩
  refine app ?_
  -- (nothing to walk: op t9 := call F39{slices.Compare[[]string,string]}(t6, t8))
  refine vcd (S1.callF rfl (compare_spec h1.rdS h2.rdS hla) (take1 (atS at0) (take1 at0 take0))) rfl ?_
  refine v0 (S0.assign rfl) rfl <| vE <| WP.ret <| ?_  -- ret
  refine Leaves.drop take0 ?_
  refine r1 rfl rfl ⟨?_, rfl⟩
  rfl
theorem cmpT_zero (x y : Str) : cmpT x y = 0 ↔ x = y := by
  unfold cmpT
  by_cases h : ltS x y = true
  · rw [if_pos h]
    exact ⟨fun e => (by cases e), fun e => by subst e; rw [ltS_irr] at h; cases h⟩
  · rw [if_neg h]
    by_cases e : x = y
    · rw [if_pos e]; exact ⟨fun _ => e, fun _ => rfl⟩
    · rw [if_neg e]; exact ⟨fun h => (by cases h), fun h => absurd h e⟩
theorem cmpL_zero : ∀ (x y : List Str), cmpL x y = 0 ↔ x = y
  | [], [] => by simp [cmpL]
  | [], y :: ys => by simp [cmpL]
  | x :: xs, [] => by simp [cmpL]
  | x :: xs, y :: ys => by
    have h1 := cmpT_zero x y
    have h2 := cmpL_zero xs ys
    simp only [cmpL, List.cons.injEq]
    by_cases h : cmpT x y = 0
    · rw [if_neg (by simp [h])]
      exact ⟨fun e => ⟨h1.1 h, h2.1 e⟩, fun e => h2.2 e.2⟩
    · rw [if_pos h]
      exact ⟨fun e => absurd e h, fun e => absurd (h1.2 e.1) h⟩
theorem sorted_lt {F : List Str} (hF : SortedS F) {j k : Nat} {x y : Str} (h : j < k) (hx : F[j]? = some x) (hy : F[k]? = some y) : lessS x y = true := by
  obtain ⟨h1, e1⟩ := List.getElem?_eq_some_iff.1 hx
  obtain ⟨h2, e2⟩ := List.getElem?_eq_some_iff.1 hy
  have := List.pairwise_iff_getElem.1 hF j k h1 h2 h
  rwa [e1, e2] at this
/-- where a filter stands, or would stand -/
theorem bsearch_spec {v : Value} {F : List Str} {row : List Blk} {f : Str} (hs : IsSl 9 1 v (strs F) row) (hF : SortedS F) (hl : F.length ≤ 1000) (hx : ∀ x ∈ F, x.length ≤ 1000) (hf : f.length ≤ 1000) :
    FN Tryz.prog 37 [v, sv f, .func (.func 38) ⟨[]⟩ ⟨[]⟩] [row]
      (fun u h => ∃ i : Nat, i ≤ F.length ∧ (∀ j y, j < i → F[j]? = some y → lessS y f = true) ∧ (∀ j y, i ≤ j → F[j]? = some y → lessS y f = false) ∧ u = .tuple ⟨[.int .i64 (i : Int), .bool (decide (F[i]? = some f))]⟩ ∧ h = [row]) := by
  obtain ⟨a, cap, rfl, hcap, hrow⟩ := hs.strsE
  refine FN.intro 49 [(0, .slice a F.length cap), (1, sv f), (2, .func (.func 38) ⟨[]⟩ ⟨[]⟩)] Tryz.func37 rfl (enters Tryz.func37 (by kernel_rfl) rfl) Tryz.ntmps37 rfl rfl ?_
  refine WP.seq <| WP.region <| v0 (S0.assign rfl) rfl <| v0 (S0.assign rfl) rfl <| vE <| WP.seq <| WP.region <| v0 (S0.move rfl) rfl <| v0 (S0.lenSl rfl) rfl <| v0 (S0.assign rfl) rfl <| vE <| WP.seq <| WP.region <| v0 (S0.move rfl) rfl <| v0 (S0.assign rfl) rfl <| v0 (S0.assign rfl) rfl <| vE <| WP.seq <| WP.block <| ?_  -- Code.loop
  refine WP.loop (fun st : Nat × Nat => st.1 ≤ st.2 ∧ st.2 ≤ F.length ∧ (∀ j y, j < st.1 → F[j]? = some y → lessS y f = true) ∧ (∀ j y, st.2 ≤ j → F[j]? = some y → lessS y f = false)) (fun st : Nat × Nat => [(0, .slice a F.length cap), (1, sv f), (2, .func (.func 38) ⟨[]⟩ ⟨[]⟩), (8, .int .i64 (F.length : Int)), (9, .int .i64 (st.1 : Int)), (10, .int .i64 (st.2 : Int))]) (fun st : Nat × Nat => [row]) (fun st : Nat × Nat => st.2 - st.1) ((0, F.length)) (⟨Nat.zero_le _, Nat.le_refl _, fun j y h => by omega, fun j y h hy => by have := (List.getElem?_eq_some_iff.1 hy).1; omega⟩) ⟨rfl, rfl, rfl, rfl, rfl, rfl, trivial⟩ ⟨_, (take1 at0 take0)⟩ (fun st hinv => ?_) 
  obtain ⟨i, j⟩ := st
  obtain ⟨hij, hj, hlo, hhi⟩ := hinv
  dsimp only at hij hj hlo hhi ⊢
  refine WP.seq <| WP.seq <| WP.region <| v0 (S0.move rfl) rfl <| v0 (S0.move rfl) rfl <| v0 (S0.cmp rfl rfl rfl) rfl <| vE <| ?_  -- cond
  first | refine WP.condP rfl (fun h1 => ?_) (fun h1 => ?_) | refine WP.condN rfl (fun h1 => ?_) (fun h1 => ?_) | refine WP.cond rfl (fun h1 => ?_) (fun h1 => ?_)
  · skip
    have hlt : i < j := by omega
    have hm1 : (i + j) / 2 < j := by omega
    have hm2 : i ≤ (i + j) / 2 := by omega
    refine WP.skip <| WP.block <| WP.seq <| WP.region <| v0 (S0.move rfl) rfl <| v0 (S0.move rfl) rfl <| v0 (S0.ari rfl rfl rfl (wrap_i64 (by omega))) rfl <| v0 (S0.convI rfl (wrap_u64 (by omega))) rfl <| ?_  -- op t22 := shr t21 1:u64 :108
    rw [show (i : Int) + (j : Int) = ((i + j : Nat) : Int) by omega]
    refine v0 (S0.shr (n := 1) (z := (((i + j) / 2 : Nat) : Int)) rfl rfl (by rw [show (2 : Int) ^ (min 1 IntKind.u64.bits) = ((2 : Nat) : Int) from rfl, Int.fdiv_eq_ediv_of_nonneg _ (by omega)]; rfl)) rfl <| ?_
    generalize (i + j) / 2 = m at hm1 hm2
    have hlm : m < F.length := by omega
    rcases hrow with ⟨e, -⟩ | ⟨b1, sp1, rfl, rfl, hsp1⟩
    · rw [e] at hlm; simp at hlm
    have hy : F[m]? = some F[m] := by simp [hlm]
    have hyl := hx _ (List.getElem_mem hlm)
    generalize F[m] = y at hy hyl
    refine v0 (S0.convI rfl (wrap_i64 (by omega))) rfl <| v0 (S0.assign rfl) rfl <| vE <| WP.seq <| WP.region <| v0 (S0.move rfl) rfl <| v0 (S0.move rfl) rfl <| v0 (S0.move rfl) rfl <| ?_  -- op t27 := indexAddr 51 t25 t26
    refine v0 (S0.index1 rfl rfl hlm) rfl <| ?_
    refine v0 (S0.load rfl (strs_get hy)) rfl <| ?_
    refine v0 (S0.move rfl) rfl <| ?_  -- op t30 := call t24(t28, t29)
    refine vcd (S1.callC rfl rfl rfl (ask1_spec (show y.length ≤ 100000 by omega) (show f.length ≤ 100000 by omega)) take0) rfl ?_
    refine v0 (S0.cmp rfl rfl rfl) rfl <| vE <| ?_  -- cond
    first | refine WP.condP rfl (fun h2 => ?_) (fun h2 => ?_) | refine WP.condN rfl (fun h2 => ?_) (fun h2 => ?_) | refine WP.cond rfl (fun h2 => ?_) (fun h2 => ?_)
    · skip
      have hless : lessS y f = true := (cmpL_lt _ _).1 h2
      have hlo' : ∀ k z, k < m + 1 → F[k]? = some z → lessS z f = true := fun k z hk hz => by
        rcases Nat.lt_or_ge k m with h | h
        · exact lessS_trans (sorted_lt hF h hz hy) hless
        · obtain rfl : k = m := by omega
          rw [hy] at hz; cases hz; exact hless
      refine WP.region <| v0 (S0.move rfl) rfl <| v0 (S0.ari rfl rfl rfl (wrap_i64 (by omega))) rfl <| v0 (S0.assign rfl) rfl <| vE <| ?_  -- roundend
      exact ⟨(m + 1, j), (by first | exact ⟨hm1, hj, hlo', hhi⟩ | (dsimp only; exact ⟨hm1, hj, hlo', hhi⟩)), (show j - (m + 1) < j - i by omega), ⟨⟨rfl, rfl, rfl, rfl, rfl, rfl, trivial⟩, rfl, rfl⟩, ⟨_, (take1 at0 take0)⟩⟩
    · skip
      have hless : lessS y f = false := by
        cases h : lessS y f with
        | false => rfl
        | true => exact absurd ((cmpL_lt _ _).2 h) h2
      refine WP.region <| v0 (S0.move rfl) rfl <| v0 (S0.assign rfl) rfl <| vE <| ?_  -- roundend
      have hhi' : ∀ k z, m ≤ k → F[k]? = some z → lessS z f = false := fun k z hk hz => by
        rcases Nat.lt_or_ge m k with h | h
        · cases hz2 : lessS z f with
          | false => rfl
          | true => rw [lessS_trans (sorted_lt hF h hy hz) hz2] at hless; cases hless
        · obtain rfl : k = m := by omega
          rw [hy] at hz; cases hz; exact hless
      exact ⟨(i, m), (by first | exact ⟨hm2, Nat.le_of_lt hlm, hlo, hhi'⟩ | (dsimp only; exact ⟨hm2, Nat.le_of_lt hlm, hlo, hhi'⟩)), (show m - i < j - i by omega), ⟨⟨rfl, rfl, rfl, rfl, rfl, rfl, trivial⟩, rfl, rfl⟩, ⟨_, (take1 at0 take0)⟩⟩
  · skip
    have e : i = j := by omega
    subst e
    refine WP.exit <| WP.seq <| WP.region <| v0 (S0.move rfl) rfl <| v0 (S0.move rfl) rfl <| v0 (S0.move rfl) rfl <| v0 (S0.cmp rfl rfl rfl) rfl <| v0 (S0.move rfl) rfl <| ?_  -- guard t39 (wants True) at t40 := move t2 [if #4=True]
    first | refine csP (t := 39) rfl (fun h2 => ?_) (fun h2 => ?_) | refine csN (t := 39) rfl (fun h2 => ?_) (fun h2 => ?_) | refine cs (t := 39) rfl (fun h2 => ?_) (fun h2 => ?_)
    · skip
      have hlm : i < F.length := by omega
      rcases hrow with ⟨e, -⟩ | ⟨b1, sp1, rfl, rfl, hsp1⟩
      · rw [e] at hlm; simp at hlm
      have hy : F[i]? = some F[i] := by simp [hlm]
      have hyl := hx _ (List.getElem_mem hlm)
      generalize F[i] = y at hy hyl
      refine gT rfl <| v0 (S0.move rfl) rfl <| gT rfl <| v0 (S0.move rfl) rfl <| gT rfl <| v0 (S0.move rfl) rfl <| ?_  -- op t43 := indexAddr 51 t41 t42 [if #4=True]
      refine gT rfl <| v0 (S0.index1 rfl rfl hlm) rfl <| ?_
      refine gT rfl <| v0 (S0.load rfl (strs_get hy)) rfl <| ?_
      refine gT rfl <| v0 (S0.move rfl) rfl <| ?_  -- op t46 := call t40(t44, t45) [if #4=True]
      refine gT rfl <| vcd (S1.callC rfl rfl rfl (ask1_spec (show y.length ≤ 100000 by omega) (show f.length ≤ 100000 by omega)) take0) rfl ?_
      refine gT rfl <| v0 (S0.cmp rfl rfl rfl) rfl <| v0 (S0.pickT rfl rfl) rfl <| v0 (S0.assign rfl) rfl <| v0 (S0.assign rfl) rfl <| vE <| WP.ret <| ?_  -- ret
      refine r2 rfl rfl rfl ?_
      refine ⟨i, hj, hlo, hhi, ?_, rfl⟩
      have : decide (cmpL (levels y) (levels f) = 0) = decide (F[i]? = some f) := by
        rw [hy, Bool.eq_iff_iff, decide_eq_true_eq, decide_eq_true_eq, cmpL_zero]
        exact ⟨fun h => by rw [levels_inj h], fun h => by cases h; rfl⟩
      rw [this]
    · skip
      have hn : F[i]? = none := List.getElem?_eq_none (by omega)
      refine gF rfl rfl <| gF rfl rfl <| gF rfl rfl <| gF rfl rfl <| gF rfl rfl <| gF rfl rfl <| gF rfl rfl <| gF rfl rfl <| v0 (S0.pickF rfl rfl) rfl <| v0 (S0.assign rfl) rfl <| v0 (S0.assign rfl) rfl <| vE <| WP.ret <| ?_  -- ret
      refine r2 rfl rfl rfl ?_
      exact ⟨i, hj, hlo, hhi, by rw [hn]; rfl, rfl⟩
end Go.Proofs.YtanecnnfpdhadaaGreatDoor
/- Ins -/
/-
  copy between rows of one cell each.
-/
namespace Go.Proofs.YtanecnnfpdhadaaGreatDoor
open Go

section
variable {P : Program} {r : Option Nat} {Q : Exit → Fr → Hp → Prop} {f : Fr} {h h' : Hp} {d : Option Tmp} {ty : TypeId} {p : String} {af : Array Edge} {gd : Option (Nat × Bool)} {T E U U2 T2 : TypeId} {x y : Operand}
/-- 'copy(x, y)' -/
theorem S1.copyR {b o dl dc b2 o2 sl sc : Nat} {l l2 cs l' : List Value} {fz : Nat × Nat} {by_ : Nat} {z : Value} [kk : Und P T (.slice E)] [ki : Inf P E 1 by_ z] [hh : Has h b (.cells ⟨l⟩ U (0, 0))] [hh2 : Has h b2 (.cells ⟨l2⟩ U2 fz)]
    (hx : ev f x = some (.slice (some ⟨b, o, none⟩) dl dc)) (hy : ev f y = some (.slice (some ⟨b2, o2, none⟩) sl sc)) (hcs : (l2.drop o2).take (min sl dl) = cs) (hlen : cs.length = min sl dl) (hfit : o + cs.length ≤ l.length) (hle : o2 + cs.length ≤ l2.length) (hcv : cs.all cellV = true)
    (hl' : l.take o ++ cs ++ l.drop (o + cs.length) = l') [hu : Upd h b (.cells ⟨l⟩ U (0, 0)) (.cells ⟨l'⟩ U (0, 0)) h'] :
    S1 P r ⟨d, .call ⟨.builtin .copy, #[x, y], #[T, T2]⟩, ty, p, af, gd⟩ f h (is (.int .i64 (cs.length : Int)) h') :=
  S1.ofRun (by intro c; simp) fun E' R ρ w k' st => by
    have hm := st.has (k := hh)
    have hm2 := st.has (k := hh2)
    have hst := run_storeCells (P := P) (U := U) cs w o 0 l hm (by omega) (List.all_eq_true.1 hcv)
    have hld := run_loadCellsFrom (P := P) (off := o2) hm2 (min sl dl) 0 #[] (show o2 + 0 + min sl dl ≤ l2.length by omega)
    rw [Nat.add_zero, hcs] at hld
    rw [Nat.add_zero, hl'] at hst
    obtain ⟨i, hi, h1, -, -⟩ := info_of (k := ki)
    refine ⟨_, h', _, ?_, ⟨rfl, rfl⟩, st.upd (k := hu)⟩
    simp only [execOp, resolve, invoke, builtin]
    simp [k' _ _ hx, k' _ _ hy, Builtin.copy_, run_underlying kk.eq, Builtin.lenOf, Builtin.firstCells, run_sizeOf (k := ki), loadCells, hld, hst, hlen, goInt]
/-- 'append(x, make(.., k)...)', no room -/
theorem S1.growOn {b o n c k by_ : Nat} {l : List Value} {fz : Nat × Nat} {z : Value} {kq kn : IntKind} [kk : Und P T (.slice E)] [k2 : Und P T2 (.int kn)] [ki : Inf P E 1 by_ z] [hh : Has h b (.cells ⟨l⟩ U fz)]
    (hx : ev f x = some (.slice (some ⟨b, o, none⟩) n c)) (hy : ev f y = some (.int kq (k : Int))) (hpos : 0 < k) (hg : c < n + k) (hle : o + n ≤ l.length) (hroom : n + k ≤ 1000000) (hz : z.cells.size = 1) (hb : by_ ≤ 100000 := by decide) :
    S1 P r ⟨d, .call ⟨.builtin .append, #[x, y], #[T, T2]⟩, ty, p, af, gd⟩ f h (fun v' h' => ∃ b' nc sp, n + k ≤ nc ∧ ((l.drop o).take n ++ sp).length = nc ∧ v' = .slice (some ⟨b', 0, none⟩) (n + k) nc ∧ h' = [(b', .cells ⟨(l.drop o).take n ++ sp⟩ E (0, 0))] :: h) :=
  S1.ofRun (by intro c; simp) fun E' R ρ w k' st => by
    have hm := st.draw.has (k := hh)
    obtain ⟨i, hi, h1, h2, h3⟩ := info_of (k := ki)
    have hb1 : (n + k) * i.bytes ≤ 1000000 * 100000 := Nat.mul_le_mul hroom (by omega)
    have hb2 : k * i.bytes ≤ 1000000 * 100000 := Nat.mul_le_mul (by omega) (by omega)
    have hold : (Builtin.firstCells i.size n (.slice (some ⟨b, o, none⟩) n c)).run P w.drew = .ok ((l.drop o).take n).toArray w.drew := by
      rw [h1]
      have := run_firstCells (P := P) (k := 1) (n := n) (c := c) hm (show o + n * 1 ≤ l.length by omega)
      simpa using this
    have hrun := Lib.run_append_grow_zeros (P := P) w T T2 ty E i z kq kn kk.eq k2.eq hi h3 (some ⟨b, o, none⟩) n c _ hold k hpos (by omega) hg (by omega) (by omega) (growslice_fits hg (by omega))
    have hgc : n + k ≤ grownCap w (n + k) c E := by
      unfold grownCap Question.cut; simp
    refine ⟨_, _, _, ?_, ⟨w.heap.size, grownCap w (n + k) c E, (Builtin.zeroCells z.cells k).toList ++ (Builtin.zeroCells z.cells (grownCap w (n + k) c E - (n + k))).toList, hgc, ?_, rfl, rfl⟩, Sat.new (h := h) (Sat.draw st) _⟩
    · have he : execOp ρ ⟨d, .call ⟨.builtin .append, #[x, y], #[T, T2]⟩, ty, p, af, gd⟩ = (do Pure.pure (Next.value (← Builtin.append_ #[T, T2] ty #[.slice (some ⟨b, o, none⟩) n c, .int kq (k : Int)]))) := by
        simp only [execOp, resolve, invoke, builtin]
        simp [k' _ _ hx, k' _ _ hy]
      have ea : ((l.drop o).take n).toArray ++ Builtin.zeroCells z.cells k ++ Builtin.zeroCells z.cells (grownCap w (n + k) c E - (n + k)) = ⟨(l.drop o).take n ++ ((Builtin.zeroCells z.cells k).toList ++ (Builtin.zeroCells z.cells (grownCap w (n + k) c E - (n + k))).toList)⟩ := by
        apply Array.ext'; simp
      rw [he, Sem.run_bind, hrun, ea]
      rfl
    · have hl1 : ((l.drop o).take n).length = n := by rw [List.length_take, List.length_drop]; omega
      simp [Builtin.zeroCells, hz, hl1]; omega
/-- 'append(x, y...)' with room: it stays in its row -/
theorem S1.appendIn {b n c b2 o2 m cp : Nat} {l l2 ws l' : List Value} {fz : Nat × Nat} {by_ : Nat} {z : Value} [kk : Und P T (.slice E)] [k2 : Und P T2 (.slice E)] [ki : Inf P E 1 by_ z] [hh : Has h b (.cells ⟨l⟩ U (0, 0))] [hh2 : Has h b2 (.cells ⟨l2⟩ U2 fz)]
    (hx : ev f x = some (.slice (some ⟨b, 0, none⟩) n c)) (hy : ev f y = some (.slice (some ⟨b2, o2, none⟩) m cp)) (hws : (l2.drop o2).take m = ws) (hle : o2 + m ≤ l2.length) (hroom : n + m ≤ c) (hfit : n + m ≤ l.length) (hcv : ws.all cellV = true)
    (hl' : l.take n ++ ws ++ l.drop (n + m) = l') [hu : Upd h b (.cells ⟨l⟩ U (0, 0)) (.cells ⟨l'⟩ U (0, 0)) h'] :
    S1 P r ⟨d, .call ⟨.builtin .append, #[x, y], #[T, T2]⟩, ty, p, af, gd⟩ f h (is (.slice (some ⟨b, 0, none⟩) (n + m) c) h') :=
  S1.ofRun (by intro c; simp) fun E' R ρ w k' st => by
    have hm := st.has (k := hh)
    have hm2 := st.has (k := hh2)
    have hwl : ws.length = m := by rw [← hws, List.length_take, List.length_drop]; omega
    have hst := run_storeCells (P := P) (U := U) ws w n 0 l hm (by omega) (List.all_eq_true.1 hcv)
    rw [Nat.add_zero, hwl, hl'] at hst
    have hf : (Builtin.firstCells 1 m (.slice (some ⟨b2, o2, none⟩) m cp)).run P w = .ok ⟨ws⟩ w := by
      have := run_firstCells (P := P) (k := 1) (n := m) (c := cp) hm2 (show o2 + m * 1 ≤ l2.length by omega)
      rw [Nat.mul_one, hws] at this
      exact this
    have ea : (⟨b, 0, none⟩ : Addr).add (n * 1) = ⟨b, n, none⟩ := by unfold Addr.add; split <;> simp_all
    have hrun := run_append_in (P := P) (ty := ty) (T := T) (T2 := T2) (E := E) (E2 := E) (k := 1) (by_ := by_) (zv := z) (w := w) (base := some ⟨b, 0, none⟩) (n := n) (c := c) (ws := ws) ⟨_, _, rfl⟩ hf hroom (w' := _) (by simp only [ea]; exact hst)
    refine ⟨_, h', _, ?_, ⟨rfl, rfl⟩, st.upd (k := hu)⟩
    simp only [execOp, resolve, invoke, builtin]
    simp [k' _ _ hx, k' _ _ hy, hrun]
/-- a cut 'x[i:j:k]' -/
theorem S0.slice3 {SL : List Blk} {a : Option Addr} {n c i j m by_ k : Nat} {zv : Value} {y1 y2 y3 : Operand} [kk : Und P T (.slice E)] [ki : Inf P E k by_ zv] (hx : ev f x = some (.slice a n c))
    (hlo : ev f y1 = some (.int .i64 (i : Int))) (hhi : ev f y2 = some (.int .i64 (j : Int))) (hmx : ev f y3 = some (.int .i64 (m : Int))) (h1 : i ≤ j) (h2 : j ≤ m) (h3 : m ≤ c) :
    S0 P f SL ⟨d, .slice T x (some y1) (some y2) (some y3), ty, p, af, gd⟩ (.slice (if m = i then a else a.map (·.add (i * k))) (j - i) (m - i)) :=
  S0.pure (by intro c; simp) (by intro c; simp) fun ρ w k' => by
    have e1 : ∀ (bd : BoundsCode) (q t : Nat), q ≤ t → (Instr.sliceBound (.int .i64 (q : Int)) t bd).run P w = .ok q w := fun bd q t hq => by
      simp only [Instr.sliceBound, asIntOf, Sem.run_bind, Sem.run_pure, Result.andThen_ok]
      rw [if_pos ⟨by omega, by omega⟩]; simp
    have eb : (Instr.sliceBounds true n c (some (.int .i64 (i : Int))) (some (.int .i64 (j : Int))) (some (.int .i64 (m : Int)))).run P w = .ok (i, j, m) w := by
      simp [Instr.sliceBounds, e1 _ m c h3, e1 _ j m h2, e1 _ i j h1]
    simp only [execOp, k' _ _ hx, Instr.sliceAt, Sem.run_bind, run_underlying kk.eq, Result.andThen_ok, Instr.slice, Option.map_some, k' _ _ hlo, k' _ _ hhi, k' _ _ hmx, eb, run_sizeOf (k := ki), Sem.run_pure]
/-- slices.overlaps of two rows -/
theorem S1.overlapsApart {g : Nat} {fn : Func} {args : Array Operand} {argT : Array TypeId} {b b2 o o2 la ca lb cb k by_ : Nat} {l l2 : List Value} {z : Value} {hr : Hp} {tS tR : TypeId} [ku : Und P tS (.slice E)] [ki : Inf P E k by_ z] (hf : P.funcs[g]? = some fn) (hname : (fn.name == "runtime.NumGoroutine") = false)
    (hb : fn.body.isNone = true) (hn : Extern.findNext fn = none) (he : Extern.find fn = some (Extern.SlicesOverlaps.overlaps #[tS, tS] #[tR])) (ha : evs f args.toList = some [.slice (some ⟨b, o, none⟩) la ca, .slice (some ⟨b2, o2, none⟩) lb cb])
    (hp : h.flatten.Perm ((b, .cells ⟨l⟩ U (0, 0)) :: (b2, .cells ⟨l2⟩ U2 (0, 0)) :: hr.flatten)) (hl2 : l2 ≠ []) : S1 P r ⟨d, .call ⟨.value (.func g), args, argT⟩, ty, p, af, gd⟩ f h (is (.bool false) h) :=
  S1.extern hf hname hb hn he ha fun E' R w st => by
    have st2 := st.perm (hp.append_right R)
    have hc1 : w.heap[b]? = some (.cells ⟨l⟩ U (0, 0)) := st2.cell (b, _) (by simp)
    have hc2 : w.heap[b2]? = some (.cells ⟨l2⟩ U2 (0, 0)) := st2.cell (b2, _) (by simp)
    have hne : b ≠ b2 := by
      have := st2.nodup
      simp only [List.cons_append, List.map_cons, List.nodup_cons, List.mem_cons, not_or] at this
      exact this.1.1
    refine ⟨_, h, w, Lib.run_overlaps_apart (P := P) w tS tR E ku.eq k (run_sizeOf (k := ki)) ⟨b, o, none⟩ ⟨b2, o2, none⟩ la ca lb cb hne U U2 l.length l2.length ?_ ?_ ?_ ?_ ?_, ⟨rfl, rfl⟩, st⟩
    · simp [World.shape?, hc1]
    · simp [World.shape?, hc2]
    · intro e; exact hl2 (List.length_eq_zero_iff.1 e)
    · simp [World.frozen?, hc1]
    · simp [World.frozen?, hc1]
/-- 'x[:j]' -/
theorem S0.sliceTo {SL : List Blk} {b o n c j k by_ : Nat} {zv : Value} [kk : Und P T (.slice E)] [ki : Inf P E k by_ zv] (hx : ev f x = some (.slice (some ⟨b, o, none⟩) n c)) (hy : ev f y = some (.int .i64 (j : Int))) (hj : j ≤ c) :
    S0 P f SL ⟨d, .slice T x none (some y) none, ty, p, af, gd⟩ (.slice (some ⟨b, o, none⟩) j c) := by
  have h := S0.slice (P := P) (SL := SL) (d := d) (ty := ty) (p := p) (af := af) (gd := gd) (lo := none) (hi := some y) (i := 0) (j := j) (kk := kk) (ki := ki) hx rfl hy ⟨Nat.zero_le _, hj⟩
  have e : (if c = 0 then o else o + 0 * k) = o := by split <;> simp
  rw [e, Nat.sub_zero, Nat.sub_zero] at h
  exact h
/-- 'x[i:]' -/
theorem S0.sliceFr {SL : List Blk} {b o n c i by_ : Nat} {zv : Value} [kk : Und P T (.slice E)] [ki : Inf P E 1 by_ zv] (hx : ev f x = some (.slice (some ⟨b, o, none⟩) n c)) (hy : ev f y = some (.int .i64 (i : Int))) (hi : i ≤ n) (hn : n ≤ c) (hc : i < c) :
    S0 P f SL ⟨d, .slice T x (some y) none none, ty, p, af, gd⟩ (.slice (some ⟨b, o + i, none⟩) (n - i) (c - i)) := by
  have h := S0.slice (P := P) (SL := SL) (d := d) (ty := ty) (p := p) (af := af) (gd := gd) (lo := some y) (hi := none) (i := i) (j := n) (kk := kk) (ki := ki) hx hy rfl ⟨hi, hn⟩
  have e : (if c = i then o else o + i * 1) = o + i := by rw [if_neg (by omega), Nat.mul_one]
  rw [e] at h
  exact h
end
end Go.Proofs.YtanecnnfpdhadaaGreatDoor
/- InsS -/
namespace Go.Proofs.YtanecnnfpdhadaaGreatDoor
open Go

theorem ins_cells2 {A B Z : List Value} {x : Value} (h : Z.take A.length = A) (hl : A.length + 1 + B.length ≤ Z.length) :
    (Z.take A.length ++ [x] ++ Z.drop (A.length + 1)).take (A.length + 1) ++ B ++ (Z.take A.length ++ [x] ++ Z.drop (A.length + 1)).drop (A.length + 1 + B.length) = (A ++ x :: B) ++ Z.drop (A.length + 1 + B.length) := by
  rw [h]
  have e1 : (A ++ [x] ++ Z.drop (A.length + 1)).take (A.length + 1) = A ++ [x] := List.take_left' (by simp)
  have e2 : (A ++ [x] ++ Z.drop (A.length + 1)).drop (A.length + 1 + B.length) = Z.drop (A.length + 1 + B.length) := by
    rw [← List.drop_drop, List.drop_left' (by simp), List.drop_drop]
  rw [e1, e2]; simp
theorem ins_cells3 {A B sp : List Value} {x : Value} (hs : 1 ≤ sp.length) {l1 : List Value} (h1 : (A ++ B ++ sp).take (A.length + 1) ++ B ++ (A ++ B ++ sp).drop (A.length + 1 + B.length) = l1) :
    l1.take A.length ++ [x] ++ l1.drop (A.length + 1) = (A ++ x :: B) ++ sp.drop 1 := by
  have e1 : (A ++ B ++ sp).drop (A.length + 1 + B.length) = sp.drop 1 := by
    rw [show A.length + 1 + B.length = (A ++ B).length + 1 by simp; omega, List.drop_append]; simp
  have e2 : ∃ y, (A ++ B ++ sp).take (A.length + 1) = A ++ [y] := by
    rw [List.append_assoc, List.take_append, List.take_of_length_le (by omega), Nat.add_sub_cancel_left]
    cases hBs : B ++ sp with
    | nil => rw [(List.append_eq_nil_iff.1 hBs).2] at hs; simp at hs
    | cons y t => exact ⟨y, rfl⟩
  obtain ⟨y, e2⟩ := e2
  rw [e1, e2] at h1
  subst h1
  have e3 : (A ++ [y] ++ B ++ sp.drop 1).take A.length = A := by rw [List.append_assoc, List.append_assoc, List.take_left]
  have e4 : (A ++ [y] ++ B ++ sp.drop 1).drop (A.length + 1) = B ++ sp.drop 1 := by rw [List.append_assoc, List.drop_left' (by simp)]
  rw [e3, e4]; simp
theorem del_cells {A B sp : List Value} {x z : Value} : ((A ++ x :: B ++ sp).take A.length ++ B ++ (A ++ x :: B ++ sp).drop (A.length + B.length)).take (A.length + B.length) ++ [z] ++ ((A ++ x :: B ++ sp).take A.length ++ B ++ (A ++ x :: B ++ sp).drop (A.length + B.length)).drop (A.length + B.length + 1) = (A ++ B) ++ (z :: sp) := by
  have e1 : (A ++ x :: B ++ sp).take A.length = A := by rw [List.append_assoc, List.take_left]
  rw [e1, List.take_left' (by simp)]
  have e2 : (A ++ B ++ (A ++ x :: B ++ sp).drop (A.length + B.length)).drop (A.length + B.length + 1) = sp := by
    rw [← List.drop_drop, List.drop_left' (by simp), List.drop_drop, List.drop_left' (by simp; omega)]
  rw [e2]; simp
theorem strs_app (G H : List Str) : strs (G ++ H) = strs G ++ strs H := by simp [strs]
/-- one more in a row -/
theorem insert_spec {v : Value} {G H : List Str} {row : List Blk} {f : Str} {rb : Nat} (hs : IsSl 9 1 v (strs (G ++ H)) row) (hl : (G ++ H).length ≤ 1000) :
    FN Tryz.prog 41 [v, .int .i64 (G.length : Int), .slice (some ⟨rb, 0, none⟩) 1 1] [row, [(rb, cel [sv f] 9)]]
      (fun u h => ∃ row2, IsSl 9 1 u (strs (G ++ f :: H)) row2 ∧ h = [row2]) := by
  have hs0 := hs
  have hn : (G ++ H).length = G.length + H.length := List.length_append
  have hGl := strs_len G
  have hHl := strs_len H
  obtain ⟨a, cap, rfl, hcap, hrow⟩ := hs.strsE
  clear hs
  rw [hn] at hl hcap hs0
  rw [hn]
  refine FN.intro 95 [(0, .slice a (G.length + H.length) cap), (1, .int .i64 (G.length : Int)), (2, .slice (some ⟨rb, 0, none⟩) 1 1)] Tryz.func41 rfl (enters Tryz.func41 (by kernel_rfl) rfl) Tryz.ntmps41 rfl rfl ?_
  refine WP.seq <| WP.region <| v0 (S0.assign rfl) rfl <| vE <| WP.seq <| WP.region <| v0 (S0.move rfl) rfl <| v0 (S0.move rfl) rfl <| ?_  -- op t12 := slice 51 t10 t11 none none
  refine v0 (S0.sliceG (i := G.length) (j := G.length + H.length) rfl rfl rfl ⟨by omega, hcap⟩) rfl <| ?_
  refine vE <| WP.seq <| WP.region <| v0 (S0.move rfl) rfl <| v0 (S0.lenSl rfl) rfl <| v0 (S0.assign rfl) rfl <| vE <| WP.seq <| WP.seq <| WP.region <| v0 (S0.move rfl) rfl <| v0 (S0.cmp rfl rfl rfl) rfl <| vE <| ?_  -- cond
  refine WP.condFh rfl (rfl) ?_
  refine WP.skip <| WP.seq <| WP.region <| v0 (S0.move rfl) rfl <| v0 (S0.lenSl rfl) rfl <| v0 (S0.assign rfl) rfl <| vE <| WP.seq <| WP.seq <| WP.region <| v0 (S0.move rfl) rfl <| v0 (S0.move rfl) rfl <| v0 (S0.cmp rfl rfl rfl) rfl <| vE <| ?_  -- cond
  first | refine WP.condP rfl (fun h1 => ?_) (fun h1 => ?_) | refine WP.condN rfl (fun h1 => ?_) (fun h1 => ?_) | refine WP.cond rfl (fun h1 => ?_) (fun h1 => ?_)
  · skip
    have hH : H = [] := List.length_eq_zero_iff.1 (by omega)
    subst hH
    refine WP.seq <| WP.region <| v0 (S0.move rfl) rfl <| v0 (S0.move rfl) rfl <| ?_  -- op t25 := append(t23, t24) :[51, 51]
    refine ve (S1.appendL rfl hs0 rfl rfl at0 rfl rfl (by rw [strs_len]; simp at hl ⊢; omega)) rfl ?_
    rintro v2 _ ⟨row2, hsl2, rfl⟩
    refine v0 (S0.assign rfl) rfl <| vE <| WP.ret <| ?_  -- ret
    refine Leaves.drop (take1 at0 take0) ?_
    refine r1 rfl rfl ?_
    refine ⟨row2, ?_, rfl⟩
    simpa [strs] using hsl2
  · skip
    have hHpos : 0 < H.length := by omega
    have hne : G ++ H ≠ [] := by
      intro e
      have := congrArg List.length e
      simp at this
      rw [this.2] at hHpos; simp at hHpos
    rcases hrow with ⟨e, -⟩ | ⟨b, sp, rfl, rfl, hsp⟩
    · exact absurd e hne
    rw [List.length_append, strs_len, hn] at hsp
    refine WP.skip <| WP.seq <| WP.seq <| WP.region <| v0 (S0.move rfl) rfl <| v0 (S0.move rfl) rfl <| v0 (S0.ari rfl rfl rfl (wrap_i64 (by omega))) rfl <| v0 (S0.move rfl) rfl <| v0 (S0.capSl rfl) rfl <| v0 (S0.cmp rfl rfl rfl) rfl <| vE <| ?_  -- cond
    first | refine WP.condP rfl (fun h2 => ?_) (fun h2 => ?_) | refine WP.condN rfl (fun h2 => ?_) (fun h2 => ?_) | refine WP.cond rfl (fun h2 => ?_) (fun h2 => ?_)
    · skip
      refine WP.seq <| WP.region <| v0 (S0.move rfl) rfl <| v0 (S0.move rfl) rfl <| ?_  -- op t34 := slice 51 t32 none t33 none
      refine v0 (S0.sliceTo (j := G.length) rfl rfl (by omega)) rfl <| ?_
      refine v0 (S0.move rfl) rfl <| v0 (S0.move rfl) rfl <| v0 (S0.ari rfl rfl rfl (wrap_i64 (by omega))) rfl <| v0 (S0.move rfl) rfl <| v0 (S0.ari rfl rfl rfl (wrap_i64 (by omega))) rfl <| ?_  -- op t40 := append(t34, t39) :[51, 3]
      refine ve (S1.growOn (k := H.length + 1) rfl (congrArg (fun z => some (Value.int .i64 z)) (show _ = ((H.length + 1 : Nat) : Int) by omega)) (by omega) (by omega) (by rw [List.length_append, strs_len, hn]; omega) (by omega) rfl) rfl ?_
      rintro _ _ ⟨b', nc, sp', hnc, hlen', rfl, rfl⟩
      have hZ : ((strs (G ++ H) ++ sp).drop 0).take G.length = strs G := by rw [List.drop_zero, strs_app, List.append_assoc, ← hGl, List.take_left]
      rw [hZ] at hlen' ⊢
      have hZl : (strs G ++ sp').length = nc := hlen'
      have hZt : (strs G ++ sp').take (strs G).length = strs G := List.take_left
      generalize strs G ++ sp' = Z at hZl hZt ⊢
      refine v0 (S0.assign rfl) rfl <| vE <| WP.seq <| WP.region <| v0 (S0.move rfl) rfl <| v0 (S0.move rfl) rfl <| ?_  -- op t43 := slice 51 t41 t42 none none
      refine v0 (S0.sliceFr (i := G.length) rfl rfl (by omega) (by omega) (by omega)) rfl <| ?_
      refine v0 (S0.move rfl) rfl <| ?_  -- op t45 := copy(t43, t44) :[51, 51]
      refine v1 (S1.copyR (l' := Z.take (strs G).length ++ [sv f] ++ Z.drop ((strs G).length + 1)) rfl rfl (show ([sv f].drop 0).take (min 1 (G.length + (H.length + 1) - G.length)) = [sv f] by rw [Nat.min_eq_left (by omega)]; rfl) (by rw [Nat.min_eq_left (by omega)]; rfl) (by simp; omega) (by simp) rfl (by rw [hGl]; simp)) rfl <| ?_
      skip
      refine vE <| WP.seq <| WP.drawP [(0, none), (1, none), (2, none), (3, none), (4, none), (5, none), (6, none), (7, none), (8, none)] mixed (by kernel_rfl) (by kernel_rfl) (by kernel_rfl) take0 <| w0 rfl rfl rfl (S0.move rfl) rfl <| w0 rfl rfl rfl (S0.move rfl) rfl <| w0 rfl rfl rfl (S0.move rfl) rfl <| w0 rfl rfl rfl (S0.ari rfl rfl rfl (wrap_i64 (by omega))) rfl <| ?_  -- op t50 := slice 51 t46 t49 none none
      rw [show (G.length : Int) + ((1 : Nat) : Int) = ((G.length + 1 : Nat) : Int) by omega]
      refine w0 rfl rfl rfl (S0.sliceFr (i := G.length + 1) rfl rfl (by omega) (by omega) (by omega)) rfl <| ?_
      refine w0 rfl rfl rfl (S0.move rfl) rfl <| w0 rfl rfl rfl (S0.move rfl) rfl <| ?_  -- op t53 := slice 51 t51 t52 none none
      refine w0 rfl rfl rfl (S0.sliceFr (i := G.length) rfl rfl (by omega) (by omega) (by omega)) rfl <| ?_
      -- (nothing to walk: op t54 := copy(t50, t53) :[51, 51])
      have hf1 : 0 + (G.length + 1) + (strs H).length ≤ (Z.take (strs G).length ++ [sv f] ++ Z.drop ((strs G).length + 1)).length := by rw [hHl]; simp <;> omega
      have hf2 : 0 + G.length + (strs H).length ≤ (strs (G ++ H) ++ sp).length := by rw [hHl]; simp <;> omega
      refine w1 rfl rfl rfl rfl (S1.copyR (l' := (strs G ++ sv f :: strs H) ++ Z.drop ((strs G).length + 1 + (strs H).length)) rfl rfl (show ((strs (G ++ H) ++ sp).drop (0 + G.length)).take (min (G.length + H.length - G.length) (G.length + (H.length + 1) - (G.length + 1))) = strs H by
        rw [Nat.zero_add, strs_app, List.append_assoc, List.drop_left' hGl, Nat.add_sub_cancel_left, Nat.min_eq_left (by omega), List.take_left' hHl]) (by rw [hHl]; omega) hf1 hf2 (by simp [strs]; intro y _; rfl) (by
        rw [← ins_cells2 hZt (by rw [hGl, hHl]; omega), hGl, hHl]; simp only [Nat.zero_add])) rfl <| ?_
      refine wE <| WP.seq <| WP.region <| v0 (S0.move rfl) rfl <| v0 (S0.assign rfl) rfl <| vE <| WP.ret <| ?_  -- ret
      refine Leaves.drop (take1 at0 take0) ?_
      refine r1 rfl rfl ?_
      refine ⟨_, ?_, rfl⟩
      have e : strs (G ++ f :: H) = strs G ++ sv f :: strs H := by simp [strs]
      rw [e]
      refine IsSl.row (by simp [strs] <;> omega) ?_ (by omega)
      simp [strs]; omega
    · skip
      have hspl : 1 ≤ sp.length := by omega
      refine WP.skip <| WP.seq <| WP.region <| v0 (S0.move rfl) rfl <| v0 (S0.move rfl) rfl <| v0 (S0.move rfl) rfl <| v0 (S0.ari rfl rfl rfl (wrap_i64 (by omega))) rfl <| ?_  -- op t60 := slice 51 t56 none t59 none
      rw [show (G.length + H.length : Nat) + ((1 : Nat) : Int) = ((G.length + H.length + 1 : Nat) : Int) by omega]
      refine v0 (S0.sliceTo (j := G.length + H.length + 1) rfl rfl (by omega)) rfl <| ?_
      refine v0 (S0.assign rfl) rfl <| vE <| WP.seq <| WP.seq <| WP.region <| v0 (S0.move rfl) rfl <| v0 (S0.move rfl) rfl <| v0 (S0.move rfl) rfl <| v0 (S0.move rfl) rfl <| v0 (S0.ari rfl rfl rfl (wrap_i64 (by omega))) rfl <| ?_  -- op t66 := slice 51 t62 t65 none none
      rw [show (G.length : Int) + ((1 : Nat) : Int) = ((G.length + 1 : Nat) : Int) by omega]
      refine v0 (S0.sliceFr (i := G.length + 1) rfl rfl (by omega) (by omega) (by omega)) rfl <| ?_
      -- (nothing to walk: op t67 := call F72{slices.overlaps[string]}(t61, t66))
      refine v1 (S1.overlapsApart (tS := 51) (tR := 4) (E := 9) (U := 9) (U2 := 9) (l := [sv f]) (l2 := strs (G ++ H) ++ sp) (hr := []) Tryz.func72 (by kernel_rfl) (by kernel_rfl) (by kernel_rfl) (by kernel_rfl) rfl (pm fun a_ => by (try simp only [List.flatten_append, List.flatten_cons, List.flatten_nil, List.append_nil, List.cons_append, List.nil_append, List.append_assoc, nOf_app, nOf_cons, nOf_nil, Nat.add_zero, Nat.zero_add, List.map_append, List.map_cons, List.map_nil, cel, sv]); omega) (by intro e; rw [List.append_eq_nil_iff] at e; exact hne (by simpa [strs] using e.1))) rfl <| ?_
      refine v0 (S0.not rfl) rfl <| vE <| ?_  -- cond
      refine WP.condTh rfl (rfl) ?_
      skip
      refine WP.seq <| WP.drawP [(0, none), (1, none), (2, none), (3, none), (4, none), (5, none), (6, none), (7, none), (8, none)] mixed (by kernel_rfl) (by kernel_rfl) (by kernel_rfl) take0 <| w0 rfl rfl rfl (S0.move rfl) rfl <| w0 rfl rfl rfl (S0.move rfl) rfl <| w0 rfl rfl rfl (S0.move rfl) rfl <| w0 rfl rfl rfl (S0.ari rfl rfl rfl (wrap_i64 (by omega))) rfl <| ?_  -- op t73 := slice 51 t69 t72 none none
      rw [show (G.length : Int) + ((1 : Nat) : Int) = ((G.length + 1 : Nat) : Int) by omega]
      refine w0 rfl rfl rfl (S0.sliceFr (i := G.length + 1) rfl rfl (by omega) (by omega) (by omega)) rfl <| ?_
      refine w0 rfl rfl rfl (S0.move rfl) rfl <| w0 rfl rfl rfl (S0.move rfl) rfl <| ?_  -- op t76 := slice 51 t74 t75 none none
      refine w0 rfl rfl rfl (S0.sliceFr (i := G.length) rfl rfl (by omega) (by omega) (by omega)) rfl <| ?_
      -- (nothing to walk: op t77 := copy(t73, t76) :[51, 51])
      refine w1 rfl rfl rfl rfl (S1.copyR (l' := (strs G ++ strs H ++ sp).take ((strs G).length + 1) ++ strs H ++ (strs G ++ strs H ++ sp).drop ((strs G).length + 1 + (strs H).length)) rfl rfl (show ((strs (G ++ H) ++ sp).drop (0 + G.length)).take (min (G.length + H.length + 1 - G.length) (G.length + H.length + 1 - (G.length + 1))) = strs H by
        rw [Nat.zero_add, strs_app, List.append_assoc, List.drop_left' hGl, Nat.min_eq_right (by omega), List.take_left' (by rw [hHl]; omega)]) (by rw [hHl]; omega) (by rw [hHl]; first | omega | (simp; done) | (simp; omega)) (by rw [hHl]; first | omega | (simp; done) | (simp; omega)) (by simp [strs]; intro y _; rfl) (by
        rw [strs_app, hGl, hHl, Nat.zero_add])) rfl <| ?_
      have hc3 := ins_cells3 (A := strs G) (B := strs H) (x := sv f) hspl rfl
      generalize hl1 : (strs G ++ strs H ++ sp).take ((strs G).length + 1) ++ strs H ++ (strs G ++ strs H ++ sp).drop ((strs G).length + 1 + (strs H).length) = l1 at hc3 ⊢
      have hl1l : l1.length = cap := by rw [← hl1]; simp; omega
      refine wE <| WP.seq <| WP.region <| v0 (S0.move rfl) rfl <| v0 (S0.move rfl) rfl <| ?_  -- op t80 := slice 51 t78 t79 none none
      refine v0 (S0.sliceFr (i := G.length) rfl rfl (by omega) (by omega) (by omega)) rfl <| ?_
      refine v0 (S0.move rfl) rfl <| ?_  -- op t82 := copy(t80, t81) :[51, 51]
      refine v1 (S1.copyR (l' := (strs G ++ sv f :: strs H) ++ sp.drop 1) rfl rfl (show ([sv f].drop 0).take (min 1 (G.length + H.length + 1 - G.length)) = [sv f] by rw [Nat.min_eq_left (by omega)]; rfl) (by rw [Nat.min_eq_left (by omega)]; rfl) (by simp; omega) (by simp) rfl (by rw [← hc3, hGl]; simp)) rfl <| ?_
      refine vE <| WP.seq <| WP.region <| v0 (S0.move rfl) rfl <| v0 (S0.assign rfl) rfl <| vE <| WP.ret <| ?_  -- ret
      refine Leaves.drop (take1 at0 take0) ?_
      refine r1 rfl rfl ?_
      refine ⟨_, ?_, rfl⟩
      have e : strs (G ++ f :: H) = strs G ++ sv f :: strs H := by simp [strs]
      rw [e]
      refine IsSl.row (by simp [strs] <;> omega) ?_ (by omega)
      simp [strs]; omega
theorem zeros_str1 : (Builtin.zeroCells (Value.string ByteArray.empty).cells 1).toList = [sv []] := by
  apply List.ext_getElem
  · simp [Builtin.zeroCells, Value.cells]
  · intro i h1 h2
    simp [Builtin.zeroCells, Value.cells] at h1 ⊢
    rfl
/-- one less in a row -/
theorem delete_spec {v : Value} {G H : List Str} {x : Str} {row : List Blk} (hs : IsSl 9 1 v (strs (G ++ x :: H)) row) (hl : (G ++ x :: H).length ≤ 1000) :
    FN Tryz.prog 43 [v, .int .i64 (G.length : Int), .int .i64 ((G.length + 1 : Nat) : Int)] [row]
      (fun u h => ∃ row2, IsSl 9 1 u (strs (G ++ H)) row2 ∧ h = [row2]) := by
  have hn : (G ++ x :: H).length = G.length + 1 + H.length := by simp; omega
  have hGl := strs_len G
  have hHl := strs_len H
  obtain ⟨a, cap, rfl, hcap, hrow⟩ := hs.strsE
  rcases hrow with ⟨e, -⟩ | ⟨b, sp, rfl, rfl, hsp⟩
  · simp at e
  clear hs
  have hc0 : strs (G ++ x :: H) = strs G ++ sv x :: strs H := by simp [strs]
  rw [List.length_append, strs_len, hn] at hsp
  rw [hn] at hl hcap
  rw [hn, hc0]
  refine FN.intro 33 [(0, .slice (some ⟨b, 0, none⟩) (G.length + 1 + H.length) cap), (1, .int .i64 (G.length : Int)), (2, .int .i64 ((G.length + 1 : Nat) : Int))] Tryz.func43 rfl (enters Tryz.func43 (by kernel_rfl) rfl) Tryz.ntmps43 rfl rfl ?_
  refine WP.seq <| WP.region <| v0 (S0.assign rfl) rfl <| vE <| WP.seq <| WP.region <| v0 (S0.move rfl) rfl <| v0 (S0.move rfl) rfl <| v0 (S0.move rfl) rfl <| v0 (S0.move rfl) rfl <| v0 (S0.lenSl rfl) rfl <| ?_  -- op t13 := slice 51 t8 t9 t10 t12
  refine v0 (S0.slice3 (i := G.length) (j := G.length + 1) (m := G.length + 1 + H.length) rfl rfl rfl rfl (by omega) (by omega) (by omega)) rfl <| ?_
  refine vE <| WP.seq <| WP.seq <| WP.region <| v0 (S0.move rfl) rfl <| v0 (S0.move rfl) rfl <| v0 (S0.cmp rfl rfl rfl) rfl <| vE <| ?_  -- cond
  refine WP.condFh rfl ((by simp; omega)) ?_
  skip
  refine WP.skip <| WP.seq <| WP.region <| v0 (S0.move rfl) rfl <| v0 (S0.lenSl rfl) rfl <| v0 (S0.assign rfl) rfl <| vE <| WP.seq <| WP.drawP [(0, none), (1, none), (2, none), (3, none), (4, none), (5, none), (6, none), (7, none)] mixed (by kernel_rfl) (by kernel_rfl) (by kernel_rfl) take0 <| w0 rfl rfl rfl (S0.move rfl) rfl <| w0 rfl rfl rfl (S0.move rfl) rfl <| ?_  -- op t22 := slice 51 t20 none t21 none
  refine w0 rfl rfl rfl (S0.sliceTo (j := G.length) rfl rfl (by omega)) rfl <| ?_
  refine w0 rfl rfl rfl (S0.move rfl) rfl <| w0 rfl rfl rfl (S0.move rfl) rfl <| ?_  -- op t25 := slice 51 t23 t24 none none
  refine w0 rfl rfl rfl (S0.slice (i := G.length + 1) (j := G.length + 1 + H.length) rfl rfl rfl ⟨by omega, by omega⟩) rfl <| ?_
  obtain ⟨o2, ho, h1, h2⟩ : ∃ o2, (if cap = G.length + 1 then 0 else 0 + (G.length + 1) * 1) = o2 ∧ o2 + (G.length + 1 + H.length - (G.length + 1)) ≤ (strs G ++ sv x :: strs H ++ sp).length ∧ ((strs G ++ sv x :: strs H ++ sp).drop o2).take (G.length + 1 + H.length - (G.length + 1)) = strs H := by
    by_cases hc : cap = G.length + 1
    · have : H = [] := List.length_eq_zero_iff.1 (by omega)
      subst this
      exact ⟨0, if_pos hc, by simp, by simp [strs]⟩
    · refine ⟨G.length + 1, by rw [if_neg hc]; omega, by simp [strs]; omega, ?_⟩
      rw [show strs G ++ sv x :: strs H ++ sp = (strs G ++ [sv x]) ++ (strs H ++ sp) by simp, List.drop_left' (by simp [strs]), Nat.add_sub_cancel_left, List.take_left' hHl]
  rw [ho]
  -- (nothing to walk: op t26 := append(t22, t25) :[51, 51])
  refine w1 rfl rfl rfl rfl (S1.appendIn (l' := (strs G ++ sv x :: strs H ++ sp).take (strs G).length ++ strs H ++ (strs G ++ sv x :: strs H ++ sp).drop ((strs G).length + (strs H).length)) rfl rfl h2 h1 (by omega) (by simp [strs]; omega) (by simp [strs]; intro y _; rfl) (by rw [hGl, hHl, Nat.add_sub_cancel_left])) rfl <| ?_
  rw [Nat.add_sub_cancel_left]
  have hdc := del_cells (A := strs G) (B := strs H) (sp := sp) (x := sv x) (z := sv [])
  generalize hl1 : (strs G ++ sv x :: strs H ++ sp).take (strs G).length ++ strs H ++ (strs G ++ sv x :: strs H ++ sp).drop ((strs G).length + (strs H).length) = l1 at hdc ⊢
  have hl1l : l1.length = cap := by rw [← hl1]; simp; omega
  refine w0 rfl rfl rfl (S0.assign rfl) rfl <| wE <| WP.seq <| WP.region <| v0 (S0.move rfl) rfl <| v0 (S0.move rfl) rfl <| v0 (S0.lenSl rfl) rfl <| v0 (S0.move rfl) rfl <| ?_  -- op t31 := slice 51 t27 t29 t30 none
  refine v0 (S0.slice (i := G.length + H.length) (j := G.length + 1 + H.length) rfl rfl rfl ⟨by omega, by omega⟩) rfl <| ?_
  rw [if_neg (show ¬ cap = G.length + H.length by omega), show G.length + 1 + H.length - (G.length + H.length) = 1 by omega]
  -- (nothing to walk: op clear(t31) :[51])
  refine vs (S1.clearSl (k := 1) (zv := .string ByteArray.empty) rfl (by omega) (by omega) rfl (by rw [zeros_str1]; intro v hv; simp at hv; rw [hv]; rfl)) <| ?_
  rw [zeros_str1, Nat.zero_add, Nat.mul_one, Nat.mul_one, ← hGl, ← hHl, hdc, hGl, hHl]
  refine vE <| WP.seq <| WP.region <| v0 (S0.move rfl) rfl <| v0 (S0.assign rfl) rfl <| vE <| WP.ret <| ?_  -- ret
  refine r1 rfl rfl ?_
  refine ⟨_, ?_, rfl⟩
  rw [strs_app]
  refine IsSl.row (by simp [strs]) ?_ (by omega)
  simp [strs]; omega
end Go.Proofs.YtanecnnfpdhadaaGreatDoor
/- D4 -/
namespace Go.Proofs.YtanecnnfpdhadaaGreatDoor
open Go

theorem at_mem {F : List Str} (hF : SortedS F) {f : Str} {k : Nat} (hlo : ∀ j y, j < k → F[j]? = some y → lessS y f = true) (hhi : ∀ j y, k ≤ j → F[j]? = some y → lessS y f = false) : F[k]? = some f ↔ f ∈ F := by
  constructor
  · exact fun h => List.mem_of_getElem? h
  · intro h
    obtain ⟨j, hj, e⟩ := List.getElem_of_mem h
    have hjf : F[j]? = some f := by rw [List.getElem?_eq_getElem hj, e]
    rcases Nat.lt_trichotomy j k with h1 | h1 | h1
    · have := hlo j f h1 hjf
      rw [lessS_irr] at this; cases this
    · rw [← h1]; exact hjf
    · have hk : F[k]? = some F[k] := by simp
      have h2 := sorted_lt hF h1 hk hjf
      rw [hhi k _ (Nat.le_refl _) hk] at h2; cases h2
theorem filter_at {G H : List Str} {f : Str} (hn : (G ++ f :: H).Nodup) : (G ++ f :: H).filter (fun x => !decide (x = f)) = G ++ H := by
  have h1 := List.nodup_append.1 hn
  have h2 := List.nodup_cons.1 h1.2.1
  rw [List.filter_append, List.filter_cons_of_neg (by simp)]
  have e1 : G.filter (fun x => !decide (x = f)) = G := List.filter_eq_self.2 fun x hx => by
    have := h1.2.2 x hx f (by simp)
    simp [this]
  have e2 : H.filter (fun x => !decide (x = f)) = H := List.filter_eq_self.2 fun x hx => by
    have : x ≠ f := fun e => h2.1 (by rw [← e]; exact hx)
    simp [this]
  rw [e1, e2]
theorem ask_spec {db : Nat} {S : DS} {c : List Blk} (h : IsDev db S c) (ho : DevOk S) (i : Int) {f : Str} (hfl : f.length ≤ 1000000) (on : Bool) :
    FN Tryz.prog 15 [.pointer (some ⟨db, 0, none⟩), .int .i64 i, sv f, .bool on] [c] (fun u h => ∃ c', IsDev db (askD S i f on).2 c' ∧ u = .int .i64 (askD S i f on).1 ∧ h = [c']) := by
  have hd := h
  obtain ⟨D, m, cm, hw, hm, rfl⟩ := h
  refine FN.intro 78 [(0, .pointer (some ⟨db, 0, none⟩)), (1, .int .i64 i), (2, sv f), (3, .bool on)] Tryz.func15 rfl (enters Tryz.func15 (by kernel_rfl) rfl) Tryz.ntmps15 rfl rfl ?_
  refine WP.seq <| WP.region <| v0 (S0.assign rfl) rfl <| vE <| WP.seq <| WP.region <| v0 (S0.move rfl) rfl <| v0 (S0.nilCheck rfl) rfl <| v0 (S0.fieldAddr rfl) rfl <| v0 (S0.load rfl rfl) rfl <| v0 (S0.move rfl) rfl <| ?_  -- op t17 := lookup 66 t15 t16 false
  skip
  cases hf : findD S i with
  | none =>
    skip
    refine v0 (S0.lookupZ (ek := Value.int .i64) (k := i) rfl rfl (by rw [dml_get, hm.none.2 hf]; rfl)) rfl <| ?_
    refine v0 (S0.assign rfl) rfl <| vE <| WP.seq <| WP.block <| WP.seq <| WP.region <| v0 (S0.move rfl) rfl <| v0 (S0.nilP rfl rfl rfl rfl) rfl <| v0 (S0.assign rfl) rfl <| vE <| ?_  -- cond
    refine WP.condTh rfl (rfl) ?_
    refine WP.seq <| WP.region <| v0 (S0.assign rfl) rfl <| vE <| WP.ret <| ?_  -- ret
    refine r1 rfl rfl ?_
    have hj : askD S i f on = (8, S) := by unfold askD; rw [hf]
    rw [hj]; exact ⟨_, hd, rfl, rfl⟩
  | some y =>
    skip
    obtain ⟨x, hR, hx⟩ := hm.some hf
    obtain ⟨hyS, hyi⟩ := find_mem hf
    have hoy := ho.all y hyS
    obtain ⟨C, hc1, -, hc3⟩ := dblks_split 72 hR
    obtain ⟨xb, xmm, xv, xrow, xA, xck⟩ := x
    obtain ⟨hsl, hwf, hms⟩ := hx
    dsimp only at hsl hwf hms
    have hsl0 := hsl
    obtain ⟨a, cap, rfl, hcap, -⟩ := hsl.strsE
    have hj : askD S i f on = ((askF y.F f on).1, setD S ⟨y.i, (askF y.F f on).2, y.M⟩) := by unfold askD; rw [hf]
    -- what stays as it was
    have same : (askF y.F f on).2 = y.F → (askD S i f on).2 = S := fun e => by
      rw [hj, e]; exact set_same ho.asc hyS
    -- the filters are others
    have other : ∀ (v2 : Value) (row2 : List Blk), IsSl 9 1 v2 (strs (askF y.F f on).2) row2 → Mat 9 (setR D i ⟨xb, xmm, v2, row2, xA, xck⟩) (askD S i f on).2 := fun v2 row2 h2 => by
      rw [hj]
      refine hm.step i (getR_set hR) (fun j => ?_) (b := some ⟨y.i, (askF y.F f on).2, y.M⟩) ⟨h2, hwf, hms⟩
      have := find_set (S := S) (y := ⟨y.i, (askF y.F f on).2, y.M⟩) (by simp only [hyi, hf]; simp) j
      rw [this]; simp only [hyi]
    refine WO.perm (h' := [[(db, cel [.map (some m)] 68), (m, mapO (Value.int .i64) (dml D) cm)], [(xb, .cells ⟨[.slice a y.F.length cap, .map (some xmm)]⟩ 72 (0, 0))], [(xmm, mapO (Value.int .i64) xA xck)], xrow, C]) (k := []) (pm fun a_ => by have h0_ := pm_of (hc1) a_; (try simp only [List.flatten_append, List.flatten_cons, List.flatten_nil, List.append_nil, List.cons_append, List.nil_append, List.append_assoc, nOf_app, nOf_cons, nOf_nil, Nat.add_zero, Nat.zero_add, List.map_append, List.map_cons, List.map_nil, cel, sv, Rc.blks] at h0_); (try simp only [List.flatten_append, List.flatten_cons, List.flatten_nil, List.append_nil, List.cons_append, List.nil_append, List.append_assoc, nOf_app, nOf_cons, nOf_nil, Nat.add_zero, Nat.zero_add, List.map_append, List.map_cons, List.map_nil, cel, sv, Rc.blks]); first | done | omega) ?_
    have back : ∀ (hp : Hp), hp.flatten.Perm ((db, cel [.map (some m)] 68) :: (m, mapO (Value.int .i64) (dml D) cm) :: (xb, .cells ⟨[.slice a y.F.length cap, .map (some xmm)]⟩ 72 (0, 0)) :: (xmm, mapO (Value.int .i64) xA xck) :: (xrow ++ C)) → hp.flatten.Perm (([(db, cel [.map (some m)] 68) :: (m, mapO (Value.int .i64) (dml D) cm) :: dblks 72 D] : Hp).flatten ++ ([] : Hp).flatten) := fun hp h1 => h1.trans (pm fun a_ => by have h0_ := pm_of (hc1) a_; (try simp only [List.flatten_append, List.flatten_cons, List.flatten_nil, List.append_nil, List.cons_append, List.nil_append, List.append_assoc, nOf_app, nOf_cons, nOf_nil, Nat.add_zero, Nat.zero_add, List.map_append, List.map_cons, List.map_nil, cel, sv, Rc.blks] at h0_); (try simp only [List.flatten_append, List.flatten_cons, List.flatten_nil, List.append_nil, List.cons_append, List.nil_append, List.append_assoc, nOf_app, nOf_cons, nOf_nil, Nat.add_zero, Nat.zero_add, List.map_append, List.map_cons, List.map_nil, cel, sv, Rc.blks]); first | done | omega)
    refine v0 (S0.lookupS (ek := Value.int .i64) (k := i) (v := .pointer (some ⟨xb, 0, none⟩)) rfl rfl (by rw [dml_get, hR]; rfl)) rfl <| ?_
    refine v0 (S0.assign rfl) rfl <| vE <| WP.seq <| WP.block <| WP.seq <| WP.region <| v0 (S0.move rfl) rfl <| v0 (S0.nilP rfl rfl rfl rfl) rfl <| v0 (S0.assign rfl) rfl <| vE <| ?_  -- cond
    refine WP.condFh rfl (rfl) ?_
    refine WP.seq <| WP.region <| v0 (S0.move rfl) rfl <| ?_  -- op t23 := call F36{rivulet/topic.Filter}(t22)
    refine vcd (S1.callF rfl (filter_spec (by omega)) take0) rfl ?_
    refine v0 (S0.not rfl) rfl <| v0 (S0.assign rfl) rfl <| vE <| ?_  -- cond
    skip
    cases hff : filtS f with
    | false =>
      skip
      refine WP.condTh rfl (rfl) ?_
      refine WP.seq <| WP.region <| v0 (S0.assign rfl) rfl <| vE <| WP.ret <| ?_  -- ret
      refine Leaves.drop (back _ (pm fun a_ => by (try simp only [List.flatten_append, List.flatten_cons, List.flatten_nil, List.append_nil, List.cons_append, List.nil_append, List.append_assoc, nOf_app, nOf_cons, nOf_nil, Nat.add_zero, Nat.zero_add, List.map_append, List.map_cons, List.map_nil, cel, sv]); first | done | omega)) ?_
      refine r1 rfl rfl ?_
      have e : askF y.F f on = (1, y.F) := by unfold askF; rw [if_pos hff]
      rw [same (by rw [e]), hj, e]; exact ⟨_, hd, rfl, rfl⟩
    | true =>
      skip
      have hflen := filt_len hff
      have hlF := hoy.lF
      have hxF : ∀ z ∈ y.F, z.length ≤ 1000 := fun z hz => by have := filt_len (hoy.fF z hz); omega
      refine WP.condFh rfl (rfl) ?_
      refine WP.skip <| WP.seq <| WP.region <| v0 (S0.move rfl) rfl <| v0 (S0.nilCheck rfl) rfl <| v0 (S0.fieldAddr rfl) rfl <| v0 (S0.load rfl rfl) rfl <| v0 (S0.move rfl) rfl <| ?_  -- op t31 := call F37{slices.BinarySearchFunc[[]string,string,string]}(t29, t30, F38)
      refine vc (S1.callF rfl (bsearch_spec hsl0 hoy.sF (by omega) hxF (show f.length ≤ 1000 by omega)) (take1 (atS (atS (atS at0))) take0)) rfl ?_
      rintro _ _ ⟨k, hk, hlo, hhi, rfl, rfl⟩
      refine app ?_
      have hmem := at_mem hoy.sF hlo hhi
      refine v0 (S0.move rfl) rfl <| v0 (S0.extract rfl rfl) rfl <| v0 (S0.extract rfl rfl) rfl <| v0 (S0.assign rfl) rfl <| v0 (S0.assign rfl) rfl <| vE <| WP.seq <| WP.block <| WP.seq <| WP.region <| v0 (S0.move rfl) rfl <| v0 (S0.move rfl) rfl <| ?_  -- guard t48 (wants True) at t49 := move t11 [if #1=True]
      skip
      cases on with
      | true =>
        skip
        refine csTh (t := 48) rfl (rfl) ?_
        refine gT rfl <| v0 (S0.move rfl) rfl <| v0 (S0.pickT rfl rfl) rfl <| v0 (S0.assign rfl) rfl <| vE <| ?_  -- cond
        first | refine WP.condP rfl (fun h1 => ?_) (fun h1 => ?_) | refine WP.condN rfl (fun h1 => ?_) (fun h1 => ?_) | refine WP.cond rfl (fun h1 => ?_) (fun h1 => ?_)
        · skip
          refine WP.seq <| WP.region <| v0 (S0.assign rfl) rfl <| vE <| WP.ret <| ?_  -- ret
          refine Leaves.drop (back _ (pm fun a_ => by (try simp only [List.flatten_append, List.flatten_cons, List.flatten_nil, List.append_nil, List.cons_append, List.nil_append, List.append_assoc, nOf_app, nOf_cons, nOf_nil, Nat.add_zero, Nat.zero_add, List.map_append, List.map_cons, List.map_nil, cel, sv]); first | done | omega)) ?_
          refine r1 rfl rfl ?_
          have e : askF y.F f true = (9, y.F) := by unfold askF; rw [if_neg (by simp [hff]), if_pos rfl, if_pos (hmem.1 h1)]
          rw [same (by rw [e]), hj, e]; exact ⟨_, hd, rfl, rfl⟩
        · skip
          refine WP.seq <| WP.region <| v0 (S0.move rfl) rfl <| v0 (S0.move rfl) rfl <| ?_  -- guard t53 (wants True) at t54 := move t9 [if #1=True]
          refine csTh (t := 53) rfl (rfl) ?_
          refine gT rfl <| v0 (S0.move rfl) rfl <| gT rfl <| v0 (S0.nilCheck rfl) rfl <| gT rfl <| v0 (S0.fieldAddr rfl) rfl <| gT rfl <| v0 (S0.load rfl rfl) rfl <| gT rfl <| v0 (S0.lenSl rfl) rfl <| gT rfl <| v0 (S0.cmp rfl rfl rfl) rfl <| v0 (S0.pickT rfl rfl) rfl <| v0 (S0.assign rfl) rfl <| vE <| ?_  -- cond
          first | refine WP.condP rfl (fun h2 => ?_) (fun h2 => ?_) | refine WP.condN rfl (fun h2 => ?_) (fun h2 => ?_) | refine WP.cond rfl (fun h2 => ?_) (fun h2 => ?_)
          · skip
            refine WP.seq <| WP.region <| v0 (S0.assign rfl) rfl <| vE <| WP.ret <| ?_  -- ret
            refine Leaves.drop (back _ (pm fun a_ => by (try simp only [List.flatten_append, List.flatten_cons, List.flatten_nil, List.append_nil, List.cons_append, List.nil_append, List.append_assoc, nOf_app, nOf_cons, nOf_nil, Nat.add_zero, Nat.zero_add, List.map_append, List.map_cons, List.map_nil, cel, sv]); first | done | omega)) ?_
            refine r1 rfl rfl ?_
            have e : askF y.F f true = (7, y.F) := by unfold askF; rw [if_neg (by simp [hff]), if_pos rfl, if_neg (fun h => h1 (hmem.2 h)), if_pos (by omega)]
            rw [same (by rw [e]), hj, e]; exact ⟨_, hd, rfl, rfl⟩
          · skip
            have e : askF y.F f true = (0, insS y.F f) := by unfold askF; rw [if_neg (by simp [hff]), if_pos rfl, if_neg (fun h => h1 (hmem.2 h)), if_neg (by omega)]
            have ei := insS_at hk hlo (fun z hz => hhi k z (Nat.le_refl _) hz)
            rw [if_neg h1] at ei
            obtain ⟨G, H, hGH, hG, hH, hkG⟩ : ∃ G H, y.F = G ++ H ∧ y.F.take k = G ∧ y.F.drop k = H ∧ k = G.length := ⟨y.F.take k, y.F.drop k, by simp, rfl, rfl, by simp; omega⟩
            rw [hG, hH] at ei
            rw [hkG]
            refine WP.seq <| WP.region <| v0 (S0.move rfl) rfl <| v0 (S0.assign rfl) rfl <| vE <| ?_  -- cond
            refine WP.condTh rfl (rfl) ?_
            refine WP.region <| v0 (S0.move rfl) rfl <| v0 (S0.move rfl) rfl <| v0 (S0.nilCheck rfl) rfl <| v0 (S0.fieldAddr rfl) rfl <| v0 (S0.load rfl rfl) rfl <| ?_  -- op t68 := call F42{slices.Clone[[]string,string]}(t67)
            refine vc (S1.callF rfl (clone_spec hsl0 (by omega)) (take1 at0 take0)) rfl ?_
            rintro v2 _ ⟨row2, hs2, rfl⟩
            refine app ?_
            rw [hGH] at hs2
            refine v0 (S0.move rfl) rfl <| v0 (S0.move rfl) rfl <| vnv (S1.buildSlice rfl (qs := [(0, _)]) rfl rfl) rfl fun b71 => ?_  -- op t72 := call F41{slices.Insert[[]string,string]}(t68, t69, t71)
            refine vc (S1.callF rfl (insert_spec hs2 (by rw [← hGH]; omega)) (take1 (atS at0) (take1 at0 take0))) rfl ?_
            rintro v3 _ ⟨row3, hs3, rfl⟩
            refine app ?_
            rw [← ei] at hs3
            refine v0 (S0.nilCheck rfl) rfl <| v0 (S0.fieldAddr rfl) rfl <| vs (S1.store rfl rfl (by first | rfl | exact IsSl.cv (by assumption))) <| vE <| WP.seq <| WP.region <| v0 (S0.assign rfl) rfl <| vE <| WP.ret <| ?_  -- ret
            refine Leaves.drop (h' := [(db, cel [.map (some m)] 68) :: (m, mapO (Value.int .i64) (dml (setR D i ⟨xb, xmm, v3, row3, xA, xck⟩)) cm) :: dblks 72 (setR D i ⟨xb, xmm, v3, row3, xA, xck⟩)]) (k := [xrow]) ?_ ?_
            · rw [dml_set (u := ⟨xb, xmm, v3, row3, xA, xck⟩) hR rfl]
              have hc4 := hc3 ⟨xb, xmm, v3, row3, xA, xck⟩
              exact (pm fun a_ => by have h0_ := pm_of (hc4) a_; (try simp only [List.flatten_append, List.flatten_cons, List.flatten_nil, List.append_nil, List.cons_append, List.nil_append, List.append_assoc, nOf_app, nOf_cons, nOf_nil, Nat.add_zero, Nat.zero_add, List.map_append, List.map_cons, List.map_nil, cel, sv, Rc.blks] at h0_); (try simp only [List.flatten_append, List.flatten_cons, List.flatten_nil, List.append_nil, List.cons_append, List.nil_append, List.append_assoc, nOf_app, nOf_cons, nOf_nil, Nat.add_zero, Nat.zero_add, List.map_append, List.map_cons, List.map_nil, cel, sv, Rc.blks]); first | done | omega)
            refine r1 rfl rfl ?_
            have ho2 := other v3 row3 (by rw [e]; exact hs3)
            refine ⟨_, ⟨_, m, cm, by rw [dml_set (u := ⟨xb, xmm, v3, row3, xA, xck⟩) hR rfl]; exact hw, ho2, rfl⟩, by rw [hj, e], rfl⟩
      | false =>
        skip
        refine csFh (t := 48) rfl (rfl) ?_
        refine gF rfl rfl <| v0 (S0.pickF rfl rfl) rfl <| v0 (S0.assign rfl) rfl <| vE <| WP.condF rfl <| WP.seq <| WP.region <| v0 (S0.move rfl) rfl <| v0 (S0.move rfl) rfl <| ?_  -- guard t53 (wants True) at t54 := move t9 [if #1=True]
        refine csFh (t := 53) rfl (rfl) ?_
        refine gF rfl rfl <| gF rfl rfl <| gF rfl rfl <| gF rfl rfl <| gF rfl rfl <| gF rfl rfl <| v0 (S0.pickF rfl rfl) rfl <| v0 (S0.assign rfl) rfl <| vE <| WP.condF rfl <| WP.seq <| WP.region <| v0 (S0.move rfl) rfl <| v0 (S0.assign rfl) rfl <| vE <| ?_  -- cond
        refine WP.condFh rfl (rfl) ?_
        refine WP.seq <| WP.region <| v0 (S0.move rfl) rfl <| v0 (S0.not rfl) rfl <| v0 (S0.assign rfl) rfl <| vE <| ?_  -- cond
        first | refine WP.condP rfl (fun h1 => ?_) (fun h1 => ?_) | refine WP.condN rfl (fun h1 => ?_) (fun h1 => ?_) | refine WP.cond rfl (fun h1 => ?_) (fun h1 => ?_)
        · skip
          refine WP.seq <| WP.region <| v0 (S0.assign rfl) rfl <| vE <| WP.ret <| ?_  -- ret
          refine Leaves.drop (back _ (pm fun a_ => by (try simp only [List.flatten_append, List.flatten_cons, List.flatten_nil, List.append_nil, List.cons_append, List.nil_append, List.append_assoc, nOf_app, nOf_cons, nOf_nil, Nat.add_zero, Nat.zero_add, List.map_append, List.map_cons, List.map_nil, cel, sv]); first | done | omega)) ?_
          refine r1 rfl rfl ?_
          have e : askF y.F f false = (8, y.F) := by unfold askF; rw [if_neg (by simp [hff]), if_neg (by simp), if_neg (fun h => h1 (hmem.2 h))]
          rw [same (by rw [e]), hj, e]; exact ⟨_, hd, rfl, rfl⟩
        · skip
          have e : askF y.F f false = (0, y.F.filter fun x => !decide (x = f)) := by unfold askF; rw [if_neg (by simp [hff]), if_neg (by simp), if_pos (hmem.1 h1)]
          have hkl := (List.getElem?_eq_some_iff.1 h1).1
          obtain ⟨G, H, hGH, hkG⟩ : ∃ G H, y.F = G ++ f :: H ∧ k = G.length := ⟨y.F.take k, y.F.drop (k + 1), by
            have e2 := (List.getElem?_eq_some_iff.1 h1).2
            rw [← e2, ← List.drop_eq_getElem_cons hkl, List.take_append_drop], by simp; omega⟩
          have ef : y.F.filter (fun x => !decide (x = f)) = G ++ H := by rw [hGH]; exact filter_at (by rw [← hGH]; exact hoy.sF.nodup)
          rw [hkG]
          refine WP.region <| v0 (S0.move rfl) rfl <| v0 (S0.move rfl) rfl <| v0 (S0.nilCheck rfl) rfl <| v0 (S0.fieldAddr rfl) rfl <| v0 (S0.load rfl rfl) rfl <| ?_  -- op t39 := call F42{slices.Clone[[]string,string]}(t38)
          refine vc (S1.callF rfl (clone_spec hsl0 (by omega)) (take1 at0 take0)) rfl ?_
          rintro v2 _ ⟨row2, hs2, rfl⟩
          refine app ?_
          rw [hGH] at hs2
          refine v0 (S0.move rfl) rfl <| v0 (S0.move rfl) rfl <| v0 (S0.ari rfl rfl rfl (wrap_i64 (by omega))) rfl <| ?_  -- op t43 := call F43{slices.Delete[[]string,string]}(t39, t40, t42)
          rw [show (G.length : Int) + 1 = ((G.length + 1 : Nat) : Int) by omega]
          refine vc (S1.callF rfl (delete_spec hs2 (by rw [← hGH]; omega)) (take1 at0 take0)) rfl ?_
          rintro v3 _ ⟨row3, hs3, rfl⟩
          refine app ?_
          rw [← ef] at hs3
          refine v0 (S0.nilCheck rfl) rfl <| v0 (S0.fieldAddr rfl) rfl <| vs (S1.store rfl rfl (by first | rfl | exact IsSl.cv (by assumption))) <| vE <| WP.seq <| WP.region <| v0 (S0.assign rfl) rfl <| vE <| WP.ret <| ?_  -- ret
          refine Leaves.drop (h' := [(db, cel [.map (some m)] 68) :: (m, mapO (Value.int .i64) (dml (setR D i ⟨xb, xmm, v3, row3, xA, xck⟩)) cm) :: dblks 72 (setR D i ⟨xb, xmm, v3, row3, xA, xck⟩)]) (k := [xrow]) ?_ ?_
          · rw [dml_set (u := ⟨xb, xmm, v3, row3, xA, xck⟩) hR rfl]
            have hc4 := hc3 ⟨xb, xmm, v3, row3, xA, xck⟩
            exact (pm fun a_ => by have h0_ := pm_of (hc4) a_; (try simp only [List.flatten_append, List.flatten_cons, List.flatten_nil, List.append_nil, List.cons_append, List.nil_append, List.append_assoc, nOf_app, nOf_cons, nOf_nil, Nat.add_zero, Nat.zero_add, List.map_append, List.map_cons, List.map_nil, cel, sv, Rc.blks] at h0_); (try simp only [List.flatten_append, List.flatten_cons, List.flatten_nil, List.append_nil, List.cons_append, List.nil_append, List.append_assoc, nOf_app, nOf_cons, nOf_nil, Nat.add_zero, Nat.zero_add, List.map_append, List.map_cons, List.map_nil, cel, sv, Rc.blks]); first | done | omega)
          refine r1 rfl rfl ?_
          have ho2 := other v3 row3 (by rw [e]; exact hs3)
          refine ⟨_, ⟨_, m, cm, by rw [dml_set (u := ⟨xb, xmm, v3, row3, xA, xck⟩) hR rfl]; exact hw, ho2, rfl⟩, by rw [hj, e], rfl⟩
end Go.Proofs.YtanecnnfpdhadaaGreatDoor
/- Keys -/
namespace Go.Proofs.YtanecnnfpdhadaaGreatDoor
open Go

/-! the keys of a map -/
theorem keys_iter {m bx : Nat} {L : ML Int} {ck : Nat} (hw : WfM L ck) : Iter Tryz.prog 89 [.pointer (some ⟨bx, 0, none⟩)] [[(bx, cel [.map (some m)] 70)]] [[(m, mapO (Value.int .i64) L ck)]] (fun (x : Int × Value × Nat) => [.int .i64 x.1]) (fun pre x => x ∈ L ∧ x ∉ pre) (fun xs => xs.Perm L) := by
  refine ⟨enters Tryz.func89 (by kernel_rfl) rfl, fun l J Jx hJ hY h0 hJ0 => ?_⟩
  show FN _ _ _ ([(bx, cel [.map (some m)] 70)] :: h0) _
  obtain ⟨h2, hp2⟩ := hJ [] h0 hJ0
  refine FN.intro 14 [(0, .func (.yield l) #[] #[]), (1, .pointer (some ⟨bx, 0, none⟩))] Tryz.func89 rfl (enters Tryz.func89 (by kernel_rfl) rfl) Tryz.ntmps89 rfl rfl ?_
  refine WP.seq <| WP.region <| v0 (S0.load rfl rfl) rfl <| ?_  -- op t5 := range 70 t4
  refine WO.perm (h' := [(bx, cel [.map (some m)] 70)] :: [(m, mapO (Value.int .i64) L ck)] :: h2) (k := []) (by simpa using hp2) ?_
  refine vn (S1.range rfl) rfl fun b5 => ?_
  refine vE <| WP.block <| ?_  -- Code.loop
  refine WP.loop (fun s : ML Int × Hp => s.1.Nodup ∧ (∀ x ∈ s.1, x ∈ L) ∧ J s.1 s.2) (fun s : ML Int × Hp => [(0, .func (.yield l) #[] #[]), (1, .pointer (some ⟨bx, 0, none⟩)), (5, .pointer (some ⟨b5, 0, none⟩))]) (fun s : ML Int × Hp => [(b5, .mapIter (some m) ck ⟨s.1.map (·.2.2)⟩ ck)] :: [(bx, cel [.map (some m)] 70)] :: s.2) (fun s : ML Int × Hp => L.length - s.1.length) (([], h0)) (⟨by simp, by simp, hJ0⟩) ⟨rfl, rfl, rfl, trivial⟩ ⟨[], by simpa using hp2.symm⟩ (fun s hinv => ?_) 
  obtain ⟨xs, h⟩ := s
  obtain ⟨hn, hsub, hJs⟩ := hinv
  obtain ⟨h3, hp3⟩ := hJ xs h hJs
  dsimp only at *
  refine WP.seq <| WP.region <| ?_  -- op t6 := next t5 false
  refine WO.perm (h' := [(b5, .mapIter (some m) ck ⟨xs.map (·.2.2)⟩ ck)] :: [(bx, cel [.map (some m)] 70)] :: [(m, mapO (Value.int .i64) L ck)] :: h3) (k := []) (by simpa using hp3) ?_
  refine ve (S1.next hw rfl) rfl ?_
  rintro _ _ (⟨rfl, rfl, hall⟩ | ⟨y, hy, hyn, rfl, rfl⟩)
  skip
  · skip
    refine v0 (S0.extract rfl rfl) rfl <| vE <| WP.seq <| ?_  -- cond
    refine WP.condFh rfl (rfl) ?_
    refine WP.exit <| ?_  -- fnend
    refine Leaves.drop (h' := [(bx, cel [.map (some m)] 70)] :: h) (k := [[(b5, .mapIter (some m) ck ⟨xs.map (·.2.2)⟩ ck)]]) ?_ ?_
    · simp only [List.flatten_cons, List.flatten_nil, List.append_nil, List.cons_append, List.nil_append] at hp3 ⊢
      exact ((List.Perm.swap _ _ _).trans (((hp3.symm.cons _).trans (List.perm_append_singleton _ _).symm).cons _))
    refine r0 rfl ?_
    exact ⟨xs, h, rfl, .inl ⟨perm_of_all hw hn hsub hall, hJs⟩⟩
  · skip
    refine v0 (S0.extract rfl rfl) rfl <| vE <| WP.seq <| ?_  -- cond
    refine WP.condTh rfl (rfl) ?_
    refine WP.skip <| WP.block <| WP.seq <| WP.region <| ?_  -- op t8 := entry t5
    refine v0 (S0.entry (pre := xs.map (·.2.2)) hw hy (hi := by first | infer_instance | (simp; infer_instance)) rfl) rfl <| ?_
    refine v0 (S0.extract rfl rfl) rfl <| v0 (S0.assign rfl) rfl <| vE <| WP.seq <| WP.region <| v0 (S0.move rfl) rfl <| v0 (S0.move rfl) rfl <| ?_  -- op t12 := call t10(t11)
    refine ve (S1.yield (hr := [(b5, .mapIter (some m) ck ⟨xs.map (·.2.2) ++ [y.2.2]⟩ ck)] :: [(bx, cel [.map (some m)] 70)] :: []) rfl rfl (hY xs y h hJs ⟨hy, fun hm => hyn (List.mem_map.2 ⟨y, hm, rfl⟩)⟩) (by
        simp only [List.flatten_cons, List.flatten_nil, List.append_nil, List.cons_append, List.nil_append] at hp3 ⊢
        refine List.Perm.trans ?_ (List.perm_append_comm (l₁ := [_, _]))
        exact (hp3.symm.cons _).cons _)) rfl ?_
    rintro _ _ ⟨h4, ⟨bb, rfl, hpost⟩, rfl⟩
    refine v0 (S0.not rfl) rfl <| vE <| ?_  -- cond
    rcases hpost with ⟨rfl, hJ2⟩ | ⟨rfl, hJ2⟩
    skip
    · skip
      refine WP.condFh rfl (rfl) ?_
      refine WP.skip <| ?_  -- roundend
      have hnd : (xs ++ [y]).Nodup := List.nodup_append.2 ⟨hn, by simp, fun a ha b hb e => by simp at hb; subst hb; subst e; exact hyn (List.mem_map.2 ⟨_, ha, rfl⟩)⟩
      have hsb : ∀ x ∈ xs ++ [y], x ∈ L := fun x hx => (List.mem_append.1 hx).elim (hsub x) fun h => by simp at h; subst h; exact hy
      have hle : (xs ++ [y]).length ≤ L.length := hnd.length_le_of_subset hsb
      have hpm : (h4 ++ ([(b5, Obj.mapIter (some m) ck ⟨xs.map (·.2.2) ++ [y.2.2]⟩ ck)] :: [(bx, cel [.map (some m)] 70)] :: [] : Hp)).flatten.Perm (([(b5, Obj.mapIter (some m) ck ⟨(xs ++ [y]).map (·.2.2)⟩ ck)] :: [(bx, cel [.map (some m)] 70)] :: h4 : Hp).flatten ++ ([] : Hp).flatten) := by
        simp only [List.flatten_append, List.flatten_cons, List.flatten_nil, List.append_nil, List.cons_append, List.nil_append, List.map_append, List.map_cons, List.map_nil]
        exact List.perm_append_comm (l₂ := [_, _])
      exact ⟨(xs ++ [y], h4), (by first | exact ⟨hnd, hsb, hJ2⟩ | (dsimp only; exact ⟨hnd, hsb, hJ2⟩)), (by simp at hle ⊢; omega), ⟨⟨rfl, rfl, rfl, trivial⟩, rfl, rfl⟩, ⟨[], hpm⟩⟩
    · skip
      refine WP.condTh rfl (rfl) ?_
      refine WP.ret <| ?_  -- ret
      refine Leaves.drop (h' := [(bx, cel [.map (some m)] 70)] :: h4) (k := [[(b5, .mapIter (some m) ck ⟨xs.map (·.2.2) ++ [y.2.2]⟩ ck)]]) ?_ ?_
      · simp only [List.flatten_append, List.flatten_cons, List.flatten_nil, List.append_nil, List.cons_append, List.nil_append]
        refine (List.perm_append_comm (l₂ := [_, _])).trans ?_
        exact (List.Perm.swap _ _ _).trans ((List.perm_append_singleton _ _).symm.cons _)
      refine r0 rfl ?_
      exact ⟨xs ++ [y], h4, rfl, .inr hJ2⟩

theorem keys_spec (m : Nat) : FN Tryz.prog 61 [.map (some m)] [] (fun v h => ∃ bx, v = .func (.func 89) ⟨[]⟩ ⟨[.pointer (some ⟨bx, 0, none⟩)]⟩ ∧ h = [[(bx, cel [.map (some m)] 70)]]) := by
  refine FN.intro 4 [(0, .map (some m))] Tryz.func61 rfl (enters Tryz.func61 (by kernel_rfl) rfl) Tryz.ntmps61 rfl rfl ?_
  refine WP.seq <| WP.region <| vn (S1.box rfl rfl) rfl fun b1 => v0 (S0.assign rfl) rfl <| vE <| WP.seq <| WP.region <| v0 (S0.makeFunc rfl rfl) rfl <| v0 (S0.assign rfl) rfl <| vE <| WP.ret <| ?_  -- ret
  refine r1 rfl rfl ?_
  exact ⟨_, rfl, rfl⟩
end Go.Proofs.YtanecnnfpdhadaaGreatDoor
/- Sorted -/
namespace Go.Proofs.YtanecnnfpdhadaaGreatDoor
open Go

/-! the keys of a map, gathered and sorted -/
theorem appendSeq_keys {m bx : Nat} {L : ML Int} {ck : Nat} {cm : List Blk} [hm : HasC cm m (mapO (Value.int .i64) L ck)] (hw : WfM L ck) (hl : L.length ≤ 1000000) :
    FN Tryz.prog 106 [.slice none 0 0, .func (.func 89) ⟨[]⟩ ⟨[.pointer (some ⟨bx, 0, none⟩)]⟩] [[(bx, cel [.map (some m)] 70)], cm]
      (fun v h => ∃ (xs : ML Int) (row : List Blk), xs.Perm L ∧ IsSl 3 1 v (ints (xs.map (·.1))) row ∧ h = [row, cm]) := by
  refine FN.intro 13 [(0, .slice none 0 0), (1, .func (.func 89) ⟨[]⟩ ⟨[.pointer (some ⟨bx, 0, none⟩)]⟩)] Tryz.func106 rfl (enters Tryz.func106 (by kernel_rfl) rfl) Tryz.ntmps106 rfl rfl ?_
  refine WP.seq <| WP.region <| vn (S1.box rfl rfl) rfl fun b2 => v0 (S0.assign rfl) rfl <| vE <| WP.seq <| WP.seq <| WP.region <| v0 (S0.move rfl) rfl <| vE <| WP.block <| ?_  -- Code.rangeFunc
  refine WP.rangeSup (keys_iter (L := L) (ck := ck) hw) rfl (take1 (atS at0) take0) rfl (fun _ => rfl) ((fun pre h => pre.Nodup ∧ (∀ x ∈ pre, x ∈ L) ∧ ∃ v row, IsSl 3 1 v (ints (pre.map (·.1))) row ∧ h = [(b2, cel [v] 38)] :: row :: cm :: [])) ((fun _ _ _ => False)) ?_ ?_ ?_ ?_ ?_
  · rintro pre h ⟨-, -, v, row, -, rfl⟩
    exact Sup.has
  · exact ⟨_, ⟨by simp, by simp, _, [], .nil, rfl⟩, [], by simp⟩
  · rintro l pre x _ ⟨hnd, hsub, v, row, hsl, rfl⟩ ⟨hxL, hxn⟩
    show WP _ _ _ _ ⟨_, (7, _) :: _, _⟩ _
    have hpl : pre.length ≤ L.length := hnd.length_le_of_subset hsub
    have hnd' : (pre ++ [x]).Nodup := List.nodup_append.2 ⟨hnd, by simp, fun a ha b hb e => by simp at hb; subst hb; subst e; exact hxn ha⟩
    have hsub' : ∀ z ∈ pre ++ [x], z ∈ L := fun z hz => (List.mem_append.1 hz).elim (hsub z) fun h => by simp at h; subst h; exact hxL
    skip
    refine WP.region <| v0 (S0.assign rfl) rfl <| vE <| WP.block <| WP.region <| v0 (S0.load rfl rfl) rfl <| v0 (S0.move rfl) rfl <| vnv (S1.buildSlice rfl (qs := [(0, _)]) rfl rfl) rfl fun b10 => ?_  -- op t11 := append(t8, t10) :[38, 38]
    refine ve (S1.appendL rfl hsl rfl rfl (atS (atS at0)) rfl rfl (by rw [ints_len]; simp; omega)) rfl ?_
    rintro v2 _ ⟨row2, hsl2, rfl⟩
    refine vs (S1.store rfl rfl (by first | rfl | exact IsSl.cv (by assumption))) <| vE <| ?_  -- roundend
    refine ⟨_, ⟨hnd', hsub', v2, row2, ?_, rfl⟩, ?_⟩
    · simpa [ints] using hsl2
    · exact ⟨_, (take1 (atS (atS at0)) (take1 at0 (take1 (atS at0) take0)))⟩
  · rintro D xs h1 hx hS ⟨hnd, hsub, v, row, hsl, rfl⟩ hsup
    refine WP.sup hsup ?_
    refine WP.appc ?_
    skip
    refine WP.seq <| WP.region <| v0 (S0.load rfl rfl) rfl <| v0 (S0.assign rfl) rfl <| vE <| WP.ret <| ?_  -- ret
    refine rm (take1 at0 take0) ?_
    refine Leaves.drop (take1 (atS (atS at0)) (take1 (atS (atS at0)) take0)) ?_
    refine r1 rfl rfl ?_
    exact ⟨xs, row, hS, hsl, rfl⟩
  · rintro D c xs h1 hx hf
    exact hf.elim
theorem sorted_keys {m bx : Nat} {L : ML Int} {ck : Nat} {cm : List Blk} [hm : HasC cm m (mapO (Value.int .i64) L ck)] (hw : WfM L ck) (hl : L.length ≤ 1000000) :
    FN Tryz.prog 60 [.func (.func 89) ⟨[]⟩ ⟨[.pointer (some ⟨bx, 0, none⟩)]⟩] [[(bx, cel [.map (some m)] 70)], cm]
      (fun v h => ∃ (xs : ML Int) (row : List Blk), xs.Perm L ∧ IsSl 3 1 v (ints (sortI (xs.map (·.1)))) row ∧ h = [row, cm]) := by
  have collect : FN Tryz.prog 87 [.func (.func 89) ⟨[]⟩ ⟨[.pointer (some ⟨bx, 0, none⟩)]⟩] [[(bx, cel [.map (some m)] 70)], cm]
      (fun v h => ∃ (xs : ML Int) (row : List Blk), xs.Perm L ∧ IsSl 3 1 v (ints (xs.map (·.1))) row ∧ h = [row, cm]) := by
    refine FN.intro 5 [(0, .func (.func 89) ⟨[]⟩ ⟨[.pointer (some ⟨bx, 0, none⟩)]⟩)] Tryz.func87 rfl (enters Tryz.func87 (by kernel_rfl) rfl) Tryz.ntmps87 rfl rfl ?_
    refine WP.seq <| WP.region <| v0 (S0.assign rfl) rfl <| vE <| WP.seq <| WP.region <| v0 (S0.move rfl) rfl <| ?_  -- op t4 := call F106{slices.AppendSeq[[]int,int]}(Value.slice none 0 0, t3)
    refine vc (S1.callF rfl (appendSeq_keys (ck := ck) hw hl) (take1 at0 (take1 at0 take0))) rfl ?_
    rintro v _ ⟨xs, row, hp, hs, rfl⟩
    refine app ?_
    refine v0 (S0.assign rfl) rfl <| vE <| WP.ret <| ?_  -- ret
    refine r1 rfl rfl ?_
    exact ⟨xs, row, hp, hs, rfl⟩
  refine FN.intro 9 [(0, .func (.func 89) ⟨[]⟩ ⟨[.pointer (some ⟨bx, 0, none⟩)]⟩)] Tryz.func60 rfl (enters Tryz.func60 (by kernel_rfl) rfl) Tryz.ntmps60 rfl rfl ?_
  refine WP.seq <| WP.region <| v0 (S0.assign rfl) rfl <| vE <| WP.seq <| WP.region <| v0 (S0.move rfl) rfl <| ?_  -- op t5 := call F87{slices.Collect[int]}(t4)
  refine vc (S1.callF rfl (collect) (take1 at0 (take1 at0 take0))) rfl ?_
  rintro v _ ⟨xs, row, hp, hs, rfl⟩
  refine app ?_
  refine v0 (S0.assign rfl) rfl <| vE <| WP.seq <| WP.region <| v0 (S0.move rfl) rfl <| ?_  -- op t7 := call F88{slices.Sort[[]int,int]}(t6)
  refine vc (S1.callF rfl (sort_spec (enters Tryz.func88 (by kernel_rfl) rfl) Tryz.slices_Sort_int Tryz.slices_Sort_int_none hs (by have := hp.length_eq; simp; omega)) (take1 at0 take0)) rfl ?_
  rintro _ _ ⟨rfl, row2, hs2, rfl⟩
  refine app ?_
  refine vE <| WP.seq <| WP.region <| v0 (S0.move rfl) rfl <| v0 (S0.assign rfl) rfl <| vE <| WP.ret <| ?_  -- ret
  refine r1 rfl rfl ?_
  exact ⟨xs, row2, hp, hs2, rfl⟩
end Go.Proofs.YtanecnnfpdhadaaGreatDoor
/- KeysD -/
namespace Go.Proofs.YtanecnnfpdhadaaGreatDoor
open Go

/-! the keys of a map -/
theorem keysD_iter {m bx : Nat} {L : ML Int} {ck : Nat} (hw : WfM L ck) : Iter Tryz.prog 92 [.pointer (some ⟨bx, 0, none⟩)] [[(bx, cel [.map (some m)] 66)]] [[(m, mapO (Value.int .i64) L ck)]] (fun (x : Int × Value × Nat) => [.int .i64 x.1]) (fun pre x => x ∈ L ∧ x ∉ pre) (fun xs => xs.Perm L) := by
  refine ⟨enters Tryz.func92 (by kernel_rfl) rfl, fun l J Jx hJ hY h0 hJ0 => ?_⟩
  show FN _ _ _ ([(bx, cel [.map (some m)] 66)] :: h0) _
  obtain ⟨h2, hp2⟩ := hJ [] h0 hJ0
  refine FN.intro 14 [(0, .func (.yield l) #[] #[]), (1, .pointer (some ⟨bx, 0, none⟩))] Tryz.func92 rfl (enters Tryz.func92 (by kernel_rfl) rfl) Tryz.ntmps92 rfl rfl ?_
  refine WP.seq <| WP.region <| v0 (S0.load rfl rfl) rfl <| ?_  -- op t5 := range 66 t4
  refine WO.perm (h' := [(bx, cel [.map (some m)] 66)] :: [(m, mapO (Value.int .i64) L ck)] :: h2) (k := []) (by simpa using hp2) ?_
  refine vn (S1.range rfl) rfl fun b5 => ?_
  refine vE <| WP.block <| ?_  -- Code.loop
  refine WP.loop (fun s : ML Int × Hp => s.1.Nodup ∧ (∀ x ∈ s.1, x ∈ L) ∧ J s.1 s.2) (fun s : ML Int × Hp => [(0, .func (.yield l) #[] #[]), (1, .pointer (some ⟨bx, 0, none⟩)), (5, .pointer (some ⟨b5, 0, none⟩))]) (fun s : ML Int × Hp => [(b5, .mapIter (some m) ck ⟨s.1.map (·.2.2)⟩ ck)] :: [(bx, cel [.map (some m)] 66)] :: s.2) (fun s : ML Int × Hp => L.length - s.1.length) (([], h0)) (⟨by simp, by simp, hJ0⟩) ⟨rfl, rfl, rfl, trivial⟩ ⟨[], by simpa using hp2.symm⟩ (fun s hinv => ?_) 
  obtain ⟨xs, h⟩ := s
  obtain ⟨hn, hsub, hJs⟩ := hinv
  obtain ⟨h3, hp3⟩ := hJ xs h hJs
  dsimp only at *
  refine WP.seq <| WP.region <| ?_  -- op t6 := next t5 false
  refine WO.perm (h' := [(b5, .mapIter (some m) ck ⟨xs.map (·.2.2)⟩ ck)] :: [(bx, cel [.map (some m)] 66)] :: [(m, mapO (Value.int .i64) L ck)] :: h3) (k := []) (by simpa using hp3) ?_
  refine ve (S1.next hw rfl) rfl ?_
  rintro _ _ (⟨rfl, rfl, hall⟩ | ⟨y, hy, hyn, rfl, rfl⟩)
  skip
  · skip
    refine v0 (S0.extract rfl rfl) rfl <| vE <| WP.seq <| ?_  -- cond
    refine WP.condFh rfl (rfl) ?_
    refine WP.exit <| ?_  -- fnend
    refine Leaves.drop (h' := [(bx, cel [.map (some m)] 66)] :: h) (k := [[(b5, .mapIter (some m) ck ⟨xs.map (·.2.2)⟩ ck)]]) ?_ ?_
    · simp only [List.flatten_cons, List.flatten_nil, List.append_nil, List.cons_append, List.nil_append] at hp3 ⊢
      exact ((List.Perm.swap _ _ _).trans (((hp3.symm.cons _).trans (List.perm_append_singleton _ _).symm).cons _))
    refine r0 rfl ?_
    exact ⟨xs, h, rfl, .inl ⟨perm_of_all hw hn hsub hall, hJs⟩⟩
  · skip
    refine v0 (S0.extract rfl rfl) rfl <| vE <| WP.seq <| ?_  -- cond
    refine WP.condTh rfl (rfl) ?_
    refine WP.skip <| WP.block <| WP.seq <| WP.region <| ?_  -- op t8 := entry t5
    refine v0 (S0.entry (pre := xs.map (·.2.2)) hw hy (hi := by first | infer_instance | (simp; infer_instance)) rfl) rfl <| ?_
    refine v0 (S0.extract rfl rfl) rfl <| v0 (S0.assign rfl) rfl <| vE <| WP.seq <| WP.region <| v0 (S0.move rfl) rfl <| v0 (S0.move rfl) rfl <| ?_  -- op t12 := call t10(t11)
    refine ve (S1.yield (hr := [(b5, .mapIter (some m) ck ⟨xs.map (·.2.2) ++ [y.2.2]⟩ ck)] :: [(bx, cel [.map (some m)] 66)] :: []) rfl rfl (hY xs y h hJs ⟨hy, fun hm => hyn (List.mem_map.2 ⟨y, hm, rfl⟩)⟩) (by
        simp only [List.flatten_cons, List.flatten_nil, List.append_nil, List.cons_append, List.nil_append] at hp3 ⊢
        refine List.Perm.trans ?_ (List.perm_append_comm (l₁ := [_, _]))
        exact (hp3.symm.cons _).cons _)) rfl ?_
    rintro _ _ ⟨h4, ⟨bb, rfl, hpost⟩, rfl⟩
    refine v0 (S0.not rfl) rfl <| vE <| ?_  -- cond
    rcases hpost with ⟨rfl, hJ2⟩ | ⟨rfl, hJ2⟩
    skip
    · skip
      refine WP.condFh rfl (rfl) ?_
      refine WP.skip <| ?_  -- roundend
      have hnd : (xs ++ [y]).Nodup := List.nodup_append.2 ⟨hn, by simp, fun a ha b hb e => by simp at hb; subst hb; subst e; exact hyn (List.mem_map.2 ⟨_, ha, rfl⟩)⟩
      have hsb : ∀ x ∈ xs ++ [y], x ∈ L := fun x hx => (List.mem_append.1 hx).elim (hsub x) fun h => by simp at h; subst h; exact hy
      have hle : (xs ++ [y]).length ≤ L.length := hnd.length_le_of_subset hsb
      have hpm : (h4 ++ ([(b5, Obj.mapIter (some m) ck ⟨xs.map (·.2.2) ++ [y.2.2]⟩ ck)] :: [(bx, cel [.map (some m)] 66)] :: [] : Hp)).flatten.Perm (([(b5, Obj.mapIter (some m) ck ⟨(xs ++ [y]).map (·.2.2)⟩ ck)] :: [(bx, cel [.map (some m)] 66)] :: h4 : Hp).flatten ++ ([] : Hp).flatten) := by
        simp only [List.flatten_append, List.flatten_cons, List.flatten_nil, List.append_nil, List.cons_append, List.nil_append, List.map_append, List.map_cons, List.map_nil]
        exact List.perm_append_comm (l₂ := [_, _])
      exact ⟨(xs ++ [y], h4), (by first | exact ⟨hnd, hsb, hJ2⟩ | (dsimp only; exact ⟨hnd, hsb, hJ2⟩)), (by simp at hle ⊢; omega), ⟨⟨rfl, rfl, rfl, trivial⟩, rfl, rfl⟩, ⟨[], hpm⟩⟩
    · skip
      refine WP.condTh rfl (rfl) ?_
      refine WP.ret <| ?_  -- ret
      refine Leaves.drop (h' := [(bx, cel [.map (some m)] 66)] :: h4) (k := [[(b5, .mapIter (some m) ck ⟨xs.map (·.2.2) ++ [y.2.2]⟩ ck)]]) ?_ ?_
      · simp only [List.flatten_append, List.flatten_cons, List.flatten_nil, List.append_nil, List.cons_append, List.nil_append]
        refine (List.perm_append_comm (l₂ := [_, _])).trans ?_
        exact (List.Perm.swap _ _ _).trans ((List.perm_append_singleton _ _).symm.cons _)
      refine r0 rfl ?_
      exact ⟨xs ++ [y], h4, rfl, .inr hJ2⟩

theorem keysD_spec (m : Nat) : FN Tryz.prog 68 [.map (some m)] [] (fun v h => ∃ bx, v = .func (.func 92) ⟨[]⟩ ⟨[.pointer (some ⟨bx, 0, none⟩)]⟩ ∧ h = [[(bx, cel [.map (some m)] 66)]]) := by
  refine FN.intro 4 [(0, .map (some m))] Tryz.func68 rfl (enters Tryz.func68 (by kernel_rfl) rfl) Tryz.ntmps68 rfl rfl ?_
  refine WP.seq <| WP.region <| vn (S1.box rfl rfl) rfl fun b1 => v0 (S0.assign rfl) rfl <| vE <| WP.seq <| WP.region <| v0 (S0.makeFunc rfl rfl) rfl <| v0 (S0.assign rfl) rfl <| vE <| WP.ret <| ?_  -- ret
  refine r1 rfl rfl ?_
  exact ⟨_, rfl, rfl⟩

/-! the keys of a map, gathered and sorted -/
theorem appendSeqD_keys {m bx : Nat} {L : ML Int} {ck : Nat} {cm : List Blk} [hm : HasC cm m (mapO (Value.int .i64) L ck)] (hw : WfM L ck) (hl : L.length ≤ 1000000) :
    FN Tryz.prog 106 [.slice none 0 0, .func (.func 92) ⟨[]⟩ ⟨[.pointer (some ⟨bx, 0, none⟩)]⟩] [[(bx, cel [.map (some m)] 66)], cm]
      (fun v h => ∃ (xs : ML Int) (row : List Blk), xs.Perm L ∧ IsSl 3 1 v (ints (xs.map (·.1))) row ∧ h = [row, cm]) := by
  refine FN.intro 13 [(0, .slice none 0 0), (1, .func (.func 92) ⟨[]⟩ ⟨[.pointer (some ⟨bx, 0, none⟩)]⟩)] Tryz.func106 rfl (enters Tryz.func106 (by kernel_rfl) rfl) Tryz.ntmps106 rfl rfl ?_
  refine WP.seq <| WP.region <| vn (S1.box rfl rfl) rfl fun b2 => v0 (S0.assign rfl) rfl <| vE <| WP.seq <| WP.seq <| WP.region <| v0 (S0.move rfl) rfl <| vE <| WP.block <| ?_  -- Code.rangeFunc
  refine WP.rangeSup (keysD_iter (L := L) (ck := ck) hw) rfl (take1 (atS at0) take0) rfl (fun _ => rfl) ((fun pre h => pre.Nodup ∧ (∀ x ∈ pre, x ∈ L) ∧ ∃ v row, IsSl 3 1 v (ints (pre.map (·.1))) row ∧ h = [(b2, cel [v] 38)] :: row :: cm :: [])) ((fun _ _ _ => False)) ?_ ?_ ?_ ?_ ?_
  · rintro pre h ⟨-, -, v, row, -, rfl⟩
    exact Sup.has
  · exact ⟨_, ⟨by simp, by simp, _, [], .nil, rfl⟩, [], by simp⟩
  · rintro l pre x _ ⟨hnd, hsub, v, row, hsl, rfl⟩ ⟨hxL, hxn⟩
    show WP _ _ _ _ ⟨_, (7, _) :: _, _⟩ _
    have hpl : pre.length ≤ L.length := hnd.length_le_of_subset hsub
    have hnd' : (pre ++ [x]).Nodup := List.nodup_append.2 ⟨hnd, by simp, fun a ha b hb e => by simp at hb; subst hb; subst e; exact hxn ha⟩
    have hsub' : ∀ z ∈ pre ++ [x], z ∈ L := fun z hz => (List.mem_append.1 hz).elim (hsub z) fun h => by simp at h; subst h; exact hxL
    skip
    refine WP.region <| v0 (S0.assign rfl) rfl <| vE <| WP.block <| WP.region <| v0 (S0.load rfl rfl) rfl <| v0 (S0.move rfl) rfl <| vnv (S1.buildSlice rfl (qs := [(0, _)]) rfl rfl) rfl fun b10 => ?_  -- op t11 := append(t8, t10) :[38, 38]
    refine ve (S1.appendL rfl hsl rfl rfl (atS (atS at0)) rfl rfl (by rw [ints_len]; simp; omega)) rfl ?_
    rintro v2 _ ⟨row2, hsl2, rfl⟩
    refine vs (S1.store rfl rfl (by first | rfl | exact IsSl.cv (by assumption))) <| vE <| ?_  -- roundend
    refine ⟨_, ⟨hnd', hsub', v2, row2, ?_, rfl⟩, ?_⟩
    · simpa [ints] using hsl2
    · exact ⟨_, (take1 (atS (atS at0)) (take1 at0 (take1 (atS at0) take0)))⟩
  · rintro D xs h1 hx hS ⟨hnd, hsub, v, row, hsl, rfl⟩ hsup
    refine WP.sup hsup ?_
    refine WP.appc ?_
    skip
    refine WP.seq <| WP.region <| v0 (S0.load rfl rfl) rfl <| v0 (S0.assign rfl) rfl <| vE <| WP.ret <| ?_  -- ret
    refine rm (take1 at0 take0) ?_
    refine Leaves.drop (take1 (atS (atS at0)) (take1 (atS (atS at0)) take0)) ?_
    refine r1 rfl rfl ?_
    exact ⟨xs, row, hS, hsl, rfl⟩
  · rintro D c xs h1 hx hf
    exact hf.elim
theorem collectD_keys {m bx : Nat} {L : ML Int} {ck : Nat} {cm : List Blk} [hm : HasC cm m (mapO (Value.int .i64) L ck)] (hw : WfM L ck) (hl : L.length ≤ 1000000)  :
    FN Tryz.prog 87 [.func (.func 92) ⟨[]⟩ ⟨[.pointer (some ⟨bx, 0, none⟩)]⟩] [[(bx, cel [.map (some m)] 66)], cm]
    (fun v h => ∃ (xs : ML Int) (row : List Blk), xs.Perm L ∧ IsSl 3 1 v (ints (xs.map (·.1))) row ∧ h = [row, cm]) := by
  refine FN.intro 5 [(0, .func (.func 92) ⟨[]⟩ ⟨[.pointer (some ⟨bx, 0, none⟩)]⟩)] Tryz.func87 rfl (enters Tryz.func87 (by kernel_rfl) rfl) Tryz.ntmps87 rfl rfl ?_
  refine WP.seq <| WP.region <| v0 (S0.assign rfl) rfl <| vE <| WP.seq <| WP.region <| v0 (S0.move rfl) rfl <| ?_  -- op t4 := call F106{slices.AppendSeq[[]int,int]}(Value.slice none 0 0, t3)
  refine vc (S1.callF rfl (appendSeqD_keys (ck := ck) hw hl) (take1 at0 (take1 at0 take0))) rfl ?_
  rintro v _ ⟨xs, row, hp, hs, rfl⟩
  refine app ?_
  refine v0 (S0.assign rfl) rfl <| vE <| WP.ret <| ?_  -- ret
  refine r1 rfl rfl ?_
  exact ⟨xs, row, hp, hs, rfl⟩
theorem sortedD_keys {m bx : Nat} {L : ML Int} {ck : Nat} {cm : List Blk} [hm : HasC cm m (mapO (Value.int .i64) L ck)] (hw : WfM L ck) (hl : L.length ≤ 1000000) :
    FN Tryz.prog 60 [.func (.func 92) ⟨[]⟩ ⟨[.pointer (some ⟨bx, 0, none⟩)]⟩] [[(bx, cel [.map (some m)] 66)], cm]
      (fun v h => ∃ (xs : ML Int) (row : List Blk), xs.Perm L ∧ IsSl 3 1 v (ints (sortI (xs.map (·.1)))) row ∧ h = [row, cm]) := by
  refine FN.intro 9 [(0, .func (.func 92) ⟨[]⟩ ⟨[.pointer (some ⟨bx, 0, none⟩)]⟩)] Tryz.func60 rfl (enters Tryz.func60 (by kernel_rfl) rfl) Tryz.ntmps60 rfl rfl ?_
  refine WP.seq <| WP.region <| v0 (S0.assign rfl) rfl <| vE <| WP.seq <| WP.region <| v0 (S0.move rfl) rfl <| ?_  -- op t5 := call F87{slices.Collect[int]}(t4)
  refine vc (S1.callF rfl (collectD_keys hw hl) (take1 at0 (take1 at0 take0))) rfl ?_
  rintro v _ ⟨xs, row, hp, hs, rfl⟩
  refine app ?_
  refine v0 (S0.assign rfl) rfl <| vE <| WP.seq <| WP.region <| v0 (S0.move rfl) rfl <| ?_  -- op t7 := call F88{slices.Sort[[]int,int]}(t6)
  refine vc (S1.callF rfl (sort_spec (enters Tryz.func88 (by kernel_rfl) rfl) Tryz.slices_Sort_int Tryz.slices_Sort_int_none hs (by have := hp.length_eq; simp; omega)) (take1 at0 take0)) rfl ?_
  rintro _ _ ⟨rfl, row2, hs2, rfl⟩
  refine app ?_
  refine vE <| WP.seq <| WP.region <| v0 (S0.move rfl) rfl <| v0 (S0.assign rfl) rfl <| vE <| WP.ret <| ?_  -- ret
  refine r1 rfl rfl ?_
  exact ⟨xs, row2, hp, hs2, rfl⟩
end Go.Proofs.YtanecnnfpdhadaaGreatDoor
