import Derived.Test.YtjglpmaedphbnaaA1
namespace Go.Proofs.Ytjglpmaedphbnaa
open Go

/-! the document's answer -/
theorem top_spec : FN Try.prog 32 [] [] (is (.int .i64 1099511627776) []) := by
  refine FN.intro 1 [] Try.func32 rfl (enters Try.func32 (by kernel_rfl) rfl) Try.ntmps32 rfl rfl ?_
  refine WP.seq <| WP.region <| v0 (S0.assign rfl) rfl <| vE <| WP.seq <| WP.region <| v0 (S0.assign rfl) rfl <| vE <| WP.ret <| ?_  -- ret
  refine r1 rfl rfl ?_
  exact ⟨rfl, rfl⟩
abbrev rchB (b : Nat) (c : Ch) : List Blk := [(b, cel (chCells c) 49)]
theorem rcnew_ok {every epoch : Int} (h : (1 ≤ every ∧ every ≤ 1000) ∧ 0 ≤ epoch ∧ epoch < 1099511627776) : FN Try.prog 9 [.int .i64 every, .int .i64 epoch] []
    (fun v h => ∃ b, v = .tuple ⟨[.pointer (some ⟨b, 0, none⟩), .int .i64 0]⟩ ∧ h = [rchB b ⟨every, epoch, 0, 0, 0⟩]) := by
  refine FN.intro 26 [(0, .int .i64 every), (1, .int .i64 epoch)] Try.func9 rfl (enters Try.func9 (by kernel_rfl) rfl) Try.ntmps9 rfl rfl ?_
  refine WP.seq <| WP.region <| v0 (S0.assign rfl) rfl <| v0 (S0.assign rfl) rfl <| vE <| WP.seq <| WP.seq <| WP.region <| v0 (S0.move rfl) rfl <| v0 (S0.cmp rfl rfl rfl) rfl <| v0 (S0.move rfl) rfl <| ?_  -- guard t8 (wants False) at t9 := move t0 [if #2=False]
  refine csFh (t := 8) rfl ((decide_eq_false (by omega))) ?_
  refine gT rfl <| v0 (S0.move rfl) rfl <| gT rfl <| v0 (S0.cmp rfl rfl rfl) rfl <| v0 (S0.pickF rfl rfl) rfl <| v0 (S0.move rfl) rfl <| ?_  -- guard t12 (wants False) at t13 := move t1 [if #6=False]
  refine csFh (t := 12) rfl ((decide_eq_false (by omega))) ?_
  refine gT rfl <| v0 (S0.move rfl) rfl <| gT rfl <| v0 (S0.cmp rfl rfl rfl) rfl <| v0 (S0.pickF rfl rfl) rfl <| v0 (S0.move rfl) rfl <| ?_  -- guard t16 (wants False) at t17 := move t1 [if #10=False]
  refine csFh (t := 16) rfl ((decide_eq_false (by omega))) ?_
  refine gT rfl <| v0 (S0.move rfl) rfl <| ?_  -- op t18 := call F32{rivulet/rivuletref17.top}() [if #10=False]
  refine gT rfl <| vcd (S1.callF rfl (top_spec) take0) rfl ?_
  refine gT rfl <| v0 (S0.ari rfl rfl rfl (wrap_i64 (by omega))) rfl <| gT rfl <| v0 (S0.cmp rfl rfl rfl) rfl <| v0 (S0.pickF rfl rfl) rfl <| vE <| ?_  -- cond
  refine WP.condFh rfl ((decide_eq_false (by omega))) ?_
  refine WP.skip <| WP.seq <| WP.region <| v0 (S0.move rfl) rfl <| v0 (S0.move rfl) rfl <| v0 (S0.build rfl (qs := [(0, _), (1, _)]) rfl) rfl <| vn (S1.box rfl rfl) rfl fun b25 => v0 (S0.assign rfl) rfl <| v0 (S0.assign rfl) rfl <| vE <| WP.ret <| ?_  -- ret
  refine r2 rfl rfl rfl ?_
  exact ⟨_, rfl, rfl⟩
theorem rcnew_bad {every epoch : Int} (h : ¬ ((1 ≤ every ∧ every ≤ 1000) ∧ 0 ≤ epoch ∧ epoch < 1099511627776)) : FN Try.prog 9 [.int .i64 every, .int .i64 epoch] [] (is (.tuple ⟨[.pointer none, .int .i64 1]⟩) []) := by
  refine FN.intro 26 [(0, .int .i64 every), (1, .int .i64 epoch)] Try.func9 rfl (enters Try.func9 (by kernel_rfl) rfl) Try.ntmps9 rfl rfl ?_
  refine WP.seq <| WP.region <| v0 (S0.assign rfl) rfl <| v0 (S0.assign rfl) rfl <| vE <| WP.seq <| WP.seq <| WP.region <| v0 (S0.move rfl) rfl <| v0 (S0.cmp rfl rfl rfl) rfl <| v0 (S0.move rfl) rfl <| ?_  -- guard t8 (wants False) at t9 := move t0 [if #2=False]
  first | refine csP (t := 8) rfl (fun h1 => ?_) (fun h1 => ?_) | refine csN (t := 8) rfl (fun h1 => ?_) (fun h1 => ?_) | refine cs (t := 8) rfl (fun h1 => ?_) (fun h1 => ?_)
  · skip
    refine gF rfl rfl <| gF rfl rfl <| v0 (S0.pickT rfl rfl) rfl <| v0 (S0.move rfl) rfl <| gF rfl rfl <| gF rfl rfl <| v0 (S0.pickT rfl rfl) rfl <| v0 (S0.move rfl) rfl <| gF rfl rfl <| gF rfl rfl <| gF rfl rfl <| gF rfl rfl <| v0 (S0.pickT rfl rfl) rfl <| vE <| WP.condT rfl <| WP.seq <| WP.region <| v0 (S0.assign rfl) rfl <| v0 (S0.assign rfl) rfl <| vE <| WP.ret <| ?_  -- ret
    refine r2 rfl rfl rfl ?_
    exact ⟨rfl, rfl⟩
  · skip
    refine gT rfl <| v0 (S0.move rfl) rfl <| gT rfl <| v0 (S0.cmp rfl rfl rfl) rfl <| v0 (S0.pickF rfl rfl) rfl <| v0 (S0.move rfl) rfl <| ?_  -- guard t12 (wants False) at t13 := move t1 [if #6=False]
    first | refine csP (t := 12) rfl (fun h2 => ?_) (fun h2 => ?_) | refine csN (t := 12) rfl (fun h2 => ?_) (fun h2 => ?_) | refine cs (t := 12) rfl (fun h2 => ?_) (fun h2 => ?_)
    · skip
      refine gF rfl rfl <| gF rfl rfl <| v0 (S0.pickT rfl rfl) rfl <| v0 (S0.move rfl) rfl <| gF rfl rfl <| gF rfl rfl <| gF rfl rfl <| gF rfl rfl <| v0 (S0.pickT rfl rfl) rfl <| vE <| WP.condT rfl <| WP.seq <| WP.region <| v0 (S0.assign rfl) rfl <| v0 (S0.assign rfl) rfl <| vE <| WP.ret <| ?_  -- ret
      refine r2 rfl rfl rfl ?_
      exact ⟨rfl, rfl⟩
    · skip
      refine gT rfl <| v0 (S0.move rfl) rfl <| gT rfl <| v0 (S0.cmp rfl rfl rfl) rfl <| v0 (S0.pickF rfl rfl) rfl <| v0 (S0.move rfl) rfl <| ?_  -- guard t16 (wants False) at t17 := move t1 [if #10=False]
      first | refine csP (t := 16) rfl (fun h3 => ?_) (fun h3 => ?_) | refine csN (t := 16) rfl (fun h3 => ?_) (fun h3 => ?_) | refine cs (t := 16) rfl (fun h3 => ?_) (fun h3 => ?_)
      · skip
        refine gF rfl rfl <| gF rfl rfl <| gF rfl rfl <| gF rfl rfl <| v0 (S0.pickT rfl rfl) rfl <| vE <| WP.condT rfl <| WP.seq <| WP.region <| v0 (S0.assign rfl) rfl <| v0 (S0.assign rfl) rfl <| vE <| WP.ret <| ?_  -- ret
        refine r2 rfl rfl rfl ?_
        exact ⟨rfl, rfl⟩
      · skip
        refine gT rfl <| v0 (S0.move rfl) rfl <| ?_  -- op t18 := call F32{rivulet/rivuletref17.top}() [if #10=False]
        refine gT rfl <| vcd (S1.callF rfl (top_spec) take0) rfl ?_
        refine gT rfl <| v0 (S0.ari rfl rfl rfl (wrap_i64 (by omega))) rfl <| gT rfl <| v0 (S0.cmp rfl rfl rfl) rfl <| v0 (S0.pickF rfl rfl) rfl <| vE <| ?_  -- cond
        refine WP.condTh rfl ((decide_eq_true (by omega))) ?_
        refine WP.seq <| WP.region <| v0 (S0.assign rfl) rfl <| v0 (S0.assign rfl) rfl <| vE <| WP.ret <| ?_  -- ret
        refine r2 rfl rfl rfl ?_
        exact ⟨rfl, rfl⟩
theorem rask_spec {b : Nat} {c : Ch} (hc : OkC c) (p now : Int) : FN Try.prog 12 [.pointer (some ⟨b, 0, none⟩), .int .i64 p, .int .i64 now] [rchB b c] (is (.tuple ⟨[.int .i64 (askV c p now), .int .i64 (askE c p now)]⟩) [rchB b (askC c p now)]) := by
  have h1 := hc.epoch
  have bad : askB c p now = false → (is (.tuple ⟨[.int .i64 (askV c p now), .int .i64 (askE c p now)]⟩) [rchB b (askC c p now)]) (.tuple ⟨[.int .i64 0, .int .i64 1]⟩) [rchB b c] := fun e => by
    simp only [askV, askE, askC, e, Bool.false_eq_true, if_false]; exact ⟨rfl, rfl⟩
  refine FN.intro 50 [(0, .pointer (some ⟨b, 0, none⟩)), (1, .int .i64 p), (2, .int .i64 now)] Try.func12 rfl (enters Try.func12 (by kernel_rfl) rfl) Try.ntmps12 rfl rfl ?_
  refine WP.seq <| WP.region <| v0 (S0.assign rfl) rfl <| v0 (S0.assign rfl) rfl <| vE <| WP.seq <| WP.seq <| WP.drawP [0, 1, 2, 3, 4, 5, 6, 7, 8, 9, 10, 11, 12, 13, 14, 15, 16, 17, 18] mixed (by kernel_rfl) (by kernel_rfl) (by kernel_rfl) (take1 at0 take0) <| w0 rfl rfl rfl (S0.move rfl) rfl <| w0 rfl rfl rfl (S0.cmp rfl rfl rfl) rfl <| w0 rfl rfl rfl (S0.move rfl) rfl <| ?_  -- guard t10 (wants False) at t11 := move t2 [if #2=False]
  first | refine wcsP (t := 10) rfl (fun hp => ?_) (fun hp => ?_) | refine wcsN (t := 10) rfl (fun hp => ?_) (fun hp => ?_) | refine wcs (t := 10) rfl (fun hp => ?_) (fun hp => ?_)
  · skip
    refine wF rfl rfl rfl <| wF rfl rfl rfl <| w0 rfl rfl rfl (S0.pickT rfl rfl) rfl <| w0 rfl rfl rfl (S0.move rfl) rfl <| wF rfl rfl rfl <| wF rfl rfl rfl <| wF rfl rfl rfl <| w0 rfl rfl rfl (S0.pickT rfl rfl) rfl <| w0 rfl rfl rfl (S0.move rfl) rfl <| wF rfl rfl rfl <| wF rfl rfl rfl <| wF rfl rfl rfl <| wF rfl rfl rfl <| wF rfl rfl rfl <| wF rfl rfl rfl <| w0 rfl rfl rfl (S0.pickT rfl rfl) rfl <| wE <| WP.condT rfl <| WP.seq <| WP.region <| v0 (S0.assign rfl) rfl <| v0 (S0.assign rfl) rfl <| vE <| WP.ret <| ?_  -- ret
    refine r2 rfl rfl rfl ?_
    exact bad (by have : decide (0 ≤ p) = false := decide_eq_false (by omega)
                  simp [askB, this])
  · skip
    refine w0 rfl rfl rfl (S0.move rfl) rfl <| w0 rfl rfl rfl (S0.cmp rfl rfl rfl) rfl <| w0 rfl rfl rfl (S0.pickF rfl rfl) rfl <| w0 rfl rfl rfl (S0.move rfl) rfl <| ?_  -- guard t14 (wants False) at t15 := move t2 [if #6=False]
    first | refine wcsP (t := 14) rfl (fun ht => ?_) (fun ht => ?_) | refine wcsN (t := 14) rfl (fun ht => ?_) (fun ht => ?_) | refine wcs (t := 14) rfl (fun ht => ?_) (fun ht => ?_)
    · skip
      refine wF rfl rfl rfl <| wF rfl rfl rfl <| wF rfl rfl rfl <| w0 rfl rfl rfl (S0.pickT rfl rfl) rfl <| w0 rfl rfl rfl (S0.move rfl) rfl <| wF rfl rfl rfl <| wF rfl rfl rfl <| wF rfl rfl rfl <| wF rfl rfl rfl <| wF rfl rfl rfl <| wF rfl rfl rfl <| w0 rfl rfl rfl (S0.pickT rfl rfl) rfl <| wE <| WP.condT rfl <| WP.seq <| WP.region <| v0 (S0.assign rfl) rfl <| v0 (S0.assign rfl) rfl <| vE <| WP.ret <| ?_  -- ret
      refine r2 rfl rfl rfl ?_
      exact bad (by simp [askB, notT (show ¬ (0 ≤ now ∧ now ≤ 1099511627776) by omega)])
    · skip
      refine w0 rfl rfl rfl (S0.move rfl) rfl <| ?_  -- op t16 := call F32{rivulet/rivuletref17.top}() [if #6=False]
      refine wcd rfl rfl rfl (S1.callF rfl (top_spec) take0) rfl ?_
      refine w0 rfl rfl rfl (S0.cmp rfl rfl rfl) rfl <| w0 rfl rfl rfl (S0.pickF rfl rfl) rfl <| w0 rfl rfl rfl (S0.move rfl) rfl <| ?_  -- guard t19 (wants False) at t20 := move t0 [if #11=False]
      first | refine wcsP (t := 19) rfl (fun ht2 => ?_) (fun ht2 => ?_) | refine wcsN (t := 19) rfl (fun ht2 => ?_) (fun ht2 => ?_) | refine wcs (t := 19) rfl (fun ht2 => ?_) (fun ht2 => ?_)
      · skip
        refine wF rfl rfl rfl <| wF rfl rfl rfl <| wF rfl rfl rfl <| wF rfl rfl rfl <| wF rfl rfl rfl <| wF rfl rfl rfl <| w0 rfl rfl rfl (S0.pickT rfl rfl) rfl <| wE <| WP.condT rfl <| WP.seq <| WP.region <| v0 (S0.assign rfl) rfl <| v0 (S0.assign rfl) rfl <| vE <| WP.ret <| ?_  -- ret
        refine r2 rfl rfl rfl ?_
        exact bad (by simp [askB, notT (show ¬ (0 ≤ now ∧ now ≤ 1099511627776) by omega)])
      · skip
        refine w0 rfl rfl rfl (S0.move rfl) rfl <| w0 rfl rfl rfl (S0.nilCheck rfl) rfl <| w0 rfl rfl rfl (S0.fieldAddr rfl) rfl <| w0 rfl rfl rfl (S0.load rfl rfl) rfl <| ?_  -- op t24 := call F32{rivulet/rivuletref17.top}() [if #11=False]
        refine wcd rfl rfl rfl (S1.callF rfl (top_spec) take0) rfl ?_
        refine w0 rfl rfl rfl (S0.cmp rfl rfl rfl) rfl <| w0 rfl rfl rfl (S0.pickF rfl rfl) rfl <| wE <| ?_  -- cond
        first | refine WP.condP rfl (fun he => ?_) (fun he => ?_) | refine WP.condN rfl (fun he => ?_) (fun he => ?_) | refine WP.cond rfl (fun he => ?_) (fun he => ?_)
        · skip
          refine WP.seq <| WP.region <| v0 (S0.assign rfl) rfl <| v0 (S0.assign rfl) rfl <| vE <| WP.ret <| ?_  -- ret
          refine r2 rfl rfl rfl ?_
          exact bad (by simp [askB]; omega)
        · skip
          refine WP.skip <| WP.seq <| WP.region <| v0 (S0.move rfl) rfl <| v0 (S0.move rfl) rfl <| v0 (S0.nilCheck rfl) rfl <| v0 (S0.fieldAddr rfl) rfl <| v0 (S0.load rfl rfl) rfl <| v0 (S0.ari rfl rfl rfl (wrap_i64 (by omega))) rfl <| v0 (S0.nilCheck rfl) rfl <| v0 (S0.fieldAddr rfl) rfl <| vs (S1.store rfl rfl (by first | rfl | exact IsSl.cv (by assumption))) <| vE <| WP.seq <| WP.region <| v0 (S0.move rfl) rfl <| v0 (S0.nilCheck rfl) rfl <| v0 (S0.fieldAddr rfl) rfl <| vs (S1.store rfl rfl (by first | rfl | exact IsSl.cv (by assumption))) <| vE <| WP.seq <| WP.region <| v0 (S0.move rfl) rfl <| v0 (S0.move rfl) rfl <| v0 (S0.nilCheck rfl) rfl <| v0 (S0.fieldAddr rfl) rfl <| vs (S1.store rfl rfl (by first | rfl | exact IsSl.cv (by assumption))) <| vE <| WP.seq <| WP.region <| v0 (S0.move rfl) rfl <| v0 (S0.move rfl) rfl <| v0 (S0.nilCheck rfl) rfl <| v0 (S0.fieldAddr rfl) rfl <| vs (S1.store rfl rfl (by first | rfl | exact IsSl.cv (by assumption))) <| vE <| WP.seq <| WP.region <| v0 (S0.move rfl) rfl <| v0 (S0.nilCheck rfl) rfl <| v0 (S0.fieldAddr rfl) rfl <| v0 (S0.load rfl rfl) rfl <| v0 (S0.assign rfl) rfl <| v0 (S0.assign rfl) rfl <| vE <| WP.ret <| ?_  -- ret
          refine r2 rfl rfl rfl ?_
          have e : askB c p now = true := by
            have : decide (0 ≤ p) = true := decide_eq_true (by omega)
            have h2 : decide (c.epoch ≠ 1099511627776) = true := decide_eq_true (by omega)
            rw [askB, isT (by omega), this, h2]; rfl
          simp only [askV, askE, askC, e, if_true]; exact ⟨rfl, rfl⟩
theorem ragain_spec {b : Nat} {c : Ch} (hc : OkC c) (now : Int) : FN Try.prog 14 [.pointer (some ⟨b, 0, none⟩), .int .i64 now] [rchB b c] (is (.bool (againB c now)) [rchB b (againC c now)]) := by
  have h1 := hc.asked
  have h2 := hc.every
  have bad : againB c now = false → (is (.bool (againB c now)) [rchB b (againC c now)]) (.bool false) [rchB b c] := fun e => by simp only [againC, e, Bool.false_eq_true, if_false]; exact ⟨rfl, rfl⟩
  refine FN.intro 36 [(0, .pointer (some ⟨b, 0, none⟩)), (1, .int .i64 now)] Try.func14 rfl (enters Try.func14 (by kernel_rfl) rfl) Try.ntmps14 rfl rfl ?_
  refine WP.seq <| WP.region <| v0 (S0.assign rfl) rfl <| vE <| WP.seq <| WP.seq <| WP.drawP [0, 1, 2, 3, 4, 5, 6, 7, 8, 9, 10, 11, 12, 13, 14, 15, 16, 17, 18, 19, 20, 21, 22, 23, 24, 25, 26] mixed (by kernel_rfl) (by kernel_rfl) (by kernel_rfl) (take1 at0 take0) <| w0 rfl rfl rfl (S0.move rfl) rfl <| w0 rfl rfl rfl (S0.nilCheck rfl) rfl <| w0 rfl rfl rfl (S0.fieldAddr rfl) rfl <| w0 rfl rfl rfl (S0.load rfl rfl) rfl <| w0 rfl rfl rfl (S0.cmp rfl rfl rfl) rfl <| w0 rfl rfl rfl (S0.move rfl) rfl <| ?_  -- guard t10 (wants False) at t11 := move t1 [if #5=False]
  first | refine wcsP (t := 10) rfl (fun hs => ?_) (fun hs => ?_) | refine wcsN (t := 10) rfl (fun hs => ?_) (fun hs => ?_) | refine wcs (t := 10) rfl (fun hs => ?_) (fun hs => ?_)
  · skip
    refine wF rfl rfl rfl <| wF rfl rfl rfl <| w0 rfl rfl rfl (S0.pickT rfl rfl) rfl <| w0 rfl rfl rfl (S0.move rfl) rfl <| wF rfl rfl rfl <| wF rfl rfl rfl <| wF rfl rfl rfl <| w0 rfl rfl rfl (S0.pickT rfl rfl) rfl <| w0 rfl rfl rfl (S0.move rfl) rfl <| wF rfl rfl rfl <| wF rfl rfl rfl <| wF rfl rfl rfl <| wF rfl rfl rfl <| wF rfl rfl rfl <| wF rfl rfl rfl <| wF rfl rfl rfl <| wF rfl rfl rfl <| wF rfl rfl rfl <| wF rfl rfl rfl <| wF rfl rfl rfl <| w0 rfl rfl rfl (S0.pickT rfl rfl) rfl <| wE <| WP.condT rfl <| WP.seq <| WP.region <| v0 (S0.assign rfl) rfl <| vE <| WP.ret <| ?_  -- ret
    refine r1 rfl rfl ?_
    exact bad (by simp [againB, hs])
  · skip
    refine w0 rfl rfl rfl (S0.move rfl) rfl <| w0 rfl rfl rfl (S0.cmp rfl rfl rfl) rfl <| w0 rfl rfl rfl (S0.pickF rfl rfl) rfl <| w0 rfl rfl rfl (S0.move rfl) rfl <| ?_  -- guard t14 (wants False) at t15 := move t1 [if #9=False]
    first | refine wcsP (t := 14) rfl (fun ht => ?_) (fun ht => ?_) | refine wcsN (t := 14) rfl (fun ht => ?_) (fun ht => ?_) | refine wcs (t := 14) rfl (fun ht => ?_) (fun ht => ?_)
    · skip
      refine wF rfl rfl rfl <| wF rfl rfl rfl <| wF rfl rfl rfl <| w0 rfl rfl rfl (S0.pickT rfl rfl) rfl <| w0 rfl rfl rfl (S0.move rfl) rfl <| wF rfl rfl rfl <| wF rfl rfl rfl <| wF rfl rfl rfl <| wF rfl rfl rfl <| wF rfl rfl rfl <| wF rfl rfl rfl <| wF rfl rfl rfl <| wF rfl rfl rfl <| wF rfl rfl rfl <| wF rfl rfl rfl <| wF rfl rfl rfl <| w0 rfl rfl rfl (S0.pickT rfl rfl) rfl <| wE <| WP.condT rfl <| WP.seq <| WP.region <| v0 (S0.assign rfl) rfl <| vE <| WP.ret <| ?_  -- ret
      refine r1 rfl rfl ?_
      exact bad (by simp [againB, notT (show ¬ (0 ≤ now ∧ now ≤ 1099511627776) by omega)])
    · skip
      refine w0 rfl rfl rfl (S0.move rfl) rfl <| ?_  -- op t16 := call F32{rivulet/rivuletref17.top}() [if #9=False]
      refine wcd rfl rfl rfl (S1.callF rfl (top_spec) take0) rfl ?_
      refine w0 rfl rfl rfl (S0.cmp rfl rfl rfl) rfl <| w0 rfl rfl rfl (S0.pickF rfl rfl) rfl <| w0 rfl rfl rfl (S0.move rfl) rfl <| ?_  -- guard t19 (wants False) at t20 := move t1 [if #14=False]
      first | refine wcsP (t := 19) rfl (fun ht2 => ?_) (fun ht2 => ?_) | refine wcsN (t := 19) rfl (fun ht2 => ?_) (fun ht2 => ?_) | refine wcs (t := 19) rfl (fun ht2 => ?_) (fun ht2 => ?_)
      · skip
        refine wF rfl rfl rfl <| wF rfl rfl rfl <| wF rfl rfl rfl <| wF rfl rfl rfl <| wF rfl rfl rfl <| wF rfl rfl rfl <| wF rfl rfl rfl <| wF rfl rfl rfl <| wF rfl rfl rfl <| wF rfl rfl rfl <| wF rfl rfl rfl <| w0 rfl rfl rfl (S0.pickT rfl rfl) rfl <| wE <| WP.condT rfl <| WP.seq <| WP.region <| v0 (S0.assign rfl) rfl <| vE <| WP.ret <| ?_  -- ret
        refine r1 rfl rfl ?_
        exact bad (by simp [againB, notT (show ¬ (0 ≤ now ∧ now ≤ 1099511627776) by omega)])
      · skip
        refine w0 rfl rfl rfl (S0.move rfl) rfl <| w0 rfl rfl rfl (S0.move rfl) rfl <| w0 rfl rfl rfl (S0.nilCheck rfl) rfl <| w0 rfl rfl rfl (S0.fieldAddr rfl) rfl <| w0 rfl rfl rfl (S0.load rfl rfl) rfl <| w0 rfl rfl rfl (S0.move rfl) rfl <| w0 rfl rfl rfl (S0.nilCheck rfl) rfl <| w0 rfl rfl rfl (S0.fieldAddr rfl) rfl <| w0 rfl rfl rfl (S0.load rfl rfl) rfl <| w0 rfl rfl rfl (S0.ari rfl rfl rfl (wrap_i64 (by omega))) rfl <| w0 rfl rfl rfl (S0.cmp rfl rfl rfl) rfl <| w0 rfl rfl rfl (S0.pickF rfl rfl) rfl <| wE <| ?_  -- cond
        first | refine WP.condP rfl (fun hd => ?_) (fun hd => ?_) | refine WP.condN rfl (fun hd => ?_) (fun hd => ?_) | refine WP.cond rfl (fun hd => ?_) (fun hd => ?_)
        · skip
          refine WP.seq <| WP.region <| v0 (S0.assign rfl) rfl <| vE <| WP.ret <| ?_  -- ret
          refine r1 rfl rfl ?_
          exact bad (by have : decide (c.every ≤ now - c.asked) = false := decide_eq_false (by omega)
                        simp [againB, this])
        · skip
          refine WP.skip <| WP.seq <| WP.region <| v0 (S0.move rfl) rfl <| v0 (S0.move rfl) rfl <| v0 (S0.nilCheck rfl) rfl <| v0 (S0.fieldAddr rfl) rfl <| vs (S1.store rfl rfl (by first | rfl | exact IsSl.cv (by assumption))) <| vE <| WP.seq <| WP.region <| v0 (S0.assign rfl) rfl <| vE <| WP.ret <| ?_  -- ret
          refine r1 rfl rfl ?_
          have e : againB c now = true := by
            have h3 : decide (c.every ≤ now - c.asked) = true := decide_eq_true (by omega)
            rw [againB, isT (by omega), h3, decide_eq_true hs]; rfl
          simp only [againC, e, if_true]; exact ⟨rfl, rfl⟩
theorem rwel_spec {b : Nat} (c : Ch) (fr ep : Int) : FN Try.prog 16 [.pointer (some ⟨b, 0, none⟩), .int .i64 fr, .int .i64 ep] [rchB b c] (is (.int .i64 (welE c fr ep)) [rchB b (welC c fr ep)]) := by
  have bad : ∀ e, welE c fr ep = e → e ≠ 0 → (is (.int .i64 (welE c fr ep)) [rchB b (welC c fr ep)]) (.int .i64 e) [rchB b c] := fun e he h0 => by
    subst he; rw [welC, if_neg h0]; exact ⟨rfl, rfl⟩
  refine FN.intro 35 [(0, .pointer (some ⟨b, 0, none⟩)), (1, .int .i64 fr), (2, .int .i64 ep)] Try.func16 rfl (enters Try.func16 (by kernel_rfl) rfl) Try.ntmps16 rfl rfl ?_
  refine WP.seq <| WP.region <| v0 (S0.assign rfl) rfl <| vE <| WP.seq <| WP.seq <| WP.region <| v0 (S0.move rfl) rfl <| v0 (S0.nilCheck rfl) rfl <| v0 (S0.fieldAddr rfl) rfl <| v0 (S0.load rfl rfl) rfl <| v0 (S0.cmp rfl rfl rfl) rfl <| v0 (S0.move rfl) rfl <| ?_  -- guard t12 (wants False) at t13 := move t1 [if #5=False]
  first | refine csP (t := 12) rfl (fun h0 => ?_) (fun h0 => ?_) | refine csN (t := 12) rfl (fun h0 => ?_) (fun h0 => ?_) | refine cs (t := 12) rfl (fun h0 => ?_) (fun h0 => ?_)
  · skip
    refine gF rfl rfl <| gF rfl rfl <| gF rfl rfl <| gF rfl rfl <| gF rfl rfl <| gF rfl rfl <| v0 (S0.pickT rfl rfl) rfl <| vE <| WP.condT rfl <| WP.seq <| WP.region <| v0 (S0.assign rfl) rfl <| vE <| WP.ret <| ?_  -- ret
    refine r1 rfl rfl ?_
    exact bad 10 (by simp [welE, h0]) (by decide)
  · skip
    refine gT rfl <| v0 (S0.move rfl) rfl <| gT rfl <| v0 (S0.move rfl) rfl <| gT rfl <| v0 (S0.nilCheck rfl) rfl <| gT rfl <| v0 (S0.fieldAddr rfl) rfl <| gT rfl <| v0 (S0.load rfl rfl) rfl <| gT rfl <| v0 (S0.cmp rfl rfl rfl) rfl <| v0 (S0.pickF rfl rfl) rfl <| vE <| ?_  -- cond
    first | refine WP.condP rfl (fun h1 => ?_) (fun h1 => ?_) | refine WP.condN rfl (fun h1 => ?_) (fun h1 => ?_) | refine WP.cond rfl (fun h1 => ?_) (fun h1 => ?_)
    · skip
      refine WP.seq <| WP.region <| v0 (S0.assign rfl) rfl <| vE <| WP.ret <| ?_  -- ret
      refine r1 rfl rfl ?_
      exact bad 10 (by simp [welE, h1]) (by decide)
    · skip
      refine WP.skip <| WP.seq <| WP.seq <| WP.region <| v0 (S0.move rfl) rfl <| v0 (S0.move rfl) rfl <| v0 (S0.nilCheck rfl) rfl <| v0 (S0.fieldAddr rfl) rfl <| v0 (S0.load rfl rfl) rfl <| v0 (S0.cmp rfl rfl rfl) rfl <| vE <| ?_  -- cond
      first | refine WP.condP rfl (fun h2 => ?_) (fun h2 => ?_) | refine WP.condN rfl (fun h2 => ?_) (fun h2 => ?_) | refine WP.cond rfl (fun h2 => ?_) (fun h2 => ?_)
      · skip
        refine WP.seq <| WP.region <| v0 (S0.assign rfl) rfl <| vE <| WP.ret <| ?_  -- ret
        refine r1 rfl rfl ?_
        exact bad 11 (by rw [welE, if_pos ⟨h0, h1⟩, if_pos h2]) (by decide)
      · skip
        refine WP.skip <| WP.seq <| WP.seq <| WP.region <| v0 (S0.move rfl) rfl <| v0 (S0.move rfl) rfl <| v0 (S0.nilCheck rfl) rfl <| v0 (S0.fieldAddr rfl) rfl <| v0 (S0.load rfl rfl) rfl <| v0 (S0.cmp rfl rfl rfl) rfl <| vE <| ?_  -- cond
        first | refine WP.condP rfl (fun h3 => ?_) (fun h3 => ?_) | refine WP.condN rfl (fun h3 => ?_) (fun h3 => ?_) | refine WP.cond rfl (fun h3 => ?_) (fun h3 => ?_)
        · skip
          refine WP.seq <| WP.region <| v0 (S0.assign rfl) rfl <| vE <| WP.ret <| ?_  -- ret
          refine r1 rfl rfl ?_
          exact bad 8 (by rw [welE, if_pos ⟨h0, h1⟩, if_neg h2, if_pos h3]) (by decide)
        · skip
          refine WP.skip <| WP.seq <| WP.region <| v0 (S0.move rfl) rfl <| v0 (S0.nilCheck rfl) rfl <| v0 (S0.fieldAddr rfl) rfl <| vs (S1.store rfl rfl (by first | rfl | exact IsSl.cv (by assumption))) <| vE <| WP.seq <| WP.region <| v0 (S0.assign rfl) rfl <| vE <| WP.ret <| ?_  -- ret
          refine r1 rfl rfl ?_
          have e : welE c fr ep = 0 := by rw [welE, if_pos ⟨h0, h1⟩, if_neg h2, if_neg h3]
          rw [welC, if_pos e, e]; exact ⟨rfl, rfl⟩
theorem rlose_spec {b : Nat} {c : Ch} (hc : OkC c) : FN Try.prog 18 [.pointer (some ⟨b, 0, none⟩)] [rchB b c] (is (.bool (loseB c)) [rchB b (loseC c)]) := by
  have h := hc.state
  refine FN.intro 16 [(0, .pointer (some ⟨b, 0, none⟩))] Try.func18 rfl (enters Try.func18 (by kernel_rfl) rfl) Try.ntmps18 rfl rfl ?_
  refine WP.seq <| WP.region <| v0 (S0.assign rfl) rfl <| vE <| WP.seq <| WP.region <| v0 (S0.move rfl) rfl <| v0 (S0.nilCheck rfl) rfl <| v0 (S0.fieldAddr rfl) rfl <| v0 (S0.load rfl rfl) rfl <| v0 (S0.cmp rfl rfl rfl) rfl <| v0 (S0.assign rfl) rfl <| vE <| WP.seq <| WP.region <| v0 (S0.move rfl) rfl <| v0 (S0.nilCheck rfl) rfl <| v0 (S0.fieldAddr rfl) rfl <| vs (S1.store rfl rfl (by first | rfl | exact IsSl.cv (by assumption))) <| vE <| WP.seq <| WP.region <| v0 (S0.move rfl) rfl <| v0 (S0.nilCheck rfl) rfl <| v0 (S0.fieldAddr rfl) rfl <| vs (S1.store rfl rfl (by first | rfl | exact IsSl.cv (by assumption))) <| vE <| WP.seq <| WP.region <| v0 (S0.move rfl) rfl <| v0 (S0.assign rfl) rfl <| vE <| WP.ret <| ?_  -- ret
  refine r1 rfl rfl ?_
  refine ⟨?_, rfl⟩
  have e : decide (0 < c.state) = loseB c := by
    unfold loseB
    rcases h with h | h | h <;> rw [h] <;> rfl
  rw [e]

abbrev enB (x : Int × Int) : List Value := [.int .i64 x.1, .int .i64 x.2]
theorem enB_len (x : Int × Int) : (enB x).length = 1 + 1 := rfl
def IsRH (b : Nat) (R : BM) (c : List Blk) : Prop := ∃ v row, IsSl 65 2 v (R.flatMap enB) row ∧ c = (b, cel [v] 35) :: row

theorem rhepoch_spec {b : Nat} {R : BM} {c : List Blk} (hc : IsRH b R c) (hl : R.length ≤ 1000000) (k : Int) :
    FN Try.prog 27 [.pointer (some ⟨b, 0, none⟩), .int .i64 k] [c] (is (.int .i64 (epB R k)) [c]) := by
  obtain ⟨v, row, hsl, rfl⟩ := hc
  obtain ⟨a, cap, rfl, hcap, hrow⟩ := IsSl.elems (k := 1) enB_len hsl
  refine FN.intro 33 [(0, .pointer (some ⟨b, 0, none⟩)), (1, .int .i64 k)] Try.func27 rfl (enters Try.func27 (by kernel_rfl) rfl) Try.ntmps27 rfl rfl ?_
  refine WP.seq <| WP.region <| v0 (S0.assign rfl) rfl <| vE <| WP.seq <| WP.seq <| WP.region <| v0 (S0.assign rfl) rfl <| vE <| WP.block <| ?_  -- Code.loop
  refine WP.loop (fun i : Nat => i ≤ R.length ∧ ∀ j y, j < i → R[j]? = some y → y.1 ≠ k) (fun i : Nat => [(0, .pointer (some ⟨b, 0, none⟩)), (1, .int .i64 k), (5, .int .i64 (i : Int))]) (fun i : Nat => [(b, cel [.slice a R.length cap] 35) :: row]) (fun i : Nat => R.length - i) (0) (⟨by omega, fun j y hj => by omega⟩) ⟨rfl, rfl, rfl, trivial⟩ ⟨_, (take1 at0 take0)⟩ (fun i hinv => ?_) 
  obtain ⟨hi, hno⟩ := hinv
  refine WP.seq <| WP.seq <| WP.region <| v0 (S0.move rfl) rfl <| v0 (S0.move rfl) rfl <| v0 (S0.nilCheck rfl) rfl <| v0 (S0.fieldAddr rfl) rfl <| v0 (S0.load rfl rfl) rfl <| v0 (S0.lenSl rfl) rfl <| v0 (S0.cmp rfl rfl rfl) rfl <| vE <| ?_  -- cond
  first | refine WP.condP rfl (fun h1 => ?_) (fun h1 => ?_) | refine WP.condN rfl (fun h1 => ?_) (fun h1 => ?_) | refine WP.cond rfl (fun h1 => ?_) (fun h1 => ?_)
  · skip
    refine WP.skip <| WP.seq <| WP.block <| WP.seq <| WP.region <| v0 (S0.move rfl) rfl <| v0 (S0.nilCheck rfl) rfl <| v0 (S0.fieldAddr rfl) rfl <| v0 (S0.load rfl rfl) rfl <| v0 (S0.move rfl) rfl <| ?_  -- op t20 := indexAddr 33 t18 t19
    rcases hrow with ⟨rfl, -⟩ | ⟨br, sp, rfl, rfl, hsp⟩
    · simp at h1; omega
    have hlt : i < R.length := by omega
    have hx : R[i]? = some R[i] := by simp [hlt]
    refine v0 (S0.indexN rfl rfl hlt) rfl <| ?_
    refine v0 (S0.fieldAddr rfl) rfl <| ?_  -- limit
    refine v0 (S0.load rfl (flat_get (k := 2) enB_len sp R i 0 _ hx (by omega))) rfl <| ?_
    refine v0 (S0.move rfl) rfl <| v0 (S0.cmp rfl rfl rfl) rfl <| vE <| ?_  -- cond
    first | refine WP.condP rfl (fun h2 => ?_) (fun h2 => ?_) | refine WP.condN rfl (fun h2 => ?_) (fun h2 => ?_) | refine WP.cond rfl (fun h2 => ?_) (fun h2 => ?_)
    · skip
      refine WP.seq <| WP.region <| v0 (S0.move rfl) rfl <| v0 (S0.nilCheck rfl) rfl <| v0 (S0.fieldAddr rfl) rfl <| v0 (S0.load rfl rfl) rfl <| v0 (S0.move rfl) rfl <| ?_  -- op t30 := indexAddr 33 t28 t29
      refine v0 (S0.indexN rfl rfl hlt) rfl <| ?_
      refine v0 (S0.fieldAddr rfl) rfl <| ?_  -- limit
      refine v0 (S0.load rfl (flat_get (k := 2) enB_len sp R i 1 _ hx (by omega))) rfl <| ?_
      refine v0 (S0.assign rfl) rfl <| vE <| WP.ret <| ?_  -- ret
      refine r1 rfl rfl ?_
      have e : epB R k = R[i].2 := by rw [epB, gB_at hno hx h2]; rfl
      rw [e]
      exact ⟨rfl, rfl⟩
    · skip
      refine WP.skip <| WP.region <| v0 (S0.move rfl) rfl <| v0 (S0.ari rfl rfl rfl (wrap_i64 (by omega))) rfl <| v0 (S0.assign rfl) rfl <| vE <| ?_  -- roundend
      exact ⟨i + 1, (by first | exact ⟨by omega, below_succ (p := fun y => y.1 ≠ k) hno hx h2⟩ | (dsimp only; exact ⟨by omega, below_succ (p := fun y => y.1 ≠ k) hno hx h2⟩)), (by omega), ⟨⟨rfl, rfl, rfl, trivial⟩, rfl, rfl⟩, ⟨_, (take1 at0 take0)⟩⟩
  · skip
    refine WP.exit <| WP.seq <| WP.region <| v0 (S0.assign rfl) rfl <| vE <| WP.ret <| ?_  -- ret
    refine r1 rfl rfl ?_
    have e : epB R k = 0 := by rw [epB, gB_no fun j y hj => hno j y (by omega)]; rfl
    rw [e]
    exact ⟨rfl, rfl⟩

theorem rhids_spec {b : Nat} {R : BM} {c : List Blk} (hc : IsRH b R c) (hn : R.length ≤ 1000000) :
    FN Try.prog 30 [.pointer (some ⟨b, 0, none⟩)] [c] (fun v h => ∃ row, IsSl 3 1 v (ints (idsB R)) row ∧ h = [row, c]) := by
  obtain ⟨v, row, hsl, rfl⟩ := hc
  obtain ⟨a, cap, rfl, hcap, hrow⟩ := IsSl.elems (k := 1) enB_len hsl
  refine FN.intro 27 [(0, .pointer (some ⟨b, 0, none⟩))] Try.func30 rfl (enters Try.func30 (by kernel_rfl) rfl) Try.ntmps30 rfl rfl ?_
  refine WP.seq <| WP.region <| v0 (S0.assign rfl) rfl <| vE <| WP.seq <| WP.region <| vnv (S1.buildSlice rfl (qs := []) rfl rfl) rfl fun b5 => v0 (S0.assign rfl) rfl <| vE <| WP.seq <| WP.seq <| WP.region <| v0 (S0.assign rfl) rfl <| vE <| WP.block <| ?_  -- Code.loop
  refine WP.loop (fun s : Nat × Value × List Blk => s.1 ≤ R.length ∧ IsSl 3 1 s.2.1 (ints (idsB (R.take s.1))) s.2.2) (fun s : Nat × Value × List Blk => [(0, .pointer (some ⟨b, 0, none⟩)), (3, s.2.1), (4, .int .i64 (s.1 : Int))]) (fun s : Nat × Value × List Blk => s.2.2 :: [(b, cel [.slice a R.length cap] 35) :: row]) (fun s : Nat × Value × List Blk => R.length - s.1) ((0, _, [(b5, .cells ⟨[]⟩ 3 (0, 0))])) (⟨by omega, IsSl.row (n := 0) (c := 0) (l := []) (sp := []) rfl rfl (by omega)⟩) ⟨rfl, rfl, rfl, trivial⟩ ⟨_, (take1 at0 (take1 at0 take0))⟩ (fun s hinv => ?_) 
  obtain ⟨i, lv, lrow⟩ := s
  obtain ⟨hi, hlsl⟩ := hinv
  dsimp only at hi hlsl ⊢
  refine WP.seq <| WP.seq <| WP.region <| v0 (S0.move rfl) rfl <| v0 (S0.move rfl) rfl <| v0 (S0.nilCheck rfl) rfl <| v0 (S0.fieldAddr rfl) rfl <| v0 (S0.load rfl rfl) rfl <| v0 (S0.lenSl rfl) rfl <| v0 (S0.cmp rfl rfl rfl) rfl <| vE <| ?_  -- cond
  first | refine WP.condP rfl (fun h1 => ?_) (fun h1 => ?_) | refine WP.condN rfl (fun h1 => ?_) (fun h1 => ?_) | refine WP.cond rfl (fun h1 => ?_) (fun h1 => ?_)
  · skip
    rcases hrow with ⟨rfl, -⟩ | ⟨br, sp, rfl, rfl, hsp⟩
    · simp at h1; omega
    have hlt : i < R.length := by omega
    have hx : R[i]? = some R[i] := by simp [hlt]
    refine WP.skip <| WP.seq <| WP.block <| WP.region <| v0 (S0.move rfl) rfl <| v0 (S0.move rfl) rfl <| v0 (S0.nilCheck rfl) rfl <| v0 (S0.fieldAddr rfl) rfl <| v0 (S0.load rfl rfl) rfl <| v0 (S0.move rfl) rfl <| ?_  -- op t21 := indexAddr 33 t19 t20
    refine v0 (S0.indexN rfl rfl hlt) rfl <| ?_
    refine v0 (S0.fieldAddr rfl) rfl <| ?_  -- limit
    refine v0 (S0.load rfl (flat_get (k := 2) enB_len sp R i 0 _ hx (by omega))) rfl <| ?_
    refine vnv (S1.buildSlice rfl (qs := [(0, _)]) rfl rfl) rfl fun b24 => ?_  -- op t25 := append(t15, t24) :[52, 52]
    refine ve (S1.appendL rfl hlsl rfl rfl (atS at0) rfl rfl (by simp [ints, idsB]; omega)) rfl ?_
    rintro v2 _ ⟨row2, hsl2, rfl⟩
    refine v0 (S0.assign rfl) rfl <| vE <| WP.region <| v0 (S0.move rfl) rfl <| v0 (S0.ari rfl rfl rfl (wrap_i64 (by omega))) rfl <| v0 (S0.assign rfl) rfl <| vE <| ?_  -- roundend
    have hsl3 : IsSl 3 1 v2 (ints (idsB (R.take (i + 1)))) row2 := by
      have e : ints (idsB (R.take (i + 1))) = ints (idsB (R.take i)) ++ [.int .i64 R[i].1] := by rw [List.take_add_one, hx]; simp only [Option.toList, idsB, ints, List.map_append, List.map_cons, List.map_nil]
      rw [e]; exact hsl2
    exact ⟨(i + 1, v2, row2), (by first | exact ⟨hlt, hsl3⟩ | (dsimp only; exact ⟨hlt, hsl3⟩)), (show R.length - (i + 1) < R.length - i by omega), ⟨⟨rfl, rfl, rfl, trivial⟩, rfl, rfl⟩, ⟨_, (take1 at0 (take1 (atS at0) take0))⟩⟩
  · skip
    refine WP.exit <| WP.seq <| WP.region <| v0 (S0.move rfl) rfl <| v0 (S0.assign rfl) rfl <| vE <| WP.ret <| ?_  -- ret
    refine r1 rfl rfl ?_
    refine ⟨lrow, ?_, rfl⟩
    rw [List.take_of_length_le (by omega)] at hlsl
    exact hlsl

theorem rhdrop_spec {b : Nat} {R : BM} {c : List Blk} (hc : IsRH b R c) (ho : OkB R) (hl : R.length ≤ 1000000) (k : Int) :
    FN Try.prog 22 [.pointer (some ⟨b, 0, none⟩), .int .i64 k] [c] (fun v h => v = .bool (gB R k).isSome ∧ ∃ c', h = [c'] ∧ IsRH b (delB R k) c') := by
  obtain ⟨v, row, hsl, rfl⟩ := hc
  obtain ⟨a, cap, rfl, hcap, hrow⟩ := IsSl.elems (k := 1) enB_len hsl
  refine FN.intro 51 [(0, .pointer (some ⟨b, 0, none⟩)), (1, .int .i64 k)] Try.func22 rfl (enters Try.func22 (by kernel_rfl) rfl) Try.ntmps22 rfl rfl ?_
  refine WP.seq <| WP.region <| v0 (S0.assign rfl) rfl <| vE <| WP.seq <| WP.region <| vnv (S1.buildSlice rfl (qs := []) rfl rfl) rfl fun b8 => v0 (S0.assign rfl) rfl <| vE <| WP.seq <| WP.seq <| WP.region <| v0 (S0.assign rfl) rfl <| vE <| WP.block <| ?_  -- Code.loop
  refine WP.loop (fun s : Nat × Value × List Blk => s.1 ≤ R.length ∧ IsSl 65 2 s.2.1 (((R.take s.1).filter fun x => !decide (x.1 = k)).flatMap enB) s.2.2) (fun s : Nat × Value × List Blk => [(0, .pointer (some ⟨b, 0, none⟩)), (1, .int .i64 k), (5, s.2.1), (6, .int .i64 (s.1 : Int))]) (fun s : Nat × Value × List Blk => s.2.2 :: [(b, cel [.slice a R.length cap] 35)] :: row :: []) (fun s : Nat × Value × List Blk => R.length - s.1) ((0, _, [(b8, .cells ⟨[]⟩ 65 (0, 0))])) (⟨by omega, IsSl.row (n := 0) (c := 0) (l := []) (sp := []) rfl rfl (by omega)⟩) ⟨rfl, rfl, rfl, rfl, trivial⟩ ⟨[], List.Perm.of_eq (by simp)⟩ (fun s hinv => ?_) 
  obtain ⟨i, lv, lrow⟩ := s
  obtain ⟨hi, hlsl⟩ := hinv
  dsimp only at hi hlsl ⊢
  have hfl : (((R.take i).filter fun x => !decide (x.1 = k)).flatMap enB).length ≤ 2000000 := by
    rw [flat_len enB_len]
    have := List.length_filter_le (fun x : Int × Int => !decide (x.1 = k)) (R.take i)
    rw [List.length_take] at this
    omega
  refine WP.seq <| WP.seq <| WP.region <| v0 (S0.move rfl) rfl <| v0 (S0.move rfl) rfl <| v0 (S0.nilCheck rfl) rfl <| v0 (S0.fieldAddr rfl) rfl <| v0 (S0.load rfl rfl) rfl <| v0 (S0.lenSl rfl) rfl <| v0 (S0.cmp rfl rfl rfl) rfl <| vE <| ?_  -- cond
  first | refine WP.condP rfl (fun h1 => ?_) (fun h1 => ?_) | refine WP.condN rfl (fun h1 => ?_) (fun h1 => ?_) | refine WP.cond rfl (fun h1 => ?_) (fun h1 => ?_)
  · skip
    rcases hrow with ⟨rfl, -⟩ | ⟨br, sp, rfl, rfl, hsp⟩
    · simp at h1; omega
    have hlt : i < R.length := by omega
    have hx : R[i]? = some R[i] := by simp [hlt]
    refine WP.skip <| WP.seq <| WP.block <| WP.seq <| WP.region <| v0 (S0.move rfl) rfl <| v0 (S0.nilCheck rfl) rfl <| v0 (S0.fieldAddr rfl) rfl <| v0 (S0.load rfl rfl) rfl <| v0 (S0.move rfl) rfl <| ?_  -- op t23 := indexAddr 33 t21 t22
    refine v0 (S0.indexN rfl rfl hlt) rfl <| ?_
    refine v0 (S0.fieldAddr rfl) rfl <| ?_  -- limit
    refine v0 (S0.load rfl (flat_get (k := 2) enB_len sp R i 0 _ hx (by omega))) rfl <| ?_
    refine v0 (S0.move rfl) rfl <| v0 (S0.cmp rfl rfl rfl) rfl <| vE <| ?_  -- cond
    first | refine WP.condP rfl (fun h2 => ?_) (fun h2 => ?_) | refine WP.condN rfl (fun h2 => ?_) (fun h2 => ?_) | refine WP.cond rfl (fun h2 => ?_) (fun h2 => ?_)
    · skip
      refine WP.region <| v0 (S0.move rfl) rfl <| v0 (S0.move rfl) rfl <| v0 (S0.nilCheck rfl) rfl <| v0 (S0.fieldAddr rfl) rfl <| v0 (S0.load rfl rfl) rfl <| v0 (S0.move rfl) rfl <| ?_  -- op t34 := indexAddr 33 t32 t33
      refine v0 (S0.indexN rfl rfl hlt) rfl <| ?_
      refine v0 (S0.loadA (vs := enB R[i]) rfl (flat_take (k := 2) enB_len sp R i _ hx) rfl) rfl <| ?_
      refine vnv (S1.buildSlice rfl (qs := [(0, _)]) rfl rfl) rfl fun b36 => ?_  -- op t37 := append(t28, t36) :[33, 33]
      refine ve (S1.appendL rfl hlsl rfl rfl (atS at0) rfl rfl (by simp only [List.length_cons, List.length_nil]; omega)) rfl ?_
      rintro v2 _ ⟨row2, hsl2, rfl⟩
      refine v0 (S0.assign rfl) rfl <| vE <| WP.region <| v0 (S0.move rfl) rfl <| v0 (S0.ari rfl rfl rfl (wrap_i64 (by omega))) rfl <| v0 (S0.assign rfl) rfl <| vE <| ?_  -- roundend
      have e : ((R.take (i + 1)).filter fun x => !decide (x.1 = k)).flatMap enB = ((R.take i).filter fun x => !decide (x.1 = k)).flatMap enB ++ enB R[i] := by
        rw [List.take_add_one, hx, List.filter_append, List.flatMap_append]
        simp [h2]
      exact ⟨(i + 1, v2, row2), (by first | exact ⟨hlt, by rw [e]; exact hsl2⟩ | (dsimp only; exact ⟨hlt, by rw [e]; exact hsl2⟩)), (show R.length - (i + 1) < R.length - i by omega), ⟨⟨rfl, rfl, rfl, rfl, trivial⟩, rfl, rfl⟩, ⟨_, (take1 at0 (take1 (atS at0) (take1 (atS at0) take0)))⟩⟩
    · skip
      refine WP.skip <| WP.region <| v0 (S0.move rfl) rfl <| v0 (S0.ari rfl rfl rfl (wrap_i64 (by omega))) rfl <| v0 (S0.assign rfl) rfl <| vE <| ?_  -- roundend
      have e : ((R.take (i + 1)).filter fun x => !decide (x.1 = k)) = ((R.take i).filter fun x => !decide (x.1 = k)) := by
        rw [List.take_add_one, hx, List.filter_append]
        have h2' : R[i].1 = k := by simpa using h2
        simp [h2']
      exact ⟨(i + 1, lv, lrow), (by first | exact ⟨hlt, by rw [e]; exact hlsl⟩ | (dsimp only; exact ⟨hlt, by rw [e]; exact hlsl⟩)), (show R.length - (i + 1) < R.length - i by omega), ⟨⟨rfl, rfl, rfl, rfl, trivial⟩, rfl, rfl⟩, ⟨_, (take1 at0 (take1 at0 (take1 at0 take0)))⟩⟩
  · skip
    rw [List.take_of_length_le (by omega), filter_del ho] at hlsl
    obtain ⟨al, capl, rfl, -, -⟩ := IsSl.elems (k := 1) enB_len hlsl
    refine WP.exit <| WP.seq <| WP.region <| v0 (S0.move rfl) rfl <| v0 (S0.lenSl rfl) rfl <| v0 (S0.move rfl) rfl <| v0 (S0.nilCheck rfl) rfl <| v0 (S0.fieldAddr rfl) rfl <| v0 (S0.load rfl rfl) rfl <| v0 (S0.lenSl rfl) rfl <| v0 (S0.cmp rfl rfl rfl) rfl <| v0 (S0.assign rfl) rfl <| vE <| WP.seq <| WP.region <| v0 (S0.move rfl) rfl <| v0 (S0.move rfl) rfl <| v0 (S0.nilCheck rfl) rfl <| v0 (S0.fieldAddr rfl) rfl <| vs (S1.store rfl rfl (by first | rfl | exact IsSl.cv (by assumption))) <| vE <| WP.seq <| WP.region <| v0 (S0.move rfl) rfl <| v0 (S0.assign rfl) rfl <| vE <| WP.ret <| ?_  -- ret
    refine Leaves.drop (take1 (atS at0) (take1 at0 take0)) ?_
    refine Leaves.drop (h' := [(b, cel [.slice al (delB R k).length capl] 35) :: lrow]) (k := []) (List.Perm.of_eq (by first | rfl | simp)) ?_
    refine r1 rfl rfl ?_
    refine ⟨?_, _, rfl, _, _, hlsl, rfl⟩
    have e : decide (((delB R k).length : Int) < (R.length : Int)) = (gB R k).isSome := by
      rw [Bool.eq_iff_iff, decide_eq_true_eq, ← del_lt (R := R) (k := k)]; omega
    rw [e]

theorem rhopen_spec {b : Nat} {R : BM} {c : List Blk} (hc : IsRH b R c) (ho : OkB R) (hl : R.length ≤ 1000000) (k e : Int) :
    FN Try.prog 20 [.pointer (some ⟨b, 0, none⟩), .int .i64 k, .int .i64 e] [c] (fun v h => v = .tuple ⟨[.bool (openB R k e), .int .i64 (openE R k e)]⟩ ∧ ∃ c', h = [c'] ∧ IsRH b (openR R k e) c') := by
  have bad : ∀ x, openE R k e = x → x ≠ 0 → (fun (v : Value) (h : Hp) => v = .tuple ⟨[.bool (openB R k e), .int .i64 (openE R k e)]⟩ ∧ ∃ c', h = [c'] ∧ IsRH b (openR R k e) c') (.tuple ⟨[.bool false, .int .i64 x]⟩) [c] := fun x hx h0 => by
    subst hx
    refine ⟨by simp [openB, h0], _, rfl, ?_⟩
    rw [openR, if_neg h0]
    exact hc
  refine FN.intro 84 [(0, .pointer (some ⟨b, 0, none⟩)), (1, .int .i64 k), (2, .int .i64 e)] Try.func20 rfl (enters Try.func20 (by kernel_rfl) rfl) Try.ntmps20 rfl rfl ?_
  refine WP.seq <| WP.region <| v0 (S0.assign rfl) rfl <| v0 (S0.assign rfl) rfl <| vE <| WP.seq <| WP.seq <| WP.region <| v0 (S0.move rfl) rfl <| v0 (S0.cmp rfl rfl rfl) rfl <| v0 (S0.move rfl) rfl <| ?_  -- guard t13 (wants False) at t14 := move t2 [if #2=False]
  first | refine csP (t := 13) rfl (fun h1 => ?_) (fun h1 => ?_) | refine csN (t := 13) rfl (fun h1 => ?_) (fun h1 => ?_) | refine cs (t := 13) rfl (fun h1 => ?_) (fun h1 => ?_)
  · skip
    refine gF rfl rfl <| gF rfl rfl <| v0 (S0.pickT rfl rfl) rfl <| v0 (S0.move rfl) rfl <| gF rfl rfl <| gF rfl rfl <| gF rfl rfl <| v0 (S0.pickT rfl rfl) rfl <| vE <| WP.condT rfl <| WP.seq <| WP.region <| v0 (S0.assign rfl) rfl <| v0 (S0.assign rfl) rfl <| vE <| WP.ret <| ?_  -- ret
    refine r2 rfl rfl rfl ?_
    exact bad 1 (by rw [openE, if_neg (by omega)]) (by decide)
  · skip
    refine gT rfl <| v0 (S0.move rfl) rfl <| gT rfl <| v0 (S0.cmp rfl rfl rfl) rfl <| v0 (S0.pickF rfl rfl) rfl <| v0 (S0.move rfl) rfl <| ?_  -- guard t17 (wants False) at t18 := move t2 [if #6=False]
    first | refine csP (t := 17) rfl (fun h2 => ?_) (fun h2 => ?_) | refine csN (t := 17) rfl (fun h2 => ?_) (fun h2 => ?_) | refine cs (t := 17) rfl (fun h2 => ?_) (fun h2 => ?_)
    · skip
      refine gF rfl rfl <| gF rfl rfl <| gF rfl rfl <| v0 (S0.pickT rfl rfl) rfl <| vE <| WP.condT rfl <| WP.seq <| WP.region <| v0 (S0.assign rfl) rfl <| v0 (S0.assign rfl) rfl <| vE <| WP.ret <| ?_  -- ret
      refine r2 rfl rfl rfl ?_
      exact bad 1 (by rw [openE, if_neg (by omega)]) (by decide)
    · skip
      refine gT rfl <| v0 (S0.move rfl) rfl <| ?_  -- op t19 := call F32{rivulet/rivuletref17.top}() [if #6=False]
      refine gT rfl <| vcd (S1.callF rfl (top_spec) take0) rfl ?_
      refine gT rfl <| v0 (S0.cmp rfl rfl rfl) rfl <| v0 (S0.pickF rfl rfl) rfl <| vE <| ?_  -- cond
      first | refine WP.condP rfl (fun h3 => ?_) (fun h3 => ?_) | refine WP.condN rfl (fun h3 => ?_) (fun h3 => ?_) | refine WP.cond rfl (fun h3 => ?_) (fun h3 => ?_)
      · skip
        refine WP.seq <| WP.region <| v0 (S0.assign rfl) rfl <| v0 (S0.assign rfl) rfl <| vE <| WP.ret <| ?_  -- ret
        refine r2 rfl rfl rfl ?_
        exact bad 1 (by rw [openE, if_neg (by omega)]) (by decide)
      · skip
        refine WP.skip <| WP.seq <| WP.region <| v0 (S0.move rfl) rfl <| v0 (S0.move rfl) rfl <| ?_  -- op t24 := call F27{(*rivulet/rivuletref17.Hall).Epoch}(t22, t23)
        refine vcd (S1.callF rfl (rhepoch_spec hc hl k) (take1 at0 take0)) rfl ?_
        refine v0 (S0.assign rfl) rfl <| vE <| WP.seq <| WP.seq <| WP.region <| v0 (S0.move rfl) rfl <| v0 (S0.move rfl) rfl <| v0 (S0.cmp rfl rfl rfl) rfl <| vE <| ?_  -- cond
        first | refine WP.condP rfl (fun h4 => ?_) (fun h4 => ?_) | refine WP.condN rfl (fun h4 => ?_) (fun h4 => ?_) | refine WP.cond rfl (fun h4 => ?_) (fun h4 => ?_)
        · skip
          refine WP.seq <| WP.region <| v0 (S0.assign rfl) rfl <| v0 (S0.assign rfl) rfl <| vE <| WP.ret <| ?_  -- ret
          refine r2 rfl rfl rfl ?_
          exact bad 11 (by rw [openE, if_pos (by omega), if_pos h4]) (by decide)
        · skip
          have e0 : openE R k e = 0 := by rw [openE, if_pos (by omega), if_neg h4]
          refine WP.skip <| WP.seq <| WP.region <| v0 (S0.move rfl) rfl <| v0 (S0.move rfl) rfl <| ?_  -- op t30 := call F22{(*rivulet/rivuletref17.Hall).Drop}(t28, t29)
          refine vc (S1.callF rfl (rhdrop_spec hc ho hl k) (take1 at0 take0)) rfl ?_
          rintro _ _ ⟨rfl, c2, rfl, hc2⟩
          refine app ?_
          obtain ⟨v, row, hsl, rfl⟩ := hc2
          obtain ⟨a, cap, rfl, hcap, hrow⟩ := IsSl.elems (k := 1) enB_len hsl
          have hdl := del_len R k
          generalize hD : delB R k = D at hsl hcap hrow hdl
          refine vE <| WP.seq <| WP.region <| vnv (S1.buildSlice rfl (qs := []) rfl rfl) rfl fun b31 => v0 (S0.assign rfl) rfl <| v0 (S0.assign rfl) rfl <| vE <| ?_  -- cut
          refine WP.perm (h' := [[(b31, .cells ⟨[]⟩ 65 (0, 0))], [(b, cel [.slice a D.length cap] 35)], row]) (k := []) (List.Perm.of_eq (by first | rfl | simp)) ?_
          refine WP.cutS (fun s : Nat × Value × List Blk => s.1 ≤ D.length ∧ (∀ j y, j < s.1 → D[j]? = some y → y.1 < k) ∧ IsSl 65 2 s.2.1 ((D.take s.1).flatMap enB) s.2.2 ∧ (∀ x, D[s.1]? = some x → ¬ x.1 < k)) (fun s : Nat × Value × List Blk => [(0, .pointer (some ⟨b, 0, none⟩)), (1, .int .i64 k), (2, .int .i64 e), (8, .int .i64 (epB R k)), (9, s.2.1), (10, .int .i64 (s.1 : Int))]) (fun s : Nat × Value × List Blk => s.2.2 :: [(b, cel [.slice a D.length cap] 35)] :: row :: []) ?_ (fun s hinv => ?_)
          · refine WP.block <| ?_  -- Code.loop
            refine WP.loop (fun s : Nat × Value × List Blk => s.1 ≤ D.length ∧ (∀ j y, j < s.1 → D[j]? = some y → y.1 < k) ∧ IsSl 65 2 s.2.1 ((D.take s.1).flatMap enB) s.2.2) (fun s : Nat × Value × List Blk => [(0, .pointer (some ⟨b, 0, none⟩)), (1, .int .i64 k), (2, .int .i64 e), (8, .int .i64 (epB R k)), (9, s.2.1), (10, .int .i64 (s.1 : Int))]) (fun s : Nat × Value × List Blk => s.2.2 :: [(b, cel [.slice a D.length cap] 35)] :: row :: []) (fun s : Nat × Value × List Blk => D.length - s.1) ((0, _, [(b31, .cells ⟨[]⟩ 65 (0, 0))])) (⟨by omega, fun j y hj => absurd hj (Nat.not_lt_zero j), IsSl.row (n := 0) (c := 0) (l := []) (sp := []) rfl rfl (by omega)⟩) ⟨rfl, rfl, rfl, rfl, rfl, rfl, trivial⟩ ⟨_, (take1 at0 (take1 at0 (take1 at0 take0)))⟩ (fun s hinv => ?_) 
            obtain ⟨i, lv, lrow⟩ := s
            obtain ⟨hi, hno, hlsl⟩ := hinv
            dsimp only at hi hno hlsl ⊢
            refine WP.seq <| WP.seq <| WP.region <| v0 (S0.move rfl) rfl <| v0 (S0.move rfl) rfl <| v0 (S0.nilCheck rfl) rfl <| v0 (S0.fieldAddr rfl) rfl <| v0 (S0.load rfl rfl) rfl <| v0 (S0.lenSl rfl) rfl <| v0 (S0.cmp rfl rfl rfl) rfl <| v0 (S0.move rfl) rfl <| ?_  -- guard t39 (wants True) at t40 := move t0 [if #7=True]
            first | refine csP (t := 39) rfl (fun h5 => ?_) (fun h5 => ?_) | refine csN (t := 39) rfl (fun h5 => ?_) (fun h5 => ?_) | refine cs (t := 39) rfl (fun h5 => ?_) (fun h5 => ?_)
            · skip
              rcases hrow with ⟨rfl, -⟩ | ⟨br, sp, rfl, rfl, hsp⟩
              · simp at h5; omega
              have hlt : i < D.length := by omega
              have hx : D[i]? = some D[i] := by simp [hlt]
              refine gT rfl <| v0 (S0.move rfl) rfl <| gT rfl <| v0 (S0.nilCheck rfl) rfl <| gT rfl <| v0 (S0.fieldAddr rfl) rfl <| gT rfl <| v0 (S0.load rfl rfl) rfl <| gT rfl <| v0 (S0.move rfl) rfl <| ?_  -- op t45 := indexAddr 33 t43 t44 [if #7=True]
              refine gT rfl <| v0 (S0.indexN rfl rfl hlt) rfl <| ?_
              refine gT rfl <| v0 (S0.fieldAddr rfl) rfl <| ?_  -- limit
              refine gT rfl <| v0 (S0.load rfl (flat_get (k := 2) enB_len sp D i 0 _ hx (by omega))) rfl <| ?_
              refine gT rfl <| v0 (S0.move rfl) rfl <| gT rfl <| v0 (S0.cmp rfl rfl rfl) rfl <| v0 (S0.pickT rfl rfl) rfl <| vE <| ?_  -- cond
              first | refine WP.condP rfl (fun h6 => ?_) (fun h6 => ?_) | refine WP.condN rfl (fun h6 => ?_) (fun h6 => ?_) | refine WP.cond rfl (fun h6 => ?_) (fun h6 => ?_)
              · skip
                refine WP.skip <| WP.block <| WP.seq <| WP.region <| v0 (S0.move rfl) rfl <| v0 (S0.move rfl) rfl <| v0 (S0.nilCheck rfl) rfl <| v0 (S0.fieldAddr rfl) rfl <| v0 (S0.load rfl rfl) rfl <| v0 (S0.move rfl) rfl <| ?_  -- op t57 := indexAddr 33 t55 t56
                refine v0 (S0.indexN rfl rfl hlt) rfl <| ?_
                refine v0 (S0.loadA (vs := enB D[i]) rfl (flat_take (k := 2) enB_len sp D i _ hx) rfl) rfl <| ?_
                refine vnv (S1.buildSlice rfl (qs := [(0, _)]) rfl rfl) rfl fun b59 => ?_  -- op t60 := append(t51, t59) :[33, 33]
                refine ve (S1.appendL rfl hlsl rfl rfl (atS at0) rfl rfl (by rw [flat_len enB_len, List.length_take]; simp only [List.length_cons, List.length_nil]; omega)) rfl ?_
                rintro v2 _ ⟨row2, hsl2, rfl⟩
                refine v0 (S0.assign rfl) rfl <| vE <| WP.region <| v0 (S0.move rfl) rfl <| v0 (S0.ari rfl rfl rfl (wrap_i64 (by omega))) rfl <| v0 (S0.assign rfl) rfl <| vE <| ?_  -- roundend
                have hsl3 : IsSl 65 2 v2 ((D.take (i + 1)).flatMap enB) row2 := by
                  rw [List.take_add_one, hx, List.flatMap_append]; exact hsl2
                exact ⟨(i + 1, v2, row2), (by first | exact ⟨hlt, below_succ (p := fun y => y.1 < k) hno hx h6, hsl3⟩ | (dsimp only; exact ⟨hlt, below_succ (p := fun y => y.1 < k) hno hx h6, hsl3⟩)), (show D.length - (i + 1) < D.length - i by omega), ⟨⟨rfl, rfl, rfl, rfl, rfl, rfl, trivial⟩, rfl, rfl⟩, ⟨_, (take1 at0 (take1 (atS at0) (take1 (atS at0) take0)))⟩⟩
              · skip
                refine WP.exit <| ?_  -- cutend
                exact ⟨(i, lv, lrow), (by first | exact ⟨hi, hno, hlsl, fun x hx' => by rw [hx] at hx'; cases hx'; exact h6⟩ | (dsimp only; exact ⟨hi, hno, hlsl, fun x hx' => by rw [hx] at hx'; cases hx'; exact h6⟩)), ⟨⟨rfl, rfl, rfl, rfl, rfl, rfl, trivial⟩, rfl, rfl⟩, ⟨_, (take1 at0 (take1 at0 (take1 at0 take0)))⟩⟩
            · skip
              refine gF rfl rfl <| gF rfl rfl <| gF rfl rfl <| gF rfl rfl <| gF rfl rfl <| gF rfl rfl <| gF rfl rfl <| gF rfl rfl <| gF rfl rfl <| gF rfl rfl <| v0 (S0.pickF rfl rfl) rfl <| vE <| WP.condF rfl <| WP.exit <| ?_  -- cutend
              exact ⟨(i, lv, lrow), (by first | exact ⟨hi, hno, hlsl, fun x hx' => absurd (List.getElem?_eq_some_iff.1 hx').1 (by omega)⟩ | (dsimp only; exact ⟨hi, hno, hlsl, fun x hx' => absurd (List.getElem?_eq_some_iff.1 hx').1 (by omega)⟩)), ⟨⟨rfl, rfl, rfl, rfl, rfl, rfl, trivial⟩, rfl, rfl⟩, ⟨_, (take1 at0 (take1 at0 (take1 at0 take0)))⟩⟩
          · skip
            obtain ⟨i, lv, lrow⟩ := s
            obtain ⟨hi, hno, hlsl, hstop⟩ := hinv
            dsimp only at hi hno hlsl hstop ⊢
            have hll : ((D.take i).flatMap enB).length ≤ 2000000 := by rw [flat_len enB_len, List.length_take]; omega
            refine WP.seq <| WP.region <| v0 (S0.move rfl) rfl <| v0 (S0.move rfl) rfl <| v0 (S0.move rfl) rfl <| v0 (S0.build rfl (qs := [(0, _), (1, _)]) rfl) rfl <| vnv (S1.buildSlice rfl (qs := [(0, _)]) rfl rfl) rfl fun b67 => ?_  -- op t68 := append(t63, t67) :[33, 33]
            refine ve (S1.appendL rfl hlsl rfl rfl (atS at0) rfl rfl (by simp only [List.length_cons, List.length_nil]; omega)) rfl ?_
            rintro v2 _ ⟨row2, hsl2, rfl⟩
            refine v0 (S0.assign rfl) rfl <| vE <| WP.seq <| WP.region <| v0 (S0.move rfl) rfl <| v0 (S0.move rfl) rfl <| v0 (S0.nilCheck rfl) rfl <| v0 (S0.fieldAddr rfl) rfl <| v0 (S0.load rfl rfl) rfl <| v0 (S0.move rfl) rfl <| ?_  -- op t75 := slice 33 t73 t74 none none
            have fin : ∀ v3 row3, IsSl 65 2 v3 ((D.take i).flatMap enB ++ [.int .i64 k, .int .i64 e] ++ (D.drop i).flatMap enB) row3 → (fun (v : Value) (h : Hp) => v = .tuple ⟨[.bool (openB R k e), .int .i64 (openE R k e)]⟩ ∧ ∃ c', h = [c'] ∧ IsRH b (openR R k e) c') (.tuple ⟨[.bool (!decide (epB R k = e)), .int .i64 0]⟩) [(b, cel [v3] 35) :: row3] := fun v3 row3 h3 => by
              refine ⟨?_, _, rfl, ?_⟩
              · rw [openB, e0]
                have : decide (epB R k = e) = decide (e = epB R k) := decide_eq_decide.2 eq_comm
                rw [this]; rfl
              · rw [openR, if_pos e0, ← ins_del ho, hD, ins_at hno hi hstop]
                refine ⟨v3, row3, ?_, rfl⟩
                simpa [List.flatMap_append] using h3
            skip
            rcases hrow with ⟨rfl, rfl, rfl, rfl⟩ | ⟨br, sp, rfl, rfl, hsp⟩
            · skip
              obtain rfl : i = 0 := by simpa using hi
              refine v0 (S0.sliceN rfl rfl trivial) rfl <| ?_
              refine ve (S1.appendN rfl hsl2 rfl at0 rfl (by simp only [List.length_append, List.length_cons, List.length_nil]; omega)) rfl ?_
              rintro v3 _ ⟨row3, hsl3, rfl⟩
              refine v0 (S0.assign rfl) rfl <| vE <| WP.seq <| WP.region <| v0 (S0.move rfl) rfl <| v0 (S0.move rfl) rfl <| v0 (S0.nilCheck rfl) rfl <| v0 (S0.fieldAddr rfl) rfl <| vs (S1.store rfl rfl (by first | rfl | exact IsSl.cv (by assumption))) <| vE <| WP.seq <| WP.region <| v0 (S0.move rfl) rfl <| v0 (S0.move rfl) rfl <| v0 (S0.cmp rfl rfl rfl) rfl <| v0 (S0.assign rfl) rfl <| v0 (S0.assign rfl) rfl <| vE <| WP.ret <| ?_  -- ret
              refine Leaves.drop (take1 (atS (atS at0)) (take1 at0 take0)) ?_
              refine Leaves.drop (h' := [(b, cel [v3] 35) :: row3]) (k := []) (List.Perm.of_eq (by first | rfl | simp)) ?_
              refine r2 rfl rfl rfl ?_
              exact fin v3 row3 (by simpa using hsl3)
            · skip
              obtain ⟨hw, hle⟩ := flat_cut (k := 2) enB_len sp D i D.length cap hi (Nat.le_refl _) hcap
              refine v0 (S0.slice (i := i) (j := D.length) rfl rfl rfl ⟨hi, hcap⟩) rfl <| ?_
              have hd : (((D.drop i).take (D.length - i)).flatMap enB).length ≤ 2000000 := by rw [flat_len enB_len, List.length_take, List.length_drop]; omega
              refine ve (S1.appendS rfl hsl2 rfl hle hw at0 (flat_cv (fun _ => rfl) _) rfl (by simp only [List.length_append, List.length_cons, List.length_nil]; omega)) rfl ?_
              rintro v3 _ ⟨row3, hsl3, rfl⟩
              refine v0 (S0.assign rfl) rfl <| vE <| WP.seq <| WP.region <| v0 (S0.move rfl) rfl <| v0 (S0.move rfl) rfl <| v0 (S0.nilCheck rfl) rfl <| v0 (S0.fieldAddr rfl) rfl <| vs (S1.store rfl rfl (by first | rfl | exact IsSl.cv (by assumption))) <| vE <| WP.seq <| WP.region <| v0 (S0.move rfl) rfl <| v0 (S0.move rfl) rfl <| v0 (S0.cmp rfl rfl rfl) rfl <| v0 (S0.assign rfl) rfl <| v0 (S0.assign rfl) rfl <| vE <| WP.ret <| ?_  -- ret
              refine Leaves.drop (take1 (atS (atS at0)) (take1 at0 take0)) ?_
              refine Leaves.drop (h' := [(b, cel [v3] 35) :: row3]) (k := []) (List.Perm.of_eq (by first | rfl | simp)) ?_
              refine r2 rfl rfl rfl ?_
              rw [show (D.drop i).take (D.length - i) = D.drop i from List.take_of_length_le (by simp)] at hsl3
              exact fin v3 row3 hsl3
end Go.Proofs.Ytjglpmaedphbnaa
