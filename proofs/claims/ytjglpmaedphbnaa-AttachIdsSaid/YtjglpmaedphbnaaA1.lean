import Derived.Test.YtjglpmaedphbnaaSorted
import Derived.Test.YtjglpmaedphbnaaIntsR
import Derived.Test.YtjglpmaedphbnaaArr
import Derived.Test.YtjglpmaedphbnaaAt0
namespace Go.Proofs.Ytjglpmaedphbnaa
open Go

theorem isT {now : Int} (h : 0 ≤ now ∧ now ≤ 1099511627776) : isTime now = true := isTime_iff.2 h
theorem notT {now : Int} (h : ¬ (0 ≤ now ∧ now ≤ 1099511627776)) : isTime now = false := by rw [← Bool.not_eq_true, isTime_iff]; exact h
theorem time_spec (now : Int) : FN Try.prog 33 [.int .i64 now] [] (is (.bool (isTime now)) []) := by
  refine FN.intro 9 [(0, .int .i64 now)] Try.func33 rfl (enters Try.func33 (by kernel_rfl) rfl) Try.ntmps33 rfl rfl ?_
  refine WP.seq <| WP.region <| v0 (S0.assign rfl) rfl <| vE <| WP.seq <| WP.region <| v0 (S0.move rfl) rfl <| v0 (S0.cmp rfl rfl rfl) rfl <| v0 (S0.move rfl) rfl <| ?_  -- guard t5 (wants True) at t6 := move t0 [if #2=True]
  first | refine csP (t := 5) rfl (fun h1 => ?_) (fun h1 => ?_) | refine csN (t := 5) rfl (fun h1 => ?_) (fun h1 => ?_) | refine cs (t := 5) rfl (fun h1 => ?_) (fun h1 => ?_)
  · skip
    refine gT rfl <| v0 (S0.move rfl) rfl <| gT rfl <| v0 (S0.cmp rfl rfl rfl) rfl <| v0 (S0.pickT rfl rfl) rfl <| v0 (S0.assign rfl) rfl <| vE <| WP.ret <| ?_  -- ret
    refine r1 rfl rfl ⟨?_, rfl⟩
    simp [isTime, h1]
  · skip
    refine gF rfl rfl <| gF rfl rfl <| v0 (S0.pickF rfl rfl) rfl <| v0 (S0.assign rfl) rfl <| vE <| WP.ret <| ?_  -- ret
    refine r1 rfl rfl ⟨?_, rfl⟩
    simp [isTime, h1]

abbrev chB (b : Nat) (c : Ch) : List Blk := [(b, cel (chCells c) 58)]
theorem cnew_ok {every epoch : Int} (h : (1 ≤ every ∧ every ≤ 1000) ∧ 0 ≤ epoch ∧ epoch < 1099511627776) : FN Try.prog 8 [.int .i64 every, .int .i64 epoch] []
    (fun v h => ∃ b, v = .tuple ⟨[.pointer (some ⟨b, 0, none⟩), .int .i64 0]⟩ ∧ h = [chB b ⟨every, epoch, 0, 0, 0⟩]) := by
  refine FN.intro 24 [(0, .int .i64 every), (1, .int .i64 epoch)] Try.func8 rfl (enters Try.func8 (by kernel_rfl) rfl) Try.ntmps8 rfl rfl ?_
  refine WP.seq <| WP.region <| v0 (S0.assign rfl) rfl <| v0 (S0.assign rfl) rfl <| vE <| WP.seq <| WP.seq <| WP.region <| v0 (S0.move rfl) rfl <| v0 (S0.cmp rfl rfl rfl) rfl <| v0 (S0.move rfl) rfl <| ?_  -- guard t8 (wants False) at t9 := move t0 [if #2=False]
  refine csFh (t := 8) rfl ((decide_eq_false (by omega))) ?_
  refine gT rfl <| v0 (S0.move rfl) rfl <| gT rfl <| v0 (S0.cmp rfl rfl rfl) rfl <| v0 (S0.pickF rfl rfl) rfl <| v0 (S0.move rfl) rfl <| ?_  -- guard t12 (wants False) at t13 := move t1 [if #6=False]
  refine csFh (t := 12) rfl ((decide_eq_false (by omega))) ?_
  refine gT rfl <| v0 (S0.move rfl) rfl <| gT rfl <| v0 (S0.cmp rfl rfl rfl) rfl <| v0 (S0.pickF rfl rfl) rfl <| v0 (S0.move rfl) rfl <| ?_  -- guard t16 (wants False) at t17 := move t1 [if #10=False]
  refine csFh (t := 16) rfl ((decide_eq_false (by omega))) ?_
  refine gT rfl <| v0 (S0.move rfl) rfl <| gT rfl <| v0 (S0.cmp rfl rfl rfl) rfl <| v0 (S0.pickF rfl rfl) rfl <| vE <| ?_  -- cond
  refine WP.condFh rfl ((decide_eq_false (by omega))) ?_
  refine WP.skip <| WP.seq <| WP.region <| v0 (S0.move rfl) rfl <| v0 (S0.move rfl) rfl <| v0 (S0.build rfl (qs := [(0, _), (1, _)]) rfl) rfl <| vn (S1.box rfl rfl) rfl fun b23 => v0 (S0.assign rfl) rfl <| v0 (S0.assign rfl) rfl <| vE <| WP.ret <| ?_  -- ret
  refine r2 rfl rfl rfl ?_
  exact ⟨_, rfl, rfl⟩
theorem cnew_bad {every epoch : Int} (h : ¬ ((1 ≤ every ∧ every ≤ 1000) ∧ 0 ≤ epoch ∧ epoch < 1099511627776)) : FN Try.prog 8 [.int .i64 every, .int .i64 epoch] [] (is (.tuple ⟨[.pointer none, .int .i64 1]⟩) []) := by
  refine FN.intro 24 [(0, .int .i64 every), (1, .int .i64 epoch)] Try.func8 rfl (enters Try.func8 (by kernel_rfl) rfl) Try.ntmps8 rfl rfl ?_
  refine WP.seq <| WP.region <| v0 (S0.assign rfl) rfl <| v0 (S0.assign rfl) rfl <| vE <| WP.seq <| WP.seq <| WP.region <| v0 (S0.move rfl) rfl <| v0 (S0.cmp rfl rfl rfl) rfl <| v0 (S0.move rfl) rfl <| ?_  -- guard t8 (wants False) at t9 := move t0 [if #2=False]
  first | refine csP (t := 8) rfl (fun h1 => ?_) (fun h1 => ?_) | refine csN (t := 8) rfl (fun h1 => ?_) (fun h1 => ?_) | refine cs (t := 8) rfl (fun h1 => ?_) (fun h1 => ?_)
  · skip
    refine gF rfl rfl <| gF rfl rfl <| v0 (S0.pickT rfl rfl) rfl <| v0 (S0.move rfl) rfl <| gF rfl rfl <| gF rfl rfl <| v0 (S0.pickT rfl rfl) rfl <| v0 (S0.move rfl) rfl <| gF rfl rfl <| gF rfl rfl <| v0 (S0.pickT rfl rfl) rfl <| vE <| WP.condT rfl <| WP.seq <| WP.region <| v0 (S0.assign rfl) rfl <| v0 (S0.assign rfl) rfl <| vE <| WP.ret <| ?_  -- ret
    refine r2 rfl rfl rfl ?_
    exact ⟨rfl, rfl⟩
  · skip
    refine gT rfl <| v0 (S0.move rfl) rfl <| gT rfl <| v0 (S0.cmp rfl rfl rfl) rfl <| v0 (S0.pickF rfl rfl) rfl <| v0 (S0.move rfl) rfl <| ?_  -- guard t12 (wants False) at t13 := move t1 [if #6=False]
    first | refine csP (t := 12) rfl (fun h2 => ?_) (fun h2 => ?_) | refine csN (t := 12) rfl (fun h2 => ?_) (fun h2 => ?_) | refine cs (t := 12) rfl (fun h2 => ?_) (fun h2 => ?_)
    · skip
      refine gF rfl rfl <| gF rfl rfl <| v0 (S0.pickT rfl rfl) rfl <| v0 (S0.move rfl) rfl <| gF rfl rfl <| gF rfl rfl <| v0 (S0.pickT rfl rfl) rfl <| vE <| WP.condT rfl <| WP.seq <| WP.region <| v0 (S0.assign rfl) rfl <| v0 (S0.assign rfl) rfl <| vE <| WP.ret <| ?_  -- ret
      refine r2 rfl rfl rfl ?_
      exact ⟨rfl, rfl⟩
    · skip
      refine gT rfl <| v0 (S0.move rfl) rfl <| gT rfl <| v0 (S0.cmp rfl rfl rfl) rfl <| v0 (S0.pickF rfl rfl) rfl <| v0 (S0.move rfl) rfl <| ?_  -- guard t16 (wants False) at t17 := move t1 [if #10=False]
      first | refine csP (t := 16) rfl (fun h3 => ?_) (fun h3 => ?_) | refine csN (t := 16) rfl (fun h3 => ?_) (fun h3 => ?_) | refine cs (t := 16) rfl (fun h3 => ?_) (fun h3 => ?_)
      · skip
        refine gF rfl rfl <| gF rfl rfl <| v0 (S0.pickT rfl rfl) rfl <| vE <| WP.condT rfl <| WP.seq <| WP.region <| v0 (S0.assign rfl) rfl <| v0 (S0.assign rfl) rfl <| vE <| WP.ret <| ?_  -- ret
        refine r2 rfl rfl rfl ?_
        exact ⟨rfl, rfl⟩
      · skip
        refine gT rfl <| v0 (S0.move rfl) rfl <| gT rfl <| v0 (S0.cmp rfl rfl rfl) rfl <| v0 (S0.pickF rfl rfl) rfl <| vE <| ?_  -- cond
        refine WP.condTh rfl ((decide_eq_true (by omega))) ?_
        refine WP.seq <| WP.region <| v0 (S0.assign rfl) rfl <| v0 (S0.assign rfl) rfl <| vE <| WP.ret <| ?_  -- ret
        refine r2 rfl rfl rfl ?_
        exact ⟨rfl, rfl⟩
theorem ask_spec {b : Nat} {c : Ch} (hc : OkC c) (p now : Int) : FN Try.prog 11 [.pointer (some ⟨b, 0, none⟩), .int .i64 p, .int .i64 now] [chB b c] (is (.tuple ⟨[.int .i64 (askV c p now), .int .i64 (askE c p now)]⟩) [chB b (askC c p now)]) := by
  have h1 := hc.epoch
  have bad : askB c p now = false → (is (.tuple ⟨[.int .i64 (askV c p now), .int .i64 (askE c p now)]⟩) [chB b (askC c p now)]) (.tuple ⟨[.int .i64 0, .int .i64 1]⟩) [chB b c] := fun e => by
    simp only [askV, askE, askC, e, Bool.false_eq_true, if_false]; exact ⟨rfl, rfl⟩
  refine FN.intro 44 [(0, .pointer (some ⟨b, 0, none⟩)), (1, .int .i64 p), (2, .int .i64 now)] Try.func11 rfl (enters Try.func11 (by kernel_rfl) rfl) Try.ntmps11 rfl rfl ?_
  refine WP.seq <| WP.region <| v0 (S0.assign rfl) rfl <| v0 (S0.assign rfl) rfl <| vE <| WP.seq <| WP.seq <| WP.region <| v0 (S0.move rfl) rfl <| v0 (S0.cmp rfl rfl rfl) rfl <| v0 (S0.move rfl) rfl <| ?_  -- guard t10 (wants False) at t11 := move t2 [if #2=False]
  first | refine csP (t := 10) rfl (fun hp => ?_) (fun hp => ?_) | refine csN (t := 10) rfl (fun hp => ?_) (fun hp => ?_) | refine cs (t := 10) rfl (fun hp => ?_) (fun hp => ?_)
  · skip
    refine gF rfl rfl <| gF rfl rfl <| gF rfl rfl <| v0 (S0.pickT rfl rfl) rfl <| v0 (S0.move rfl) rfl <| gF rfl rfl <| gF rfl rfl <| gF rfl rfl <| gF rfl rfl <| gF rfl rfl <| v0 (S0.pickT rfl rfl) rfl <| vE <| WP.condT rfl <| WP.seq <| WP.region <| v0 (S0.assign rfl) rfl <| v0 (S0.assign rfl) rfl <| vE <| WP.ret <| ?_  -- ret
    refine r2 rfl rfl rfl ?_
    exact bad (by have : decide (0 ≤ p) = false := decide_eq_false (by omega)
                  simp [askB, this])
  · skip
    refine gT rfl <| v0 (S0.move rfl) rfl <| ?_  -- op t12 := call F33{rivulet/attach.time}(t11) [if #2=False]
    refine gT rfl <| vcd (S1.callF rfl (time_spec now) take0) rfl ?_
    refine gT rfl <| v0 (S0.not rfl) rfl <| v0 (S0.pickF rfl rfl) rfl <| v0 (S0.move rfl) rfl <| ?_  -- guard t15 (wants False) at t16 := move t0 [if #7=False]
    first | refine csP (t := 15) rfl (fun ht => ?_) (fun ht => ?_) | refine csN (t := 15) rfl (fun ht => ?_) (fun ht => ?_) | refine cs (t := 15) rfl (fun ht => ?_) (fun ht => ?_)
    · skip
      refine gF rfl rfl <| gF rfl rfl <| gF rfl rfl <| gF rfl rfl <| gF rfl rfl <| v0 (S0.pickT rfl rfl) rfl <| vE <| WP.condT rfl <| WP.seq <| WP.region <| v0 (S0.assign rfl) rfl <| v0 (S0.assign rfl) rfl <| vE <| WP.ret <| ?_  -- ret
      refine r2 rfl rfl rfl ?_
      exact bad (by simp [askB, notT ht])
    · skip
      refine gT rfl <| v0 (S0.move rfl) rfl <| gT rfl <| v0 (S0.nilCheck rfl) rfl <| gT rfl <| v0 (S0.fieldAddr rfl) rfl <| gT rfl <| v0 (S0.load rfl rfl) rfl <| gT rfl <| v0 (S0.cmp rfl rfl rfl) rfl <| v0 (S0.pickF rfl rfl) rfl <| vE <| ?_  -- cond
      first | refine WP.condP rfl (fun he => ?_) (fun he => ?_) | refine WP.condN rfl (fun he => ?_) (fun he => ?_) | refine WP.cond rfl (fun he => ?_) (fun he => ?_)
      · skip
        refine WP.seq <| WP.region <| v0 (S0.assign rfl) rfl <| v0 (S0.assign rfl) rfl <| vE <| WP.ret <| ?_  -- ret
        refine r2 rfl rfl rfl ?_
        exact bad (by simp [askB, he])
      · skip
        refine WP.skip <| WP.seq <| WP.region <| v0 (S0.move rfl) rfl <| v0 (S0.nilCheck rfl) rfl <| v0 (S0.fieldAddr rfl) rfl <| v0 (S0.load rfl rfl) rfl <| v0 (S0.ari rfl rfl rfl (wrap_i64 (by omega))) rfl <| v0 (S0.nilCheck rfl) rfl <| v0 (S0.fieldAddr rfl) rfl <| vs (S1.store rfl rfl (by first | rfl | exact IsSl.cv (by assumption))) <| vE <| WP.seq <| WP.region <| v0 (S0.move rfl) rfl <| v0 (S0.move rfl) rfl <| v0 (S0.move rfl) rfl <| v0 (S0.move rfl) rfl <| v0 (S0.move rfl) rfl <| v0 (S0.nilCheck rfl) rfl <| v0 (S0.fieldAddr rfl) rfl <| vs (S1.store rfl rfl (by first | rfl | exact IsSl.cv (by assumption))) <| v0 (S0.nilCheck rfl) rfl <| v0 (S0.fieldAddr rfl) rfl <| vs (S1.store rfl rfl (by first | rfl | exact IsSl.cv (by assumption))) <| v0 (S0.nilCheck rfl) rfl <| v0 (S0.fieldAddr rfl) rfl <| vs (S1.store rfl rfl (by first | rfl | exact IsSl.cv (by assumption))) <| vE <| WP.seq <| WP.region <| v0 (S0.move rfl) rfl <| v0 (S0.nilCheck rfl) rfl <| v0 (S0.fieldAddr rfl) rfl <| v0 (S0.load rfl rfl) rfl <| v0 (S0.assign rfl) rfl <| v0 (S0.assign rfl) rfl <| vE <| WP.ret <| ?_  -- ret
        refine r2 rfl rfl rfl ?_
        have e : askB c p now = true := by
          have : decide (0 ≤ p) = true := decide_eq_true (by omega)
          simp [askB, isT ht, he, this]
        simp only [askV, askE, askC, e, if_true]; exact ⟨rfl, rfl⟩
theorem again_spec {b : Nat} {c : Ch} (hc : OkC c) (now : Int) : FN Try.prog 13 [.pointer (some ⟨b, 0, none⟩), .int .i64 now] [chB b c] (is (.bool (againB c now)) [chB b (againC c now)]) := by
  have h1 := hc.asked
  have bad : againB c now = false → (is (.bool (againB c now)) [chB b (againC c now)]) (.bool false) [chB b c] := fun e => by simp only [againC, e, Bool.false_eq_true, if_false]; exact ⟨rfl, rfl⟩
  refine FN.intro 32 [(0, .pointer (some ⟨b, 0, none⟩)), (1, .int .i64 now)] Try.func13 rfl (enters Try.func13 (by kernel_rfl) rfl) Try.ntmps13 rfl rfl ?_
  refine WP.seq <| WP.region <| v0 (S0.assign rfl) rfl <| vE <| WP.seq <| WP.seq <| WP.drawP [0, 1, 2, 3, 4, 5, 6, 7, 8, 9, 10, 11, 12, 13, 14, 15, 16, 17, 18, 19, 20, 21, 22] mixed (by kernel_rfl) (by kernel_rfl) (by kernel_rfl) (take1 at0 take0) <| w0 rfl rfl rfl (S0.move rfl) rfl <| w0 rfl rfl rfl (S0.nilCheck rfl) rfl <| w0 rfl rfl rfl (S0.fieldAddr rfl) rfl <| w0 rfl rfl rfl (S0.load rfl rfl) rfl <| w0 rfl rfl rfl (S0.cmp rfl rfl rfl) rfl <| w0 rfl rfl rfl (S0.move rfl) rfl <| ?_  -- guard t10 (wants False) at t11 := move t1 [if #5=False]
  first | refine wcsP (t := 10) rfl (fun hs => ?_) (fun hs => ?_) | refine wcsN (t := 10) rfl (fun hs => ?_) (fun hs => ?_) | refine wcs (t := 10) rfl (fun hs => ?_) (fun hs => ?_)
  · skip
    refine wF rfl rfl rfl <| wF rfl rfl rfl <| wF rfl rfl rfl <| w0 rfl rfl rfl (S0.pickT rfl rfl) rfl <| w0 rfl rfl rfl (S0.move rfl) rfl <| wF rfl rfl rfl <| wF rfl rfl rfl <| wF rfl rfl rfl <| wF rfl rfl rfl <| wF rfl rfl rfl <| wF rfl rfl rfl <| wF rfl rfl rfl <| wF rfl rfl rfl <| wF rfl rfl rfl <| wF rfl rfl rfl <| wF rfl rfl rfl <| w0 rfl rfl rfl (S0.pickT rfl rfl) rfl <| wE <| WP.condT rfl <| WP.seq <| WP.region <| v0 (S0.assign rfl) rfl <| vE <| WP.ret <| ?_  -- ret
    refine r1 rfl rfl ?_
    exact bad (by simp [againB, hs])
  · skip
    refine w0 rfl rfl rfl (S0.move rfl) rfl <| ?_  -- op t12 := call F33{rivulet/attach.time}(t11) [if #5=False]
    refine wcd rfl rfl rfl (S1.callF rfl (time_spec now) take0) rfl ?_
    refine w0 rfl rfl rfl (S0.not rfl) rfl <| w0 rfl rfl rfl (S0.pickF rfl rfl) rfl <| w0 rfl rfl rfl (S0.move rfl) rfl <| ?_  -- guard t15 (wants False) at t16 := move t1 [if #10=False]
    first | refine wcsP (t := 15) rfl (fun ht => ?_) (fun ht => ?_) | refine wcsN (t := 15) rfl (fun ht => ?_) (fun ht => ?_) | refine wcs (t := 15) rfl (fun ht => ?_) (fun ht => ?_)
    · skip
      refine wF rfl rfl rfl <| wF rfl rfl rfl <| wF rfl rfl rfl <| wF rfl rfl rfl <| wF rfl rfl rfl <| wF rfl rfl rfl <| wF rfl rfl rfl <| wF rfl rfl rfl <| wF rfl rfl rfl <| wF rfl rfl rfl <| wF rfl rfl rfl <| w0 rfl rfl rfl (S0.pickT rfl rfl) rfl <| wE <| WP.condT rfl <| WP.seq <| WP.region <| v0 (S0.assign rfl) rfl <| vE <| WP.ret <| ?_  -- ret
      refine r1 rfl rfl ?_
      exact bad (by simp [againB, notT ht])
    · skip
      refine w0 rfl rfl rfl (S0.move rfl) rfl <| w0 rfl rfl rfl (S0.move rfl) rfl <| w0 rfl rfl rfl (S0.nilCheck rfl) rfl <| w0 rfl rfl rfl (S0.fieldAddr rfl) rfl <| w0 rfl rfl rfl (S0.load rfl rfl) rfl <| w0 rfl rfl rfl (S0.ari rfl rfl rfl (wrap_i64 (by omega))) rfl <| w0 rfl rfl rfl (S0.move rfl) rfl <| w0 rfl rfl rfl (S0.nilCheck rfl) rfl <| w0 rfl rfl rfl (S0.fieldAddr rfl) rfl <| w0 rfl rfl rfl (S0.load rfl rfl) rfl <| w0 rfl rfl rfl (S0.cmp rfl rfl rfl) rfl <| w0 rfl rfl rfl (S0.pickF rfl rfl) rfl <| wE <| ?_  -- cond
      first | refine WP.condP rfl (fun hd => ?_) (fun hd => ?_) | refine WP.condN rfl (fun hd => ?_) (fun hd => ?_) | refine WP.cond rfl (fun hd => ?_) (fun hd => ?_)
      · skip
        refine WP.seq <| WP.region <| v0 (S0.assign rfl) rfl <| vE <| WP.ret <| ?_  -- ret
        refine r1 rfl rfl ?_
        exact bad (by have : decide (c.every ≤ now - c.asked) = false := decide_eq_false (by omega)
                      simp [againB, this])
      · skip
        refine WP.skip <| WP.seq <| WP.region <| v0 (S0.move rfl) rfl <| v0 (S0.move rfl) rfl <| v0 (S0.nilCheck rfl) rfl <| v0 (S0.fieldAddr rfl) rfl <| vs (S1.store rfl rfl (by first | rfl | exact IsSl.cv (by assumption))) <| vE <| WP.seq <| WP.region <| v0 (S0.assign rfl) rfl <| vE <| WP.ret <| ?_  -- ret
        refine r1 rfl rfl ?_
        have e : againB c now = true := by
          have : decide (c.every ≤ now - c.asked) = true := decide_eq_true (by omega)
          simp [againB, isT ht, hs, this]
        simp only [againC, e, if_true]; exact ⟨rfl, rfl⟩
theorem none_spec (p q r : Value) : FN Try.prog 34 [p, q, r] [] (is (.int .i64 10) []) := by
  refine FN.intro 7 [(0, p), (1, q), (2, r)] Try.func34 rfl (enters Try.func34 (by kernel_rfl) rfl) Try.ntmps34 rfl rfl ?_
  refine WP.seq <| WP.region <| v0 (S0.assign rfl) rfl <| vE <| WP.seq <| WP.region <| v0 (S0.assign rfl) rfl <| vE <| WP.ret <| ?_  -- ret
  refine r1 rfl rfl ?_
  exact ⟨rfl, rfl⟩
theorem met_spec {b : Nat} {c : Ch} (hs : c.state = 1) (fr ep : Int) : FN Try.prog 35 [.pointer (some ⟨b, 0, none⟩), .int .i64 fr, .int .i64 ep] [chB b c] (is (.int .i64 (welE c fr ep)) [chB b (welC c fr ep)]) := by
  have bad : ∀ e, welE c fr ep = e → e ≠ 0 → (is (.int .i64 (welE c fr ep)) [chB b (welC c fr ep)]) (.int .i64 e) [chB b c] := fun e he h0 => by
    subst he; rw [welC, if_neg h0]; exact ⟨rfl, rfl⟩
  refine FN.intro 31 [(0, .pointer (some ⟨b, 0, none⟩)), (1, .int .i64 fr), (2, .int .i64 ep)] Try.func35 rfl (enters Try.func35 (by kernel_rfl) rfl) Try.ntmps35 rfl rfl ?_
  refine WP.seq <| WP.region <| v0 (S0.assign rfl) rfl <| vE <| WP.seq <| WP.block <| WP.seq <| WP.region <| v0 (S0.move rfl) rfl <| v0 (S0.move rfl) rfl <| v0 (S0.nilCheck rfl) rfl <| v0 (S0.fieldAddr rfl) rfl <| v0 (S0.load rfl rfl) rfl <| v0 (S0.cmp rfl rfl rfl) rfl <| v0 (S0.assign rfl) rfl <| vE <| ?_  -- cond
  first | refine WP.condP rfl (fun h1 => ?_) (fun h1 => ?_) | refine WP.condN rfl (fun h1 => ?_) (fun h1 => ?_) | refine WP.cond rfl (fun h1 => ?_) (fun h1 => ?_)
  · skip
    refine WP.seq <| WP.region <| v0 (S0.assign rfl) rfl <| vE <| WP.ret <| ?_  -- ret
    refine r1 rfl rfl ?_
    exact bad 10 (by simp [welE, h1]) (by decide)
  · skip
    refine WP.seq <| WP.region <| v0 (S0.move rfl) rfl <| v0 (S0.move rfl) rfl <| v0 (S0.nilCheck rfl) rfl <| v0 (S0.fieldAddr rfl) rfl <| v0 (S0.load rfl rfl) rfl <| v0 (S0.cmp rfl rfl rfl) rfl <| v0 (S0.assign rfl) rfl <| vE <| ?_  -- cond
    first | refine WP.condP rfl (fun h2 => ?_) (fun h2 => ?_) | refine WP.condN rfl (fun h2 => ?_) (fun h2 => ?_) | refine WP.cond rfl (fun h2 => ?_) (fun h2 => ?_)
    · skip
      refine WP.seq <| WP.region <| v0 (S0.assign rfl) rfl <| vE <| WP.ret <| ?_  -- ret
      refine r1 rfl rfl ?_
      exact bad 11 (by simp [welE, h1, h2, hs]) (by decide)
    · skip
      refine WP.seq <| WP.region <| v0 (S0.move rfl) rfl <| v0 (S0.move rfl) rfl <| v0 (S0.nilCheck rfl) rfl <| v0 (S0.fieldAddr rfl) rfl <| v0 (S0.load rfl rfl) rfl <| v0 (S0.cmp rfl rfl rfl) rfl <| v0 (S0.assign rfl) rfl <| vE <| ?_  -- cond
      first | refine WP.condP rfl (fun h3 => ?_) (fun h3 => ?_) | refine WP.condN rfl (fun h3 => ?_) (fun h3 => ?_) | refine WP.cond rfl (fun h3 => ?_) (fun h3 => ?_)
      · skip
        refine WP.seq <| WP.region <| v0 (S0.assign rfl) rfl <| vE <| WP.ret <| ?_  -- ret
        refine r1 rfl rfl ?_
        exact bad 8 (by simp [welE, h1, h2, h3, hs]) (by decide)
      · skip
        refine WP.skip <| WP.seq <| WP.region <| v0 (S0.move rfl) rfl <| v0 (S0.nilCheck rfl) rfl <| v0 (S0.fieldAddr rfl) rfl <| vs (S1.store rfl rfl (by first | rfl | exact IsSl.cv (by assumption))) <| vE <| WP.seq <| WP.region <| v0 (S0.assign rfl) rfl <| vE <| WP.ret <| ?_  -- ret
        refine r1 rfl rfl ?_
        have e : welE c fr ep = 0 := by simp [welE, h1, h2, h3, hs]
        rw [welC, if_pos e, e]; exact ⟨rfl, rfl⟩
theorem wel_spec {b : Nat} {c : Ch} (hc : OkC c) (fr ep : Int) : FN Try.prog 15 [.pointer (some ⟨b, 0, none⟩), .int .i64 fr, .int .i64 ep] [chB b c] (is (.int .i64 (welE c fr ep)) [chB b (welC c fr ep)]) := by
  have hs := hc.state
  refine FN.intro 19 [(0, .pointer (some ⟨b, 0, none⟩)), (1, .int .i64 fr), (2, .int .i64 ep)] Try.func15 rfl (enters Try.func15 (by kernel_rfl) rfl) Try.ntmps15 rfl rfl ?_
  refine WP.seq <| WP.region <| v0 (S0.assign rfl) rfl <| vE <| WP.seq <| WP.region <| v0 (S0.buildArr rfl (qs := [(0, _), (1, _), (2, _)]) rfl) rfl <| vn (S1.alloc) rfl fun b7 => vs (S1.storeA rfl rfl rfl) <| vE <| WP.seq <| WP.region <| v0 (S0.move rfl) rfl <| v0 (S0.nilCheck rfl) rfl <| v0 (S0.fieldAddr rfl) rfl <| v0 (S0.load rfl rfl) rfl <| ?_  -- op t13 := indexAddr 63 t7 t12
  refine v0 (S0.indexArr rfl rfl (by omega)) rfl <| ?_
  skip
  by_cases h1 : c.state = 1
  · skip
    refine v0 (S0.load (v := .func (.func 35) ⟨[]⟩ ⟨[]⟩) rfl (by rw [h1]; rfl)) rfl <| ?_
    refine v0 (S0.move rfl) rfl <| v0 (S0.move rfl) rfl <| v0 (S0.move rfl) rfl <| ?_  -- op t18 := call t14(t15, t16, t17)
    refine vcd (S1.callC rfl rfl rfl (met_spec h1 fr ep) (take1 (atS at0) take0)) rfl ?_
    refine v0 (S0.assign rfl) rfl <| vE <| WP.ret <| ?_  -- ret
    refine Leaves.drop (take1 at0 take0) ?_
    refine r1 rfl rfl ?_
    exact ⟨rfl, rfl⟩
  · skip
    refine v0 (S0.load (v := .func (.func 34) ⟨[]⟩ ⟨[]⟩) rfl (by rcases hs with h | h | h <;> first | exact absurd h h1 | (rw [h]; rfl))) rfl <| ?_
    refine v0 (S0.move rfl) rfl <| v0 (S0.move rfl) rfl <| v0 (S0.move rfl) rfl <| ?_  -- op t18 := call t14(t15, t16, t17)
    refine vcd (S1.callC rfl rfl rfl (none_spec (.pointer (some ⟨b, 0, none⟩)) (.int .i64 fr) (.int .i64 ep)) take0) rfl ?_
    refine v0 (S0.assign rfl) rfl <| vE <| WP.ret <| ?_  -- ret
    refine Leaves.drop (take1 (atS at0) take0) ?_
    refine r1 rfl rfl ?_
    have e : welE c fr ep = 10 := by simp [welE, h1]
    rw [welC, e]
    exact ⟨rfl, rfl⟩
theorem lose_spec {b : Nat} (c : Ch) : FN Try.prog 17 [.pointer (some ⟨b, 0, none⟩)] [chB b c] (is (.bool (loseB c)) [chB b (loseC c)]) := by
  refine FN.intro 16 [(0, .pointer (some ⟨b, 0, none⟩))] Try.func17 rfl (enters Try.func17 (by kernel_rfl) rfl) Try.ntmps17 rfl rfl ?_
  refine WP.seq <| WP.region <| v0 (S0.assign rfl) rfl <| vE <| WP.seq <| WP.region <| v0 (S0.move rfl) rfl <| v0 (S0.nilCheck rfl) rfl <| v0 (S0.fieldAddr rfl) rfl <| v0 (S0.load rfl rfl) rfl <| v0 (S0.cmp rfl rfl rfl) rfl <| v0 (S0.assign rfl) rfl <| vE <| WP.seq <| WP.region <| v0 (S0.move rfl) rfl <| v0 (S0.move rfl) rfl <| v0 (S0.nilCheck rfl) rfl <| v0 (S0.fieldAddr rfl) rfl <| vs (S1.store rfl rfl (by first | rfl | exact IsSl.cv (by assumption))) <| v0 (S0.nilCheck rfl) rfl <| v0 (S0.fieldAddr rfl) rfl <| vs (S1.store rfl rfl (by first | rfl | exact IsSl.cv (by assumption))) <| vE <| WP.seq <| WP.region <| v0 (S0.move rfl) rfl <| v0 (S0.assign rfl) rfl <| vE <| WP.ret <| ?_  -- ret
  refine r1 rfl rfl ?_
  exact ⟨rfl, rfl⟩
theorem parent_spec {b : Nat} (c : Ch) : FN Try.prog 23 [.pointer (some ⟨b, 0, none⟩)] [chB b c] (is (.tuple ⟨[.int .i64 c.parent, .bool (!decide (c.state = 0))]⟩) [chB b c]) := by
  refine FN.intro 13 [(0, .pointer (some ⟨b, 0, none⟩))] Try.func23 rfl (enters Try.func23 (by kernel_rfl) rfl) Try.ntmps23 rfl rfl ?_
  refine WP.seq <| WP.region <| v0 (S0.assign rfl) rfl <| v0 (S0.assign rfl) rfl <| vE <| WP.seq <| WP.drawP [0, 1, 2, 3, 4, 5, 6, 7, 8, 9, 10] mixed (by kernel_rfl) (by kernel_rfl) (by kernel_rfl) (take1 at0 take0) <| w0 rfl rfl rfl (S0.move rfl) rfl <| w0 rfl rfl rfl (S0.nilCheck rfl) rfl <| w0 rfl rfl rfl (S0.fieldAddr rfl) rfl <| w0 rfl rfl rfl (S0.load rfl rfl) rfl <| w0 rfl rfl rfl (S0.move rfl) rfl <| w0 rfl rfl rfl (S0.nilCheck rfl) rfl <| w0 rfl rfl rfl (S0.fieldAddr rfl) rfl <| w0 rfl rfl rfl (S0.load rfl rfl) rfl <| w0 rfl rfl rfl (S0.cmp rfl rfl rfl) rfl <| w0 rfl rfl rfl (S0.assign rfl) rfl <| w0 rfl rfl rfl (S0.assign rfl) rfl <| wE <| WP.ret <| ?_  -- ret
  refine r2 rfl rfl rfl ?_
  exact ⟨rfl, rfl⟩
theorem state_spec {b : Nat} (c : Ch) : FN Try.prog 24 [.pointer (some ⟨b, 0, none⟩)] [chB b c] (is (.int .i64 c.state) [chB b c]) := by
  refine FN.intro 7 [(0, .pointer (some ⟨b, 0, none⟩))] Try.func24 rfl (enters Try.func24 (by kernel_rfl) rfl) Try.ntmps24 rfl rfl ?_
  refine WP.seq <| WP.region <| v0 (S0.assign rfl) rfl <| vE <| WP.seq <| WP.region <| v0 (S0.move rfl) rfl <| v0 (S0.nilCheck rfl) rfl <| v0 (S0.fieldAddr rfl) rfl <| v0 (S0.load rfl rfl) rfl <| v0 (S0.assign rfl) rfl <| vE <| WP.ret <| ?_  -- ret
  refine r1 rfl rfl ?_
  exact ⟨rfl, rfl⟩
theorem epoch_spec {b : Nat} (c : Ch) : FN Try.prog 25 [.pointer (some ⟨b, 0, none⟩)] [chB b c] (is (.int .i64 c.epoch) [chB b c]) := by
  refine FN.intro 7 [(0, .pointer (some ⟨b, 0, none⟩))] Try.func25 rfl (enters Try.func25 (by kernel_rfl) rfl) Try.ntmps25 rfl rfl ?_
  refine WP.seq <| WP.region <| v0 (S0.assign rfl) rfl <| vE <| WP.seq <| WP.region <| v0 (S0.move rfl) rfl <| v0 (S0.nilCheck rfl) rfl <| v0 (S0.fieldAddr rfl) rfl <| v0 (S0.load rfl rfl) rfl <| v0 (S0.assign rfl) rfl <| vE <| WP.ret <| ?_  -- ret
  refine r1 rfl rfl ?_
  exact ⟨rfl, rfl⟩

/-! halls -/
abbrev hallB (b m : Nat) (L : ML Int) (ck : Nat) : List Blk := [(b, cel [.map (some m)] 61), (m, mapO (Value.int .i64) L ck)]
def IsH (b : Nat) (R : BM) (c : List Blk) : Prop := ∃ m L ck, RepB R L ck ∧ c = hallB b m L ck
theorem empty_spec : FN Try.prog 10 [] [] (fun v h => ∃ b c, v = .pointer (some ⟨b, 0, none⟩) ∧ h = [c] ∧ IsH b [] c) := by
  refine FN.intro 4 [] Try.func10 rfl (enters Try.func10 (by kernel_rfl) rfl) Try.ntmps10 rfl rfl ?_
  refine WP.seq <| WP.region <| v0 (S0.assign rfl) rfl <| vE <| WP.seq <| WP.region <| vnv (S1.makeMap) rfl fun b1 => v0 (S0.build rfl (qs := [(0, _)]) rfl) rfl <| vn (S1.box rfl rfl) rfl fun b3 => v0 (S0.assign rfl) rfl <| vE <| WP.ret <| ?_  -- ret
  refine Leaves.drop (h' := [hallB b3 b1 [] 0]) (k := []) (List.Perm.of_eq (by first | rfl | simp)) ?_
  refine r1 rfl rfl ?_
  exact ⟨_, _, rfl, rfl, _, [], 0, .nil, rfl⟩
theorem hepoch_spec {b : Nat} {R : BM} {c : List Blk} (hc : IsH b R c) (k : Int) : FN Try.prog 26 [.pointer (some ⟨b, 0, none⟩), .int .i64 k] [c] (is (.int .i64 (epB R k)) [c]) := by
  obtain ⟨m, L, ck, hr, rfl⟩ := hc
  have hg := hr.get k
  refine FN.intro 11 [(0, .pointer (some ⟨b, 0, none⟩)), (1, .int .i64 k)] Try.func26 rfl (enters Try.func26 (by kernel_rfl) rfl) Try.ntmps26 rfl rfl ?_
  refine WP.seq <| WP.region <| v0 (S0.assign rfl) rfl <| vE <| WP.seq <| WP.region <| v0 (S0.move rfl) rfl <| v0 (S0.nilCheck rfl) rfl <| v0 (S0.fieldAddr rfl) rfl <| v0 (S0.load rfl rfl) rfl <| v0 (S0.move rfl) rfl <| ?_  -- op t10 := lookup 59 t8 t9 false
  refine v0 (S0.lookup (ek := Value.int .i64) rfl rfl) rfl <| ?_
  refine v0 (S0.assign rfl) rfl <| vE <| WP.ret <| ?_  -- ret
  refine r1 rfl rfl ?_
  rw [hg]
  unfold epB
  cases gB R k <;> exact ⟨rfl, rfl⟩
theorem hdrop_spec {b : Nat} {R : BM} {c : List Blk} (hc : IsH b R c) (ho : OkB R) (k : Int) : FN Try.prog 21 [.pointer (some ⟨b, 0, none⟩), .int .i64 k] [c] (fun v h => v = .bool (gB R k).isSome ∧ ∃ c', h = [c'] ∧ IsH b (delB R k) c') := by
  obtain ⟨m, L, ck, hr, rfl⟩ := hc
  have hg := hr.get k
  refine FN.intro 22 [(0, .pointer (some ⟨b, 0, none⟩)), (1, .int .i64 k)] Try.func21 rfl (enters Try.func21 (by kernel_rfl) rfl) Try.ntmps21 rfl rfl ?_
  refine WP.seq <| WP.region <| v0 (S0.assign rfl) rfl <| vE <| WP.seq <| WP.region <| v0 (S0.move rfl) rfl <| v0 (S0.nilCheck rfl) rfl <| v0 (S0.fieldAddr rfl) rfl <| v0 (S0.load rfl rfl) rfl <| v0 (S0.move rfl) rfl <| ?_  -- op t13 := lookup 59 t11 t12 true
  refine v0 (S0.lookup2 (ek := Value.int .i64) rfl rfl) rfl <| ?_
  refine v0 (S0.move rfl) rfl <| v0 (S0.extract rfl rfl) rfl <| v0 (S0.extract rfl rfl) rfl <| v0 (S0.assign rfl) rfl <| v0 (S0.assign rfl) rfl <| vE <| WP.seq <| WP.region <| v0 (S0.move rfl) rfl <| v0 (S0.nilCheck rfl) rfl <| v0 (S0.fieldAddr rfl) rfl <| v0 (S0.load rfl rfl) rfl <| v0 (S0.move rfl) rfl <| ?_  -- op delete(t19, t20) :[59, 3]
  refine vs (S1.delete (ek := Value.int .i64) rfl rfl) <| ?_
  refine vE <| WP.seq <| WP.region <| v0 (S0.move rfl) rfl <| v0 (S0.assign rfl) rfl <| vE <| WP.ret <| ?_  -- ret
  refine r1 rfl rfl ?_
  rw [hg]
  exact ⟨by simp, _, rfl, m, _, _, hr.del ho k, rfl⟩
theorem hopen_spec {b : Nat} {R : BM} {c : List Blk} (hc : IsH b R c) (k e : Int) : FN Try.prog 19 [.pointer (some ⟨b, 0, none⟩), .int .i64 k, .int .i64 e] [c]
    (fun v h => v = .tuple ⟨[.bool (openB R k e), .int .i64 (openE R k e)]⟩ ∧ ∃ c', h = [c'] ∧ IsH b (openR R k e) c') := by
  obtain ⟨m, L, ck, hr, rfl⟩ := hc
  have hg : (getM L k).getD (.int .i64 0) = .int .i64 (epB R k) := by
    rw [hr.get k]; unfold epB; cases gB R k <;> rfl
  have bad : ∀ x, openE R k e = x → x ≠ 0 → (fun (v : Value) (h : Hp) => v = .tuple ⟨[.bool (openB R k e), .int .i64 (openE R k e)]⟩ ∧ ∃ c', h = [c'] ∧ IsH b (openR R k e) c') (.tuple ⟨[.bool false, .int .i64 x]⟩) [hallB b m L ck] := fun x hx h0 => by
    subst hx
    refine ⟨by simp [openB, h0], _, rfl, ?_⟩
    rw [openR, if_neg h0]
    exact ⟨m, L, ck, hr, rfl⟩
  refine FN.intro 39 [(0, .pointer (some ⟨b, 0, none⟩)), (1, .int .i64 k), (2, .int .i64 e)] Try.func19 rfl (enters Try.func19 (by kernel_rfl) rfl) Try.ntmps19 rfl rfl ?_
  refine WP.seq <| WP.region <| v0 (S0.assign rfl) rfl <| v0 (S0.assign rfl) rfl <| vE <| WP.seq <| WP.region <| v0 (S0.move rfl) rfl <| v0 (S0.nilCheck rfl) rfl <| v0 (S0.fieldAddr rfl) rfl <| v0 (S0.load rfl rfl) rfl <| v0 (S0.move rfl) rfl <| ?_  -- op t14 := lookup 59 t12 t13 false
  refine v0 (S0.lookupV (ek := Value.int .i64) rfl rfl hg) rfl <| ?_
  refine v0 (S0.assign rfl) rfl <| vE <| WP.seq <| WP.block <| WP.seq <| WP.region <| v0 (S0.move rfl) rfl <| v0 (S0.cmp rfl rfl rfl) rfl <| v0 (S0.move rfl) rfl <| ?_  -- guard t18 (wants False) at t19 := move t2 [if #2=False]
  first | refine csP (t := 18) rfl (fun h1 => ?_) (fun h1 => ?_) | refine csN (t := 18) rfl (fun h1 => ?_) (fun h1 => ?_) | refine cs (t := 18) rfl (fun h1 => ?_) (fun h1 => ?_)
  · skip
    refine gF rfl rfl <| gF rfl rfl <| v0 (S0.pickT rfl rfl) rfl <| v0 (S0.move rfl) rfl <| gF rfl rfl <| gF rfl rfl <| v0 (S0.pickT rfl rfl) rfl <| v0 (S0.assign rfl) rfl <| vE <| WP.condT rfl <| WP.seq <| WP.region <| v0 (S0.assign rfl) rfl <| v0 (S0.assign rfl) rfl <| vE <| WP.ret <| ?_  -- ret
    refine r2 rfl rfl rfl ?_
    exact bad 1 (by rw [openE, if_neg (by omega)]) (by decide)
  · skip
    refine gT rfl <| v0 (S0.move rfl) rfl <| gT rfl <| v0 (S0.cmp rfl rfl rfl) rfl <| v0 (S0.pickF rfl rfl) rfl <| v0 (S0.move rfl) rfl <| ?_  -- guard t22 (wants False) at t23 := move t2 [if #6=False]
    first | refine csP (t := 22) rfl (fun h2 => ?_) (fun h2 => ?_) | refine csN (t := 22) rfl (fun h2 => ?_) (fun h2 => ?_) | refine cs (t := 22) rfl (fun h2 => ?_) (fun h2 => ?_)
    · skip
      refine gF rfl rfl <| gF rfl rfl <| v0 (S0.pickT rfl rfl) rfl <| v0 (S0.assign rfl) rfl <| vE <| WP.condT rfl <| WP.seq <| WP.region <| v0 (S0.assign rfl) rfl <| v0 (S0.assign rfl) rfl <| vE <| WP.ret <| ?_  -- ret
      refine r2 rfl rfl rfl ?_
      exact bad 1 (by rw [openE, if_neg (by omega)]) (by decide)
    · skip
      refine gT rfl <| v0 (S0.move rfl) rfl <| gT rfl <| v0 (S0.cmp rfl rfl rfl) rfl <| v0 (S0.pickF rfl rfl) rfl <| v0 (S0.assign rfl) rfl <| vE <| ?_  -- cond
      first | refine WP.condP rfl (fun h3 => ?_) (fun h3 => ?_) | refine WP.condN rfl (fun h3 => ?_) (fun h3 => ?_) | refine WP.cond rfl (fun h3 => ?_) (fun h3 => ?_)
      · skip
        refine WP.seq <| WP.region <| v0 (S0.assign rfl) rfl <| v0 (S0.assign rfl) rfl <| vE <| WP.ret <| ?_  -- ret
        refine r2 rfl rfl rfl ?_
        exact bad 1 (by rw [openE, if_neg (by omega)]) (by decide)
      · skip
        refine WP.seq <| WP.region <| v0 (S0.move rfl) rfl <| v0 (S0.move rfl) rfl <| v0 (S0.cmp rfl rfl rfl) rfl <| v0 (S0.assign rfl) rfl <| vE <| ?_  -- cond
        first | refine WP.condP rfl (fun h4 => ?_) (fun h4 => ?_) | refine WP.condN rfl (fun h4 => ?_) (fun h4 => ?_) | refine WP.cond rfl (fun h4 => ?_) (fun h4 => ?_)
        · skip
          refine WP.seq <| WP.region <| v0 (S0.assign rfl) rfl <| v0 (S0.assign rfl) rfl <| vE <| WP.ret <| ?_  -- ret
          refine r2 rfl rfl rfl ?_
          exact bad 11 (by rw [openE, if_pos (by omega), if_pos h4]) (by decide)
        · skip
          refine WP.skip <| WP.seq <| WP.region <| v0 (S0.move rfl) rfl <| v0 (S0.nilCheck rfl) rfl <| v0 (S0.fieldAddr rfl) rfl <| v0 (S0.load rfl rfl) rfl <| v0 (S0.move rfl) rfl <| v0 (S0.move rfl) rfl <| ?_  -- op mapUpdate 59 t33 t34 t35
          refine vs (S1.mapUpdate (ek := Value.int .i64) rfl rfl rfl) <| ?_
          refine vE <| WP.seq <| WP.region <| v0 (S0.move rfl) rfl <| v0 (S0.move rfl) rfl <| v0 (S0.cmp rfl rfl rfl) rfl <| v0 (S0.assign rfl) rfl <| v0 (S0.assign rfl) rfl <| vE <| WP.ret <| ?_  -- ret
          refine r2 rfl rfl rfl ?_
          have e0 : openE R k e = 0 := by rw [openE, if_pos (by omega), if_neg h4]
          refine ⟨by simp [openB, e0], _, rfl, ?_⟩
          rw [openR, if_pos e0]
          exact ⟨m, _, _, hr.putR k e, rfl⟩
theorem keysorted_eq {R : BM} {L : ML Int} {ck : Nat} (hr : RepB R L ck) (ho : OkB R) {xs : ML Int} (hp : xs.Perm L) : sortI (xs.map (·.1)) = idsB R := by
  have h1 := such_eq hr ho (fun _ => true) hp
  have e2 : (R.filter fun _ => true) = R := List.filter_eq_self.2 fun _ _ => rfl
  rw [e2, List.filter_eq_self.2] at h1
  · exact h1
  · intro x hx
    have h2 : getM L x.1 = some x.2.1 := get_of_mem hr.wf.keys (b := x.2.2) (hp.mem_iff.1 hx)
    rw [hr.get] at h2
    cases hg : gB R x.1 with
    | none => rw [hg] at h2; cases h2
    | some t => rfl
theorem hids_spec {b : Nat} {R : BM} {c : List Blk} (hc : IsH b R c) (ho : OkB R) (hl : R.length ≤ 1000000) : FN Try.prog 29 [.pointer (some ⟨b, 0, none⟩)] [c] (fun v h => ∃ row, IsSl 3 1 v (ints (idsB R)) row ∧ h = [row, c]) := by
  obtain ⟨m, L, ck, hr, rfl⟩ := hc
  have hL : L.length ≤ 1000000 := by
    have h1 : (L.map (·.1)).Perm (R.map (·.1)) := (List.perm_ext_iff_of_nodup hr.wf.keys ho.keys).2 fun k => by
      have h2 := hr.get k
      have h3 := get_none_iff (L := L) (k := k)
      have h4 := gB_none (R := R) (k := k)
      rw [h2] at h3
      cases hg : gB R k <;> simp [hg] at h3 h4 <;> simp [h3, h4]
    have := h1.length_eq
    simp at this; omega
  refine FN.intro 9 [(0, .pointer (some ⟨b, 0, none⟩))] Try.func29 rfl (enters Try.func29 (by kernel_rfl) rfl) Try.ntmps29 rfl rfl ?_
  refine WP.seq <| WP.region <| v0 (S0.assign rfl) rfl <| vE <| WP.seq <| WP.region <| v0 (S0.move rfl) rfl <| v0 (S0.nilCheck rfl) rfl <| v0 (S0.fieldAddr rfl) rfl <| v0 (S0.load rfl rfl) rfl <| ?_  -- op t7 := call F37{maps.Keys[map[int]int,int,int]}(t6)
  refine vc (S1.callF rfl (keys_spec m) take0) rfl ?_
  rintro _ _ ⟨bx, rfl, rfl⟩
  refine app ?_
  -- (nothing to walk: op t8 := call F36{slices.Sorted[int]}(t7))
  refine vc (S1.callF rfl (sorted_keys (L := L) (ck := ck) hr.wf hL) (take1 at0 (take1 at0 take0))) rfl ?_
  rintro v _ ⟨xs, row, hp, hs, rfl⟩
  refine app ?_
  refine v0 (S0.assign rfl) rfl <| vE <| WP.ret <| ?_  -- ret
  refine r1 rfl rfl ?_
  rw [keysorted_eq hr ho hp] at hs
  exact ⟨row, hs, rfl⟩
end Go.Proofs.Ytjglpmaedphbnaa
