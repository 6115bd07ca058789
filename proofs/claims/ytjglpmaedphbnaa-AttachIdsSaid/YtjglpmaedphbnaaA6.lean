import Derived.Test.YtjglpmaedphbnaaA5
import Derived.Test.YtjglpmaedphbnaaInt
namespace Go.Proofs.Ytjglpmaedphbnaa
open Go

theorem due_step {k i t n : Int} (hd : k ∣ t) (h1 : t < i) (h2 : i ≤ t + k) : (decide (k ≤ n + i - (n + t)) : Bool) = decide (i.tmod k = 0) := by
  obtain ⟨q, rfl⟩ := hd
  apply decide_eq_decide.2
  have e : i = (i - k * q) + k * q := by omega
  generalize hr : i - k * q = r at e
  have hr1 : 0 < r := by omega
  have hr2 : r ≤ k := by omega
  have : i.tmod k = 0 ↔ k ∣ i := (Int.dvd_iff_tmod_eq_zero).symm
  rw [this]
  constructor
  · intro h
    have : r = k := by omega
    rw [e, this]
    exact Int.dvd_add (Int.dvd_refl k) (Int.dvd_mul_right k q)
  · intro h
    have h3 : k ∣ r := by
      have := Int.dvd_sub h (Int.dvd_mul_right k q)
      rwa [hr] at this
    have := Int.le_of_dvd hr1 h3
    omega

/-- how it stands behind i ticks -/
def AgainI (k up : Int) (i : Nat) (c : Ch) : Prop := ((i : Int) ≤ up ∧ ∃ t, c = ⟨k, 1, 1, 3, 10 + t⟩ ∧ k ∣ t ∧ 0 ≤ t ∧ (i : Int) ≤ t + k ∧ (t < (i : Int) ∨ (i = 0 ∧ t = 0))) ∨ (up < (i : Int) ∧ c.state = 2)

theorem attachAgain_walk (W : World) (every answer : Int) (hw : (Lit.int .u8 answer).wf = true) : FN Try.prog 6 [.int .i64 every, .int .u8 answer] [whole W] (fun v h => v = .bool true ∧ h = [whole W]) := by
  obtain ⟨e, he⟩ : ∃ e, bitsI .and .i64 every 15 = some e := ⟨_, rfl⟩
  have hm := mask_i64 he (by decide)
  have hab := wf_u8 hw
  refine FN.intro 75 [(0, .int .i64 every), (1, .int .u8 answer)] Try.func6 rfl (enters Try.func6 (by kernel_rfl) rfl) Try.ntmps6 rfl rfl ?_
  refine WP.seq <| WP.region <| v0 (S0.assign rfl) rfl <| vE <| WP.seq <| WP.region <| v0 (S0.move rfl) rfl <| ?_  -- op t13 := and t12 15:i64 :3
  refine v0 (S0.bits rfl rfl he) rfl <| ?_
  refine v0 (S0.ari rfl rfl rfl (wrap_i64 (by omega))) rfl <| v0 (S0.assign rfl) rfl <| vE <| WP.seq <| WP.region <| v0 (S0.move rfl) rfl <| ?_  -- op t17 := call F8{rivulet/attach.New}(t16, 0:i64)
  generalize hk : 1 + e = k
  have hk1 : 1 ≤ k ∧ k ≤ 16 := by omega
  refine vc (S1.callF rfl (cnew_ok (every := k) (epoch := 0) (by omega)) take0) rfl ?_
  rintro _ _ ⟨b, rfl, rfl⟩
  refine app ?_
  refine v0 (S0.move rfl) rfl <| v0 (S0.extract rfl rfl) rfl <| v0 (S0.extract rfl rfl) rfl <| v0 (S0.assign rfl) rfl <| v0 (S0.assign rfl) rfl <| vE <| WP.seq <| WP.seq <| WP.region <| v0 (S0.move rfl) rfl <| v0 (S0.nilP rfl rfl rfl rfl) rfl <| v0 (S0.move rfl) rfl <| ?_  -- guard t22 (wants False) at t23 := move t7 [if #2=False]
  refine csFh (t := 22) rfl (rfl) ?_
  refine gT rfl <| v0 (S0.move rfl) rfl <| gT rfl <| v0 (S0.cmp rfl rfl rfl) rfl <| v0 (S0.pickF rfl rfl) rfl <| v0 (S0.move rfl) rfl <| ?_  -- guard t26 (wants False) at t27 := move t6 [if #6=False]
  refine csFh (t := 26) rfl (rfl) ?_
  refine gT rfl <| v0 (S0.move rfl) rfl <| ?_  -- op t28 := call F13{(*rivulet/attach.Child).Again}(t27, 0:i64) [if #6=False]
  have k0 : OkC ⟨k, 0, 0, 0, 0⟩ := ⟨by simp; omega, by simp, .inl rfl, by simp⟩
  have s1 := again_spec (b := b) k0 0
  rw [show againC ⟨k, 0, 0, 0, 0⟩ 0 = ⟨k, 0, 0, 0, 0⟩ by simp [againC, againB], show againB ⟨k, 0, 0, 0, 0⟩ 0 = false by simp [againB]] at s1
  refine gT rfl <| vcd (S1.callF rfl (s1) (take1 at0 take0)) rfl ?_
  refine v0 (S0.pickF rfl rfl) rfl <| vE <| ?_  -- cond
  refine WP.condFh rfl (rfl) ?_
  refine WP.skip <| WP.seq <| WP.region <| v0 (S0.move rfl) rfl <| ?_  -- op t32 := call F11{(*rivulet/attach.Child).Ask}(t31, 3:i64, 10:i64)
  have s2 := ask_spec (b := b) k0 3 10
  have hb2 : askB ⟨k, 0, 0, 0, 0⟩ 3 10 = true := by simp [askB, isTime]
  rw [askV, askE, askC, hb2] at s2
  simp only [if_true] at s2
  refine vcd (S1.callF rfl (s2) (take1 at0 take0)) rfl ?_
  refine v0 (S0.move rfl) rfl <| v0 (S0.extract rfl rfl) rfl <| v0 (S0.extract rfl rfl) rfl <| v0 (S0.assign rfl) rfl <| v0 (S0.assign rfl) rfl <| vE <| WP.seq <| WP.seq <| WP.region <| v0 (S0.move rfl) rfl <| v0 (S0.cmp rfl rfl rfl) rfl <| v0 (S0.move rfl) rfl <| ?_  -- guard t37 (wants False) at t38 := move t9 [if #2=False]
  refine csFh (t := 37) rfl (rfl) ?_
  refine gT rfl <| v0 (S0.move rfl) rfl <| gT rfl <| v0 (S0.cmp rfl rfl rfl) rfl <| v0 (S0.pickF rfl rfl) rfl <| vE <| ?_  -- cond
  refine WP.condFh rfl (rfl) ?_
  refine WP.skip <| WP.seq <| WP.region <| v0 (S0.move rfl) rfl <| v0 (S0.convI rfl (wrap_i64 (by omega))) rfl <| ?_  -- op t43 := rem t42 120:i64 :3
  refine v0 (S0.rem rfl rfl (by decide)) rfl <| ?_
  have hu1 : 0 ≤ answer.tmod 120 := Int.tmod_nonneg 120 hab.1
  have hu2 : answer.tmod 120 < 120 := Int.tmod_lt_of_pos answer (by decide)
  generalize answer.tmod 120 = up at hu1 hu2 ⊢
  refine v0 (S0.assign rfl) rfl <| vE <| ?_  -- cut
  refine WP.cutS (fun s : Nat => True) (fun s : Nat => [(6, .pointer (some ⟨b, 0, none⟩))]) (fun s : Nat => [whole W]) ?_ (fun s hinv => ?_)
  · refine WP.seq <| WP.region <| v0 (S0.assign rfl) rfl <| vE <| WP.block <| ?_  -- Code.loop
    refine WP.loop (fun s : Nat × Ch => s.1 ≤ 100 ∧ OkC s.2 ∧ AgainI k up s.1 s.2) (fun s : Nat × Ch => [(5, .int .i64 k), (6, .pointer (some ⟨b, 0, none⟩)), (10, .int .i64 up), (11, .int .i64 (s.1 : Int))]) (fun s : Nat × Ch => [chB b s.2, whole W]) (fun s : Nat × Ch => 100 - s.1) ((0, ⟨k, 1, 1, 3, 10⟩)) (⟨Nat.zero_le _, ⟨by simp; omega, by simp, .inr (.inl rfl), by simp⟩, .inl ⟨by simpa using hu1, 0, rfl, Int.dvd_zero k, by simp, by simp; omega, .inr ⟨rfl, rfl⟩⟩⟩) ⟨rfl, rfl, rfl, rfl, trivial⟩ ⟨_, (take1 at0 (take1 at0 take0))⟩ (fun s hinv => ?_) 
    obtain ⟨i, c⟩ := s
    obtain ⟨hi, hO, hI⟩ := hinv
    dsimp only at hi hO hI ⊢
    refine WP.seq <| WP.seq <| WP.region <| v0 (S0.move rfl) rfl <| v0 (S0.cmp rfl rfl rfl) rfl <| vE <| ?_  -- cond
    first | refine WP.condP rfl (fun h1 => ?_) (fun h1 => ?_) | refine WP.condN rfl (fun h1 => ?_) (fun h1 => ?_) | refine WP.cond rfl (fun h1 => ?_) (fun h1 => ?_)
    · skip
      refine WP.skip <| WP.seq <| WP.block <| WP.seq <| WP.seq <| WP.region <| v0 (S0.move rfl) rfl <| v0 (S0.move rfl) rfl <| v0 (S0.cmp rfl rfl rfl) rfl <| v0 (S0.move rfl) rfl <| ?_  -- guard t51 (wants True) at t52 := move t6 [if #3=True]
      first | refine csP (t := 51) rfl (fun h2 => ?_) (fun h2 => ?_) | refine csN (t := 51) rfl (fun h2 => ?_) (fun h2 => ?_) | refine cs (t := 51) rfl (fun h2 => ?_) (fun h2 => ?_)
      · skip
        refine gT rfl <| v0 (S0.move rfl) rfl <| ?_  -- op t53 := call F15{(*rivulet/attach.Child).Welcome}(t52, 3:i64, 1:i64) [if #3=True]
        rcases hI with ⟨-, t, rfl, hd, ht0, ht1, ht2⟩ | ⟨h, -⟩
        · have s3 := wel_spec (b := b) hO 3 1
          have hw0 : welE ⟨k, 1, 1, 3, 10 + t⟩ 3 1 = 0 := by simp [welE]
          rw [welC, hw0] at s3
          simp only [if_true] at s3
          have hO2 : OkC ⟨k, 1, 2, 3, 10 + t⟩ := ⟨hO.every, hO.epoch, .inr (.inr rfl), hO.asked⟩
          have s4 := again_spec (b := b) hO2 (10 + i)
          have ha : againB ⟨k, 1, 2, 3, 10 + t⟩ (10 + i) = false := by simp [againB]
          rw [againC, ha] at s4
          simp only [Bool.false_eq_true, if_false] at s4
          refine gT rfl <| vcd (S1.callF rfl (s3) (take1 at0 take0)) rfl ?_
          refine gT rfl <| v0 (S0.cmp rfl rfl rfl) rfl <| v0 (S0.pickT rfl rfl) rfl <| vE <| ?_  -- cond
          refine WP.condFh rfl (rfl) ?_
          refine WP.skip <| WP.seq <| WP.region <| v0 (S0.move rfl) rfl <| v0 (S0.move rfl) rfl <| v0 (S0.ari rfl rfl rfl (wrap_i64 (by omega))) rfl <| ?_  -- op t59 := call F13{(*rivulet/attach.Child).Again}(t56, t58)
          refine vcd (S1.callF rfl (s4) (take1 at0 take0)) rfl ?_
          refine v0 (S0.move rfl) rfl <| v0 (S0.move rfl) rfl <| v0 (S0.cmp rfl rfl rfl) rfl <| v0 (S0.move rfl) rfl <| ?_  -- guard t63 (wants True) at t64 := move t11 [if #7=True]
          refine csFh (t := 63) rfl ((decide_eq_false (by omega))) ?_
          refine gF rfl rfl <| gF rfl rfl <| v0 (S0.pickF rfl rfl) rfl <| v0 (S0.move rfl) rfl <| gF rfl rfl <| gF rfl rfl <| gF rfl rfl <| gF rfl rfl <| v0 (S0.pickF rfl rfl) rfl <| v0 (S0.cmpB rfl rfl rfl) rfl <| vE <| ?_  -- cond
          refine WP.condFh rfl (rfl) ?_
          refine WP.skip <| WP.region <| v0 (S0.move rfl) rfl <| v0 (S0.ari rfl rfl rfl (wrap_i64 (by omega))) rfl <| v0 (S0.assign rfl) rfl <| vE <| ?_  -- roundend
          exact ⟨(i + 1, ⟨k, 1, 2, 3, 10 + t⟩), (by first | exact ⟨by omega, hO2, .inr ⟨by omega, rfl⟩⟩ | (dsimp only; exact ⟨by omega, hO2, .inr ⟨by omega, rfl⟩⟩)), (show 100 - (i + 1) < 100 - i by omega), ⟨⟨rfl, rfl, rfl, rfl, trivial⟩, rfl, rfl⟩, ⟨_, (take1 at0 (take1 at0 take0))⟩⟩
        · omega
      · skip
        refine gF rfl rfl <| gF rfl rfl <| gF rfl rfl <| v0 (S0.pickF rfl rfl) rfl <| vE <| WP.condF rfl <| WP.skip <| WP.seq <| WP.region <| v0 (S0.move rfl) rfl <| v0 (S0.move rfl) rfl <| v0 (S0.ari rfl rfl rfl (wrap_i64 (by omega))) rfl <| ?_  -- op t59 := call F13{(*rivulet/attach.Child).Again}(t56, t58)
        refine vcd (S1.callF rfl (again_spec hO (10 + i)) (take1 at0 take0)) rfl ?_
        refine v0 (S0.move rfl) rfl <| v0 (S0.move rfl) rfl <| v0 (S0.cmp rfl rfl rfl) rfl <| v0 (S0.move rfl) rfl <| ?_  -- guard t63 (wants True) at t64 := move t11 [if #7=True]
        first | refine csP (t := 63) rfl (fun h3 => ?_) (fun h3 => ?_) | refine csN (t := 63) rfl (fun h3 => ?_) (fun h3 => ?_) | refine cs (t := 63) rfl (fun h3 => ?_) (fun h3 => ?_)
        · skip
          obtain ⟨t, rfl, hd, ht0, ht1, ht2⟩ : ∃ t, c = ⟨k, 1, 1, 3, 10 + t⟩ ∧ k ∣ t ∧ 0 ≤ t ∧ (i : Int) ≤ t + k ∧ (t < (i : Int) ∨ (i = 0 ∧ t = 0)) := by
            rcases hI with h | ⟨h, -⟩
            · exact h.2
            · omega
          have hT : isTime (10 + (i : Int)) = true := isT (by omega)
          refine gT rfl <| v0 (S0.move rfl) rfl <| gT rfl <| v0 (S0.cmp rfl rfl rfl) rfl <| v0 (S0.pickT rfl rfl) rfl <| v0 (S0.move rfl) rfl <| ?_  -- guard t67 (wants True) at t68 := move t11 [if #11=True]
          first | refine csP (t := 67) rfl (fun h4 => ?_) (fun h4 => ?_) | refine csN (t := 67) rfl (fun h4 => ?_) (fun h4 => ?_) | refine cs (t := 67) rfl (fun h4 => ?_) (fun h4 => ?_)
          · skip
            refine gT rfl <| v0 (S0.move rfl) rfl <| gT rfl <| v0 (S0.move rfl) rfl <| ?_  -- op t70 := rem t68 t69 :3 [if #11=True]
            refine gT rfl <| v0 (S0.rem rfl rfl (by omega)) rfl <| ?_
            refine gT rfl <| v0 (S0.cmp rfl rfl rfl) rfl <| v0 (S0.pickT rfl rfl) rfl <| v0 (S0.cmpB rfl rfl rfl) rfl <| vE <| ?_  -- cond
            have hti : t < (i : Int) := by omega
            have key : againB ⟨k, 1, 1, 3, 10 + t⟩ (10 + i) = decide ((i : Int).tmod k = 0) := by
              rw [againB, hT, ← due_step (n := 10) hd hti ht1]; rfl
            have hO2 := hO.again (10 + i)
            have hnx : AgainI k up (i + 1) (againC ⟨k, 1, 1, 3, 10 + t⟩ (10 + i)) := by
              refine .inl ⟨by omega, ?_⟩
              cases hdue : againB ⟨k, 1, 1, 3, 10 + t⟩ (10 + i) with
              | true =>
                rw [hdue] at key
                refine ⟨i, by rw [againC, hdue]; rfl, Int.dvd_of_tmod_eq_zero (of_decide_eq_true key.symm), by omega, by omega, .inl (by omega)⟩
              | false =>
                refine ⟨t, by rw [againC, hdue]; rfl, hd, ht0, ?_, .inl (by omega)⟩
                have h5 := due_step (n := 10) hd hti ht1
                rw [← key, hdue] at h5
                have := of_decide_eq_false h5
                omega
            refine WP.condFh rfl ((by rw [key]; simp)) ?_
            refine WP.skip <| WP.region <| v0 (S0.move rfl) rfl <| v0 (S0.ari rfl rfl rfl (wrap_i64 (by omega))) rfl <| v0 (S0.assign rfl) rfl <| vE <| ?_  -- roundend
            exact ⟨(i + 1, againC ⟨k, 1, 1, 3, 10 + t⟩ (10 + i)), (by first | exact ⟨by omega, hO2, hnx⟩ | (dsimp only; exact ⟨by omega, hO2, hnx⟩)), (show 100 - (i + 1) < 100 - i by omega), ⟨⟨rfl, rfl, rfl, rfl, trivial⟩, rfl, rfl⟩, ⟨_, (take1 at0 (take1 at0 take0))⟩⟩
          · skip
            have hi0 : i = 0 := by omega
            subst hi0
            have ht : t = 0 := by omega
            subst ht
            have ha : againB ⟨k, 1, 1, 3, 10 + 0⟩ (10 + ((0 : Nat) : Int)) = false := by
              have : decide (k ≤ 10 + ((0 : Nat) : Int) - (10 + 0)) = false := decide_eq_false (by omega)
              rw [againB, this, Bool.and_false]
            have hO2 := hO.again (10 + ((0 : Nat) : Int))
            have hnx : AgainI k up (0 + 1) (againC ⟨k, 1, 1, 3, 10 + 0⟩ (10 + ((0 : Nat) : Int))) := by
              refine .inl ⟨by omega, 0, by rw [againC, ha]; rfl, Int.dvd_zero k, by omega, by omega, .inl (by omega)⟩
            refine gF rfl rfl <| gF rfl rfl <| gF rfl rfl <| gF rfl rfl <| v0 (S0.pickF rfl rfl) rfl <| v0 (S0.cmpB rfl rfl rfl) rfl <| vE <| ?_  -- cond
            refine WP.condFh rfl ((by rw [ha]; rfl)) ?_
            refine WP.skip <| WP.region <| v0 (S0.move rfl) rfl <| v0 (S0.ari rfl rfl rfl (wrap_i64 (by omega))) rfl <| v0 (S0.assign rfl) rfl <| vE <| ?_  -- roundend
            exact ⟨(0 + 1, againC ⟨k, 1, 1, 3, 10 + 0⟩ (10 + ((0 : Nat) : Int))), (by first | exact ⟨by omega, hO2, hnx⟩ | (dsimp only; exact ⟨by omega, hO2, hnx⟩)), (by simp), ⟨⟨rfl, rfl, rfl, rfl, trivial⟩, rfl, rfl⟩, ⟨_, (take1 at0 (take1 at0 take0))⟩⟩
        · skip
          rcases hI with ⟨h, -⟩ | ⟨hup, hs2⟩
          · omega
          have ha : againB c (10 + i) = false := by simp [againB, hs2]
          have hO2 := hO.again (10 + i)
          have hnx : AgainI k up (i + 1) (againC c (10 + i)) := .inr ⟨by omega, by rw [againC, ha]; exact hs2⟩
          refine gF rfl rfl <| gF rfl rfl <| v0 (S0.pickF rfl rfl) rfl <| v0 (S0.move rfl) rfl <| gF rfl rfl <| gF rfl rfl <| gF rfl rfl <| gF rfl rfl <| v0 (S0.pickF rfl rfl) rfl <| v0 (S0.cmpB rfl rfl rfl) rfl <| vE <| ?_  -- cond
          refine WP.condFh rfl ((by rw [ha]; rfl)) ?_
          refine WP.skip <| WP.region <| v0 (S0.move rfl) rfl <| v0 (S0.ari rfl rfl rfl (wrap_i64 (by omega))) rfl <| v0 (S0.assign rfl) rfl <| vE <| ?_  -- roundend
          exact ⟨(i + 1, againC c (10 + i)), (by first | exact ⟨by omega, hO2, hnx⟩ | (dsimp only; exact ⟨by omega, hO2, hnx⟩)), (show 100 - (i + 1) < 100 - i by omega), ⟨⟨rfl, rfl, rfl, rfl, trivial⟩, rfl, rfl⟩, ⟨_, (take1 at0 (take1 at0 take0))⟩⟩
    · skip
      refine WP.exit <| ?_  -- cutend
      exact ⟨0, (by first | exact trivial | (dsimp only; exact trivial)), ⟨⟨rfl, trivial⟩, rfl, rfl⟩, ⟨_, (take1 (atS at0) take0)⟩⟩
  · skip
    refine WP.seq <| WP.region <| ?_  -- op t74 := call F31{rivulet/rivuletlaw17.fixed}()
    refine vc (S1.callF rfl (fixed_spec) take0) rfl ?_
    rintro _ _ ⟨rfl, rfl⟩
    refine app ?_
    refine v0 (S0.assign rfl) rfl <| vE <| WP.ret <| ?_  -- ret
    refine r1 rfl rfl ?_
    exact ⟨rfl, rfl⟩
end Go.Proofs.Ytjglpmaedphbnaa
