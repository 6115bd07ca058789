import Derived.Test.YtmnmikcpdhnbnaaB4
import Derived.Test.YtmnmikcpdhnbnaaLaw
namespace Go.Proofs.Ytmnmikcpdhnbnaa
open Go

theorem due_step {k i t n : Int} (hd : k ∣ t) (h1 : t < i) (h2 : i ≤ t + k) : (decide (k ≤ n + i - (n + t)) : Bool) = decide (i.tmod k = 0) := by
  obtain ⟨q, rfl⟩ := hd
  apply decide_eq_decide.2
  have e : i = (i - k * q) + k * q := by omega
  generalize hr : i - k * q = r at e
  have hr1 : 0 < r := by omega
  have hr2 : r ≤ k := by omega
  have : i.tmod k = 0 ↔ k ∣ i := (Int.dvd_iff_tmod_eq_zero).symm
  rw [this]
  constructor
  · intro h
    have : r = k := by omega
    rw [e, this]
    exact Int.dvd_add (Int.dvd_refl k) (Int.dvd_mul_right k q)
  · intro h
    have h3 : k ∣ r := by
      have := Int.dvd_sub h (Int.dvd_mul_right k q)
      rwa [hr] at this
    have := Int.le_of_dvd hr1 h3
    omega

theorem beatDue_walk (W : World) (every n : Int) (hn : 0 ≤ n ∧ n ≤ 255) : FN Try.prog 5 [.int .i64 every, .int .u8 n] [whole W] (fun v h => v = .bool true ∧ h = [whole W]) := by
  obtain ⟨e, he⟩ : ∃ e, bitsI .and .i64 every 15 = some e := ⟨_, rfl⟩
  have hm := mask_i64 he (by decide)
  refine FN.intro 41 [(0, .int .i64 every), (1, .int .u8 n)] Try.func5 rfl (enters Try.func5 (by kernel_rfl) rfl) Try.ntmps5 rfl rfl ?_
  refine WP.seq <| WP.region <| v0 (S0.assign rfl) rfl <| vE <| WP.seq <| WP.region <| v0 (S0.move rfl) rfl <| ?_  -- op t11 := and t10 15:i64 :3
  refine v0 (S0.bits rfl rfl he) rfl <| ?_
  refine v0 (S0.ari rfl rfl rfl (wrap_i64 (by omega))) rfl <| v0 (S0.assign rfl) rfl <| vE <| WP.seq <| WP.region <| v0 (S0.move rfl) rfl <| ?_  -- op t15 := call F8{rivulet/beat.New}(t14, 100:i64)
  refine vc (S1.callF rfl (new_ok (every := 1 + e) (limit := 100) (by omega)) take0) rfl ?_
  rintro _ _ ⟨b, c0, rfl, rfl, hc0⟩
  refine app ?_
  refine v0 (S0.move rfl) rfl <| v0 (S0.extract rfl rfl) rfl <| v0 (S0.extract rfl rfl) rfl <| v0 (S0.assign rfl) rfl <| v0 (S0.assign rfl) rfl <| vE <| WP.seq <| WP.seq <| WP.region <| v0 (S0.move rfl) rfl <| v0 (S0.nilP rfl rfl rfl rfl) rfl <| v0 (S0.move rfl) rfl <| ?_  -- guard t20 (wants False) at t21 := move t7 [if #2=False]
  refine csFh (t := 20) rfl (rfl) ?_
  refine gT rfl <| v0 (S0.move rfl) rfl <| gT rfl <| v0 (S0.cmp rfl rfl rfl) rfl <| v0 (S0.pickF rfl rfl) rfl <| vE <| ?_  -- cond
  refine WP.condFh rfl (rfl) ?_
  refine WP.skip <| WP.seq <| WP.region <| v0 (S0.move rfl) rfl <| v0 (S0.convI rfl (wrap_i64 (by omega))) rfl <| v0 (S0.assign rfl) rfl <| vE <| ?_  -- cut
  refine WP.cutS (fun c : List Blk => True) (fun c : List Blk => [(0, .int .i64 every)]) (fun c : List Blk => [whole W]) ?_ (fun c hinv => ?_)
  · refine WP.seq <| WP.region <| v0 (S0.assign rfl) rfl <| vE <| WP.block <| ?_  -- Code.loop
    refine WP.loop (fun s : Nat × Int × List Blk => s.1 ≤ 100 ∧ IsB b (1 + e) 100 s.2.1 [] s.2.2 ∧ ((s.1 = 0 ∧ s.2.1 = -1) ∨ ∃ t, s.2.1 = n + t ∧ (1 + e) ∣ t ∧ 0 ≤ t ∧ t < s.1 ∧ s.1 ≤ t + (1 + e))) (fun s : Nat × Int × List Blk => [(5, .int .i64 (1 + e)), (6, .pointer (some ⟨b, 0, none⟩)), (8, .int .i64 n), (9, .int .i64 (s.1 : Int)), (0, .int .i64 every)]) (fun s : Nat × Int × List Blk => [s.2.2, whole W]) (fun s : Nat × Int × List Blk => 100 - s.1) ((0, -1, c0)) (⟨Nat.zero_le _, hc0, .inl ⟨rfl, rfl⟩⟩) ⟨rfl, rfl, rfl, rfl, rfl, trivial⟩ ⟨_, (take1 at0 (take1 at0 take0))⟩ (fun s hinv => ?_) 
    obtain ⟨i, last, c⟩ := s
    obtain ⟨hi, hc, hl⟩ := hinv
    dsimp only at hi hc hl ⊢
    refine WP.seq <| WP.seq <| WP.region <| v0 (S0.move rfl) rfl <| v0 (S0.cmp rfl rfl rfl) rfl <| vE <| ?_  -- cond
    first | refine WP.condP rfl (fun h1 => ?_) (fun h1 => ?_) | refine WP.condN rfl (fun h1 => ?_) (fun h1 => ?_) | refine WP.cond rfl (fun h1 => ?_) (fun h1 => ?_)
    · skip
      refine WP.skip <| WP.seq <| WP.block <| WP.seq <| WP.drawP [0, 1, 2, 3, 5, 6, 7, 8, 4, 9] mixed (by kernel_rfl) (by kernel_rfl) (by kernel_rfl) take0 <| w0 rfl rfl rfl (S0.move rfl) rfl <| w0 rfl rfl rfl (S0.move rfl) rfl <| w0 rfl rfl rfl (S0.move rfl) rfl <| w0 rfl rfl rfl (S0.ari rfl rfl rfl (wrap_i64 (by omega))) rfl <| w0 rfl rfl rfl (S0.move rfl) rfl <| w0 rfl rfl rfl (S0.move rfl) rfl <| ?_  -- op t37 := rem t35 t36 :3
      refine w0 rfl rfl rfl (S0.rem rfl rfl (by omega)) rfl <| ?_
      refine w0 rfl rfl rfl (S0.cmp rfl rfl rfl) rfl <| ?_  -- op t34 := call F16{(*rivulet/beat.Beats).Due}(t30, t33)
      have hb : -1 ≤ last ∧ last ≤ 1099511627776 := by
        rcases hl with ⟨-, h⟩ | ⟨t, h, -, h2, h3, h4⟩ <;> omega
      refine wc rfl rfl rfl (S1.callF rfl (due_spec hc hb (n + i)) (take1 at0 take0)) rfl ?_
      rintro _ _ ⟨rfl, c2, rfl, hc2⟩
      refine wapp ?_
      have key : dueB (1 + e) last (n + i) = decide ((i : Int).tmod (1 + e) = 0) := by
        rw [dueB, isT (by omega), Bool.true_and]
        rcases hl with ⟨rfl, rfl⟩ | ⟨t, rfl, hd, h2, h3, h4⟩
        · simp
        · rw [← due_step (n := n) hd h3 h4]
          have : (n + t == -1) = false := by simp; omega
          rw [this]; rfl
      refine w0 rfl rfl rfl (S0.cmpB rfl rfl rfl) rfl <| wE <| ?_  -- cond
      refine WP.condFh rfl ((by rw [key]; simp)) ?_
      refine WP.skip <| WP.region <| v0 (S0.move rfl) rfl <| v0 (S0.ari rfl rfl rfl (wrap_i64 (by omega))) rfl <| v0 (S0.assign rfl) rfl <| vE <| ?_  -- roundend
      have hnext : ∃ t, (if dueB (1 + e) last (n + i) then n + (i : Int) else last) = n + t ∧ (1 + e) ∣ t ∧ 0 ≤ t ∧ t < ((i + 1 : Nat) : Int) ∧ ((i + 1 : Nat) : Int) ≤ t + (1 + e) := by
        cases hdue : dueB (1 + e) last (n + i) with
        | true =>
          rw [hdue] at key
          exact ⟨i, rfl, Int.dvd_of_tmod_eq_zero (of_decide_eq_true key.symm), by omega, by omega, by omega⟩
        | false =>
          rcases hl with ⟨rfl, rfl⟩ | ⟨t, rfl, hd, h2, h3, h4⟩
          · rw [hdue] at key; simp at key
          · refine ⟨t, rfl, hd, h2, by omega, ?_⟩
            have h5 := due_step (n := n) hd h3 h4
            rw [← key, hdue] at h5
            have := of_decide_eq_false h5
            omega
      exact ⟨(i + 1, (if dueB (1 + e) last (n + i) then n + (i : Int) else last), c2), (by first | exact ⟨by omega, hc2, .inr hnext⟩ | (dsimp only; exact ⟨by omega, hc2, .inr hnext⟩)), (show 100 - (i + 1) < 100 - i by omega), ⟨⟨rfl, rfl, rfl, rfl, rfl, trivial⟩, rfl, rfl⟩, ⟨_, (take1 at0 (take1 at0 take0))⟩⟩
    · skip
      refine WP.exit <| ?_  -- cutend
      exact ⟨c, (by first | exact trivial | (dsimp only; exact trivial)), ⟨⟨rfl, trivial⟩, rfl, rfl⟩, ⟨_, (take1 (atS at0) take0)⟩⟩
  · skip
    refine WP.seq <| WP.region <| ?_  -- op t40 := call F25{rivulet/rivuletlaw15.fixed}()
    refine vc (S1.callF rfl (fixed_spec) take0) rfl ?_
    rintro _ _ ⟨rfl, rfl⟩
    refine app ?_
    refine v0 (S0.assign rfl) rfl <| vE <| WP.ret <| ?_  -- ret
    refine r1 rfl rfl ?_
    exact ⟨rfl, rfl⟩
end Go.Proofs.Ytmnmikcpdhnbnaa
