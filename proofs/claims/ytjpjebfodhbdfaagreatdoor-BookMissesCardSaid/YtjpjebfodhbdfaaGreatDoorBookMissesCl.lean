/-
  BookMisses, of every input: it returns true and its arguments read behind the call as before; Go's two tables of utf8 are laid as the program's text lays them. No condition is added to the given statement's own.
-/
import Derived.Test.YtjpjebfodhbdfaaGreatDoorCards
import Derived.Test.YtjpjebfodhbdfaaGreatDoorTie
import Derived.Test.YtjpjebfodhbdfaaGreatDoorMg4
import Derived.SevenTiedAt
namespace Go.Proofs.YtjpjebfodhbdfaaGreatDoor
open Go Go.ChangeShapes Go.WideShapes Go.ChangeAt Go.RowKit
theorem bookMisses_own : ownKnob Tryz.prog.godebug = none := by kernel_rfl
set_option maxRecDepth 100000 in
theorem bookMisses_lifted (os : Os) (started : os.Started) (H : Type) (enc : TypeId × Value → H) :
    ReturnsInHanded {} Tryz.checked os 7 .any (fun w args => (Rows.bookMissesSpec.pre enc Tryz.prog Tryz.f7 [] false w args ∧ laidMetH Tryz.prog Rows.bookMissesRow.laid w) ∧ sizedMet enc Tryz.prog Tryz.f7 (OpenSpec.ofChange Rows.bookMissesSpec) false w args)
      (Rows.bookMissesSpec.post enc Tryz.prog Tryz.f7 false true false false) := by
  refine returnsInHanded_of_change_and (C := Tryz.checked) (X := fun w _ => laidMetH Tryz.prog laidList w) (fun _ _ _ hh h => h.of_heap hh) bookMisses_own started (by kernel_rfl) Tryz.func7
    (ChangeSpec.witness_at (enc := enc) (C := Tryz.checked) (os := os) (X := fun w _ => laidMetH Tryz.prog laidList w) false (laidWorld os) #[.slice none 0 0, .slice none 0 0] 8 rfl (by kernel_rfl) (by kernel_rfl) (by kernel_rfl) (by kernel_rfl) (by kernel_rfl) (laidWorld_met os _)) ?_
  intro W base args ds gs before hval hW _ _ _ _
  have hW' := hW
  obtain ⟨p, q, hA0, hV, rfl, hfz, hnd⟩ := hW
  have hA : DataW.TrodAll enc Tryz.prog W 0 (fun _ => true) true Tryz.f7.params.toList args.toList ds p := hA0
  rw [Tryz.params7] at hA hval
  obtain ⟨v0, vs0, d0, ds0, p0, q0, hargs, rfl, rfl, h0, r0⟩ := trodAll_cons hA
  obtain ⟨v1, vs1, d1, ds1, p1, q1, rfl, rfl, rfl, h1, r1⟩ := trodAll_cons r0
  obtain ⟨rfl, rfl, rfl⟩ := trodAll_nil r1
  obtain rfl : args = #[v0, v1] := by cases args; simp_all
  have w0 : ArgF W opK v0 := open_argF 4 Tryz.underlying22 (by kernel_rfl) (by kernel_rfl) (by decide) (hval 0 _ v0 rfl rfl) h0
  have w1 : ArgF W mkK v1 := open_argF 3 Tryz.underlying23 (by kernel_rfl) (by kernel_rfl) (by decide) (hval 1 _ v1 rfl rfl) h1
  refine (law_calls (bookMisses_walk W v0 w0 v1 w1)).mono fun e W' ⟨he, hb⟩ => ?_
  subst he
  exact ⟨_, rfl, law_post (by kernel_rfl) rfl rfl Tryz.underlying4 (by kernel_rfl) (fun ds hd => by match ds, hd with | [_, _], _ => exact ⟨rfl, rfl, rfl⟩) hW' hb⟩
theorem bookMisses_holds : Rows.BookMissesSaid :=
  OpenClaim.holds_of_wide 7 Tryz.f7 rfl rfl rfl rfl rfl rfl rfl ⟨rfl, rfl, rfl, rfl, rfl⟩ rfl rfl rfl rfl rfl (by kernel_rfl) Tryz.func7 (by kernel_rfl)
    (of_decide_eq_true (by kernel_rfl)) (by unfold Func.isWrapper; first | (rw [if_pos (by decide +kernel)]; kernel_rfl) | (rw [if_neg (by decide +kernel)]; exact ⟨rfl, rfl⟩))
    (fun os started H enc _ => bookMisses_lifted os started H enc)
theorem bookMisses_card : Rows.BookMissesCardSaid :=
  Claim7.holds_tied_plain_at .later [] [.data, .pinned] true (true, "5f5aa6aa9e88610bde0f6cf05e3eac525d6829ca5004983b3e8538a14fefc3b4") true bookMisses_holds (fun _ h => by cases h) (by kernel_rfl) (fun _ h => by cases h) bookMisses_row_tie rfl ⟨rfl, rfl⟩ (by kernel_rfl) rfl
    (fun f fn hf hfn => by
      obtain rfl : f = 7 := Option.some.inj ((show Tryz.prog.funcNamed "rivulet/rivuletlaw11.BookMisses" = some 7 by kernel_rfl).symm.trans hf) |>.symm
      obtain rfl : fn = Tryz.f7 := (Option.some.inj (Tryz.func7.symm.trans hfn)).symm
      exact ⟨by kernel_rfl, fun j t ht => by
        rw [Tryz.params7] at ht
        match j, ht with
        | 0, ht => obtain rfl : t = 22 := by simpa using ht.symm
                   exact (show Tryz.prog.wantsStandIn 22 = false by kernel_rfl)
        | 1, ht => obtain rfl : t = 23 := by simpa using ht.symm
                   exact (show Tryz.prog.wantsStandIn 23 = false by kernel_rfl)
        | j + 2, ht => simp at ht⟩)
    (by kernel_rfl)
#print axioms bookMisses_card
end Go.Proofs.YtjpjebfodhbdfaaGreatDoor
