/-
  BookRises, of every input: it returns true and its arguments read behind the call as before; Go's two tables of utf8 are laid as the program's text lays them. No condition is added to the given statement's own.
-/
import Derived.Test.YtjpjebfodhbdfaaGreatDoorCards
import Derived.Test.YtjpjebfodhbdfaaGreatDoorTie
import Derived.Test.YtjpjebfodhbdfaaGreatDoorMg4
import Derived.SevenTiedAt
namespace Go.Proofs.YtjpjebfodhbdfaaGreatDoor
open Go Go.ChangeShapes Go.WideShapes Go.ChangeAt Go.RowKit
theorem bookRises_own : ownKnob Tryz.prog.godebug = none := by kernel_rfl
set_option maxRecDepth 100000 in
theorem bookRises_lifted (os : Os) (started : os.Started) (H : Type) (enc : TypeId × Value → H) :
    ReturnsInHanded {} Tryz.checked os 5 .any (fun w args => (Rows.bookRisesSpec.pre enc Tryz.prog Tryz.f5 [] false w args ∧ laidMetH Tryz.prog Rows.bookRisesRow.laid w) ∧ sizedMet enc Tryz.prog Tryz.f5 (OpenSpec.ofChange Rows.bookRisesSpec) false w args)
      (Rows.bookRisesSpec.post enc Tryz.prog Tryz.f5 false true false false) := by
  refine returnsInHanded_of_change_and (C := Tryz.checked) (X := fun w _ => laidMetH Tryz.prog laidList w) (fun _ _ _ hh h => h.of_heap hh) bookRises_own started (by kernel_rfl) Tryz.func5
    (ChangeSpec.witness_at (enc := enc) (C := Tryz.checked) (os := os) (X := fun w _ => laidMetH Tryz.prog laidList w) false (laidWorld os) #[.slice none 0 0] 8 rfl (by kernel_rfl) (by kernel_rfl) (by kernel_rfl) (by kernel_rfl) (by kernel_rfl) (laidWorld_met os _)) ?_
  intro W base args ds gs before hval hW _ _ _ _
  have hW' := hW
  obtain ⟨p, q, hA0, hV, rfl, hfz, hnd⟩ := hW
  have hA : DataW.TrodAll enc Tryz.prog W 0 (fun _ => true) true Tryz.f5.params.toList args.toList ds p := hA0
  rw [Tryz.params5] at hA hval
  obtain ⟨v0, vs0, d0, ds0, p0, q0, hargs, rfl, rfl, h0, r0⟩ := trodAll_cons hA
  obtain ⟨rfl, rfl, rfl⟩ := trodAll_nil r0
  obtain rfl : args = #[v0] := by cases args; simp_all
  have w0 : ArgF W opK v0 := open_argF 4 Tryz.underlying22 (by kernel_rfl) (by kernel_rfl) (by decide) (hval 0 _ v0 rfl rfl) h0
  refine (law_calls (bookRises_walk W v0 w0)).mono fun e W' ⟨he, hb⟩ => ?_
  subst he
  exact ⟨_, rfl, law_post (by kernel_rfl) rfl rfl Tryz.underlying4 (by kernel_rfl) (fun ds hd => by match ds, hd with | [_], _ => exact ⟨rfl, rfl, rfl⟩) hW' hb⟩
theorem bookRises_holds : Rows.BookRisesSaid :=
  OpenClaim.holds_of_wide 5 Tryz.f5 rfl rfl rfl rfl rfl rfl rfl ⟨rfl, rfl, rfl, rfl, rfl⟩ rfl rfl rfl rfl rfl (by kernel_rfl) Tryz.func5 (by kernel_rfl)
    (of_decide_eq_true (by kernel_rfl)) (by unfold Func.isWrapper; first | (rw [if_pos (by decide +kernel)]; kernel_rfl) | (rw [if_neg (by decide +kernel)]; exact ⟨rfl, rfl⟩))
    (fun os started H enc _ => bookRises_lifted os started H enc)
theorem bookRises_card : Rows.BookRisesCardSaid :=
  Claim7.holds_tied_plain_at .later [] [.data, .pinned] true (true, "5f5aa6aa9e88610bde0f6cf05e3eac525d6829ca5004983b3e8538a14fefc3b4") true bookRises_holds (fun _ h => by cases h) (by kernel_rfl) (fun _ h => by cases h) bookRises_row_tie rfl ⟨rfl, rfl⟩ (by kernel_rfl) rfl
    (fun f fn hf hfn => by
      obtain rfl : f = 5 := Option.some.inj ((show Tryz.prog.funcNamed "rivulet/rivuletlaw11.BookRises" = some 5 by kernel_rfl).symm.trans hf) |>.symm
      obtain rfl : fn = Tryz.f5 := (Option.some.inj (Tryz.func5.symm.trans hfn)).symm
      exact ⟨by kernel_rfl, fun j t ht => by
        rw [Tryz.params5] at ht
        match j, ht with
        | 0, ht => obtain rfl : t = 22 := by simpa using ht.symm
                   exact (show Tryz.prog.wantsStandIn 22 = false by kernel_rfl)
        | j + 1, ht => simp at ht⟩)
    (by kernel_rfl)
#print axioms bookRises_card
end Go.Proofs.YtjpjebfodhbdfaaGreatDoor
