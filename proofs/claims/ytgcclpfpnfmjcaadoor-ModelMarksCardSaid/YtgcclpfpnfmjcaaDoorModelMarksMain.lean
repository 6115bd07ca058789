/-
  ModelMarks, of every input: it returns true and its arguments read behind the call as before; Go's two tables of utf8 are laid as the program's text lays them. No condition is added to the given statement's own.
-/
import Derived.Test.YtgcclpfpnfmjcaaDoorCards
import Derived.Test.YtgcclpfpnfmjcaaDoorTie
import Derived.Test.YtgcclpfpnfmjcaaDoorM14
import Derived.Test.YtgcclpfpnfmjcaaDoorDoor
import Derived.SevenTiedAt
namespace Go.Proofs.YtgcclpfpnfmjcaaDoor
open Go Go.ChangeShapes Go.WideShapes Go.ChangeAt Go.RowKit

theorem modelMarks_own : ownKnob Tryd.prog.godebug = none := by kernel_rfl

set_option maxRecDepth 100000 in
theorem modelMarks_lifted (os : Os) (started : os.Started) (H : Type) (enc : TypeId × Value → H) :
    ReturnsInHanded {} Tryd.checked os 7 .any (fun w args => (Rows.modelMarksSpec.pre enc Tryd.prog Tryd.f7 [] false w args ∧ laidMetH Tryd.prog Rows.modelMarksRow.laid w) ∧ sizedMet enc Tryd.prog Tryd.f7 (OpenSpec.ofChange Rows.modelMarksSpec) false w args)
      (Rows.modelMarksSpec.post enc Tryd.prog Tryd.f7 false true false false) := by
  refine returnsInHanded_of_change_and (C := Tryd.checked) (X := fun w _ => laidMetH Tryd.prog laidList w) (fun _ _ _ hh h => h.of_heap hh) modelMarks_own started (by kernel_rfl) Tryd.func7
    (ChangeSpec.witness_at (enc := enc) (C := Tryd.checked) (os := os) (X := fun w _ => laidMetH Tryd.prog laidList w) false (laidWorld os) #[.slice none 0 0] 8 rfl (by kernel_rfl) (by kernel_rfl) (by kernel_rfl) (by kernel_rfl) (by kernel_rfl) (laidWorld_met os _)) ?_
  intro W base args ds gs before hval hW _ _ _ _
  have hW' := hW
  obtain ⟨p, q, hA0, hV, rfl, hfz, hnd⟩ := hW
  have hA : DataW.TrodAll enc Tryd.prog W 0 (fun _ => true) true Tryd.f7.params.toList args.toList ds p := hA0
  rw [Tryd.params7] at hA hval
  obtain ⟨v0, vs0, d0, ds0, p0, q0, hargs, rfl, rfl, h0, r0⟩ := trodAll_cons hA
  obtain ⟨rfl, rfl, rfl⟩ := trodAll_nil r0
  obtain rfl : args = #[v0] := by cases args; simp_all
  have w0 : ArgF W evK v0 := open_argF 3 Tryd.underlying22 (by kernel_rfl) (by kernel_rfl) (by decide) (hval 0 _ v0 rfl rfl) h0
  refine (law_calls (modelMarks_walk W v0 w0)).mono fun e W' ⟨he, hb⟩ => ?_
  subst he
  exact ⟨_, rfl, law_post (by kernel_rfl) rfl rfl Tryd.underlying4 (by kernel_rfl) (fun ds hd => by match ds, hd with | [_], _ => exact ⟨rfl, rfl, rfl⟩) hW' hb⟩

theorem modelMarks_holds : Rows.ModelMarksSaid :=
  OpenClaim.holds_of_wide 7 Tryd.f7 rfl rfl rfl rfl rfl rfl rfl ⟨rfl, rfl, rfl, rfl, rfl⟩ rfl rfl rfl rfl rfl (by kernel_rfl) Tryd.func7 (by kernel_rfl)
    (of_decide_eq_true (by kernel_rfl)) (by unfold Func.isWrapper; first | (rw [if_pos (by decide +kernel)]; kernel_rfl) | (rw [if_neg (by decide +kernel)]; exact ⟨rfl, rfl⟩))
    (fun os started H enc _ => modelMarks_lifted os started H enc)
theorem modelMarks_card : Rows.ModelMarksCardSaid :=
  Claim7.holds_tied_plain_at .later [] [.data, .pinned] true (true, "9c94472243f6299bfd2007f960373e02d05cb19a6ddb998597fb81c4cb21d100") false modelMarks_holds (fun _ h => by cases h) (by kernel_rfl) (fun _ h => by cases h) modelMarks_row_tie rfl ⟨rfl, rfl⟩ (by kernel_rfl) rfl
    (fun f fn hf hfn => by
      obtain rfl : f = 7 := Option.some.inj ((show Tryd.prog.funcNamed "rivulet/rivuletlaw22.ModelMarks" = some 7 by kernel_rfl).symm.trans hf) |>.symm
      obtain rfl : fn = Tryd.f7 := (Option.some.inj (Tryd.func7.symm.trans hfn)).symm
      exact ⟨by kernel_rfl, fun j t ht => by
        rw [Tryd.params7] at ht
        match j, ht with
        | 0, ht => obtain rfl : t = 22 := by simpa using ht.symm
                   exact (show Tryd.prog.wantsStandIn 22 = false by kernel_rfl)
        | j + 1, ht => simp at ht⟩)
    (by kernel_rfl)
#print axioms modelMarks_card
end Go.Proofs.YtgcclpfpnfmjcaaDoor
