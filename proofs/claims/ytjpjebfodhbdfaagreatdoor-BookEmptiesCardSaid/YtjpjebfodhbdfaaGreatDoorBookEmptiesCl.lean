/-
  BookEmpties, of every input: it returns true and its arguments read behind the call as before; Go's two tables of utf8 are laid as the program's text lays them. No condition is added to the given statement's own.
-/
import Derived.Test.YtjpjebfodhbdfaaGreatDoorCards
import Derived.Test.YtjpjebfodhbdfaaGreatDoorTie
import Derived.Test.YtjpjebfodhbdfaaGreatDoorMg4
import Derived.SevenTiedAt
namespace Go.Proofs.YtjpjebfodhbdfaaGreatDoor
open Go Go.ChangeShapes Go.WideShapes Go.ChangeAt Go.RowKit
theorem bookEmpties_own : ownKnob Tryz.prog.godebug = none := by kernel_rfl
set_option maxRecDepth 100000 in
theorem bookEmpties_lifted (os : Os) (started : os.Started) (H : Type) (enc : TypeId × Value → H) :
    ReturnsInHanded {} Tryz.checked os 8 .any (fun w args => (Rows.bookEmptiesSpec.pre enc Tryz.prog Tryz.f8 [] false w args ∧ laidMetH Tryz.prog Rows.bookEmptiesRow.laid w) ∧ sizedMet enc Tryz.prog Tryz.f8 (OpenSpec.ofChange Rows.bookEmptiesSpec) false w args)
      (Rows.bookEmptiesSpec.post enc Tryz.prog Tryz.f8 false true false false) := by
  refine returnsInHanded_of_change_and (C := Tryz.checked) (X := fun w _ => laidMetH Tryz.prog laidList w) (fun _ _ _ hh h => h.of_heap hh) bookEmpties_own started (by kernel_rfl) Tryz.func8
    (ChangeSpec.witness_at (enc := enc) (C := Tryz.checked) (os := os) (X := fun w _ => laidMetH Tryz.prog laidList w) false (laidWorld os) #[.slice none 0 0] 8 rfl (by kernel_rfl) (by kernel_rfl) (by kernel_rfl) (by kernel_rfl) (by kernel_rfl) (laidWorld_met os _)) ?_
  intro W base args ds gs before hval hW _ _ _ _
  have hW' := hW
  obtain ⟨p, q, hA0, hV, rfl, hfz, hnd⟩ := hW
  have hA : DataW.TrodAll enc Tryz.prog W 0 (fun _ => true) true Tryz.f8.params.toList args.toList ds p := hA0
  rw [Tryz.params8] at hA hval
  obtain ⟨v0, vs0, d0, ds0, p0, q0, hargs, rfl, rfl, h0, r0⟩ := trodAll_cons hA
  obtain ⟨rfl, rfl, rfl⟩ := trodAll_nil r0
  obtain rfl : args = #[v0] := by cases args; simp_all
  have w0 : ArgF W opK v0 := open_argF 4 Tryz.underlying22 (by kernel_rfl) (by kernel_rfl) (by decide) (hval 0 _ v0 rfl rfl) h0
  refine (law_calls (bookEmpties_walk W v0 w0)).mono fun e W' ⟨he, hb⟩ => ?_
  subst he
  exact ⟨_, rfl, law_post (by kernel_rfl) rfl rfl Tryz.underlying4 (by kernel_rfl) (fun ds hd => by match ds, hd with | [_], _ => exact ⟨rfl, rfl, rfl⟩) hW' hb⟩
theorem bookEmpties_holds : Rows.BookEmptiesSaid :=
  OpenClaim.holds_of_wide 8 Tryz.f8 rfl rfl rfl rfl rfl rfl rfl ⟨rfl, rfl, rfl, rfl, rfl⟩ rfl rfl rfl rfl rfl (by kernel_rfl) Tryz.func8 (by kernel_rfl)
    (of_decide_eq_true (by kernel_rfl)) (by unfold Func.isWrapper; first | (rw [if_pos (by decide +kernel)]; kernel_rfl) | (rw [if_neg (by decide +kernel)]; exact ⟨rfl, rfl⟩))
    (fun os started H enc _ => bookEmpties_lifted os started H enc)
theorem bookEmpties_card : Rows.BookEmptiesCardSaid :=
  Claim7.holds_tied_plain_at .later [] [.data, .pinned] true (true, "5f5aa6aa9e88610bde0f6cf05e3eac525d6829ca5004983b3e8538a14fefc3b4") true bookEmpties_holds (fun _ h => by cases h) (by kernel_rfl) (fun _ h => by cases h) bookEmpties_row_tie rfl ⟨rfl, rfl⟩ (by kernel_rfl) rfl
    (fun f fn hf hfn => by
      obtain rfl : f = 8 := Option.some.inj ((show Tryz.prog.funcNamed "rivulet/rivuletlaw11.BookEmpties" = some 8 by kernel_rfl).symm.trans hf) |>.symm
      obtain rfl : fn = Tryz.f8 := (Option.some.inj (Tryz.func8.symm.trans hfn)).symm
      exact ⟨by kernel_rfl, fun j t ht => by
        rw [Tryz.params8] at ht
        match j, ht with
        | 0, ht => obtain rfl : t = 22 := by simpa using ht.symm
                   exact (show Tryz.prog.wantsStandIn 22 = false by kernel_rfl)
        | j + 1, ht => simp at ht⟩)
    (by kernel_rfl)
#print axioms bookEmpties_card
end Go.Proofs.YtjpjebfodhbdfaaGreatDoor
