/-
  DERIVED. GIVEN WITH THE SEED: THE CARDS: each row of YtgcclpfpnfmjcaaDoorRows.lean that lists a variable, with what it lists TIED to the program's text (the seventh form; the later family's looks); each row that meets fmt, with fmt's text TOLD by the authors' own Lean function (tested against real Go, not proved from fmt's source: count such statements apart). THE CARD IS WHAT COUNTS. Prove the row's statement (the work); the ties are given (YtgcclpfpnfmjcaaDoorTie.lean); close each card by the builder's one call (the guide's Derived/Test/ToyasCard.lean, 'card_holds'). Laid BY PROGRAM, IN A SANDBOX (cutbox-door.mjs). By AI agents, Wed Nov 11 2026. No macro, syntax, notation, axiom, sorry.
-/
import Derived.Test.YtgcclpfpnfmjcaaDoorRows
import GoSem.ClaimSeven
namespace Go.Proofs.YtgcclpfpnfmjcaaDoor
namespace Rows

/-- THE TIED CARD OF 'rivuletlaw22.ModelTells'. -/
def modelTellsCard : Claim7 := { stood := { row := modelTellsRow, standIns := [], harness := (true, "9c94472243f6299bfd2007f960373e02d05cb19a6ddb998597fb81c4cb21d100"), looks := false }, kinds := [], alts := [], laidByText := true, laidKinds := [.data, .pinned], laidTests := true, laidLooks := .later }
def ModelTellsCardSaid : Prop := Claim7.holds Tryd.pinned (.plain (OpenSpec.ofChange modelTellsSpec)) modelTellsCard

/-- THE TIED CARD OF 'rivuletlaw22.ModelMisses'. -/
def modelMissesCard : Claim7 := { stood := { row := modelMissesRow, standIns := [], harness := (true, "9c94472243f6299bfd2007f960373e02d05cb19a6ddb998597fb81c4cb21d100"), looks := false }, kinds := [], alts := [], laidByText := true, laidKinds := [.data, .pinned], laidTests := true, laidLooks := .later }
def ModelMissesCardSaid : Prop := Claim7.holds Tryd.pinned (.plain (OpenSpec.ofChange modelMissesSpec)) modelMissesCard

/-- THE TIED CARD OF 'rivuletlaw22.ModelStarts'. -/
def modelStartsCard : Claim7 := { stood := { row := modelStartsRow, standIns := [], harness := (true, "9c94472243f6299bfd2007f960373e02d05cb19a6ddb998597fb81c4cb21d100"), looks := false }, kinds := [], alts := [], laidByText := true, laidKinds := [.data, .pinned], laidTests := true, laidLooks := .later }
def ModelStartsCardSaid : Prop := Claim7.holds Tryd.pinned (.plain (OpenSpec.ofChange modelStartsSpec)) modelStartsCard

/-- THE TIED CARD OF 'rivuletlaw22.ModelAll'. -/
def modelAllCard : Claim7 := { stood := { row := modelAllRow, standIns := [], harness := (true, "9c94472243f6299bfd2007f960373e02d05cb19a6ddb998597fb81c4cb21d100"), looks := false }, kinds := [], alts := [], laidByText := true, laidKinds := [.data, .pinned], laidTests := true, laidLooks := .later }
def ModelAllCardSaid : Prop := Claim7.holds Tryd.pinned (.plain (OpenSpec.ofChange modelAllSpec)) modelAllCard

/-- THE TIED CARD OF 'rivuletlaw22.ModelMarks'. -/
def modelMarksCard : Claim7 := { stood := { row := modelMarksRow, standIns := [], harness := (true, "9c94472243f6299bfd2007f960373e02d05cb19a6ddb998597fb81c4cb21d100"), looks := false }, kinds := [], alts := [], laidByText := true, laidKinds := [.data, .pinned], laidTests := true, laidLooks := .later }
def ModelMarksCardSaid : Prop := Claim7.holds Tryd.pinned (.plain (OpenSpec.ofChange modelMarksSpec)) modelMarksCard

/-- THE TIED CARD OF 'rivuletlaw22.ModelApart'. -/
def modelApartCard : Claim7 := { stood := { row := modelApartRow, standIns := [], harness := (true, "9c94472243f6299bfd2007f960373e02d05cb19a6ddb998597fb81c4cb21d100"), looks := false }, kinds := [], alts := [], laidByText := true, laidKinds := [.data, .pinned], laidTests := true, laidLooks := .later }
def ModelApartCardSaid : Prop := Claim7.holds Tryd.pinned (.plain (OpenSpec.ofChange modelApartSpec)) modelApartCard

/-- THE SECOND FORM's CARD OF 'rivuletlaw22.ModelTells'. -/
def modelTellsUptoCard : Claim7 := { stood := { row := modelTellsUptoRow, standIns := [], harness := (true, "9c94472243f6299bfd2007f960373e02d05cb19a6ddb998597fb81c4cb21d100"), looks := false }, kinds := [], alts := [], laidByText := true, laidKinds := [.data, .pinned], laidTests := true, laidLooks := .later }
def ModelTellsUptoCardSaid : Prop := Claim7.holds Tryd.pinned (.plain (OpenSpec.upto modelTellsSpec)) modelTellsUptoCard

/-- THE SECOND FORM's CARD OF 'rivuletlaw22.ModelMisses'. -/
def modelMissesUptoCard : Claim7 := { stood := { row := modelMissesUptoRow, standIns := [], harness := (true, "9c94472243f6299bfd2007f960373e02d05cb19a6ddb998597fb81c4cb21d100"), looks := false }, kinds := [], alts := [], laidByText := true, laidKinds := [.data, .pinned], laidTests := true, laidLooks := .later }
def ModelMissesUptoCardSaid : Prop := Claim7.holds Tryd.pinned (.plain (OpenSpec.upto modelMissesSpec)) modelMissesUptoCard

/-- THE SECOND FORM's CARD OF 'rivuletlaw22.ModelStarts'. -/
def modelStartsUptoCard : Claim7 := { stood := { row := modelStartsUptoRow, standIns := [], harness := (true, "9c94472243f6299bfd2007f960373e02d05cb19a6ddb998597fb81c4cb21d100"), looks := false }, kinds := [], alts := [], laidByText := true, laidKinds := [.data, .pinned], laidTests := true, laidLooks := .later }
def ModelStartsUptoCardSaid : Prop := Claim7.holds Tryd.pinned (.plain (OpenSpec.upto modelStartsSpec)) modelStartsUptoCard

/-- THE SECOND FORM's CARD OF 'rivuletlaw22.ModelAll'. -/
def modelAllUptoCard : Claim7 := { stood := { row := modelAllUptoRow, standIns := [], harness := (true, "9c94472243f6299bfd2007f960373e02d05cb19a6ddb998597fb81c4cb21d100"), looks := false }, kinds := [], alts := [], laidByText := true, laidKinds := [.data, .pinned], laidTests := true, laidLooks := .later }
def ModelAllUptoCardSaid : Prop := Claim7.holds Tryd.pinned (.plain (OpenSpec.upto modelAllSpec)) modelAllUptoCard

/-- THE SECOND FORM's CARD OF 'rivuletlaw22.ModelMarks'. -/
def modelMarksUptoCard : Claim7 := { stood := { row := modelMarksUptoRow, standIns := [], harness := (true, "9c94472243f6299bfd2007f960373e02d05cb19a6ddb998597fb81c4cb21d100"), looks := false }, kinds := [], alts := [], laidByText := true, laidKinds := [.data, .pinned], laidTests := true, laidLooks := .later }
def ModelMarksUptoCardSaid : Prop := Claim7.holds Tryd.pinned (.plain (OpenSpec.upto modelMarksSpec)) modelMarksUptoCard

/-- THE SECOND FORM's CARD OF 'rivuletlaw22.ModelApart'. -/
def modelApartUptoCard : Claim7 := { stood := { row := modelApartUptoRow, standIns := [], harness := (true, "9c94472243f6299bfd2007f960373e02d05cb19a6ddb998597fb81c4cb21d100"), looks := false }, kinds := [], alts := [], laidByText := true, laidKinds := [.data, .pinned], laidTests := true, laidLooks := .later }
def ModelApartUptoCardSaid : Prop := Claim7.holds Tryd.pinned (.plain (OpenSpec.upto modelApartSpec)) modelApartUptoCard
end Rows
end Go.Proofs.YtgcclpfpnfmjcaaDoor
