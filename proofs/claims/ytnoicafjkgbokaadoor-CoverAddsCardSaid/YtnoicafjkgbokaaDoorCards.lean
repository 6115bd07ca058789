/-
  DERIVED. GIVEN WITH THE SEED: THE CARDS: each row of YtnoicafjkgbokaaDoorRows.lean that lists a variable, with what it lists TIED to the program's text (the seventh form; the later family's looks); each row that meets fmt, with fmt's text TOLD by the authors' own Lean function (tested against real Go, not proved from fmt's source: count such statements apart). THE CARD IS WHAT COUNTS. Prove the row's statement (the work); the ties are given (YtnoicafjkgbokaaDoorTie.lean); close each card by the builder's one call (the guide's Derived/Test/ToyasCard.lean, 'card_holds'). Laid BY PROGRAM, IN A SANDBOX (cutbox-door.mjs). By AI agents, Wed Nov 11 2026. No macro, syntax, notation, axiom, sorry.
-/
import Derived.Test.YtnoicafjkgbokaaDoorRows
import GoSem.ClaimSeven
namespace Go.Proofs.YtnoicafjkgbokaaDoor
namespace Rows

/-- THE TIED CARD OF 'rivuletlaw05.CoverLeast'. -/
def coverLeastCard : Claim7 := { stood := { row := coverLeastRow, standIns := [], harness := (true, "bf2815e3a78de586c3997c855707c249125e7485a7ccfffd1a2a47371e8d47d9"), looks := false }, kinds := [], alts := [], laidByText := true, laidKinds := [.data, .pinned], laidTests := true, laidLooks := .later }
def CoverLeastCardSaid : Prop := Claim7.holds Tryd.pinned (.plain (OpenSpec.ofChange coverLeastSpec)) coverLeastCard

/-- THE TIED CARD OF 'rivuletlaw05.CoverTells'. -/
def coverTellsCard : Claim7 := { stood := { row := coverTellsRow, standIns := [], harness := (true, "bf2815e3a78de586c3997c855707c249125e7485a7ccfffd1a2a47371e8d47d9"), looks := false }, kinds := [], alts := [], laidByText := true, laidKinds := [.data, .pinned], laidTests := true, laidLooks := .later }
def CoverTellsCardSaid : Prop := Claim7.holds Tryd.pinned (.plain (OpenSpec.ofChange coverTellsSpec)) coverTellsCard

/-- THE TIED CARD OF 'rivuletlaw05.CoverSame'. -/
def coverSameCard : Claim7 := { stood := { row := coverSameRow, standIns := [], harness := (true, "bf2815e3a78de586c3997c855707c249125e7485a7ccfffd1a2a47371e8d47d9"), looks := false }, kinds := [], alts := [], laidByText := true, laidKinds := [.data, .pinned], laidTests := true, laidLooks := .later }
def CoverSameCardSaid : Prop := Claim7.holds Tryd.pinned (.plain (OpenSpec.ofChange coverSameSpec)) coverSameCard

/-- THE TIED CARD OF 'rivuletlaw05.CoverTurns'. -/
def coverTurnsCard : Claim7 := { stood := { row := coverTurnsRow, standIns := [], harness := (true, "bf2815e3a78de586c3997c855707c249125e7485a7ccfffd1a2a47371e8d47d9"), looks := false }, kinds := [], alts := [], laidByText := true, laidKinds := [.data, .pinned], laidTests := true, laidLooks := .later }
def CoverTurnsCardSaid : Prop := Claim7.holds Tryd.pinned (.plain (OpenSpec.ofChange coverTurnsSpec)) coverTurnsCard

/-- THE TIED CARD OF 'rivuletlaw05.CoverDiffs'. -/
def coverDiffsCard : Claim7 := { stood := { row := coverDiffsRow, standIns := [], harness := (true, "bf2815e3a78de586c3997c855707c249125e7485a7ccfffd1a2a47371e8d47d9"), looks := false }, kinds := [], alts := [], laidByText := true, laidKinds := [.data, .pinned], laidTests := true, laidLooks := .later }
def CoverDiffsCardSaid : Prop := Claim7.holds Tryd.pinned (.plain (OpenSpec.ofChange coverDiffsSpec)) coverDiffsCard

/-- THE TIED CARD OF 'rivuletlaw05.CoverAdds'. -/
def coverAddsCard : Claim7 := { stood := { row := coverAddsRow, standIns := [], harness := (true, "bf2815e3a78de586c3997c855707c249125e7485a7ccfffd1a2a47371e8d47d9"), looks := false }, kinds := [], alts := [], laidByText := true, laidKinds := [.data, .pinned], laidTests := true, laidLooks := .later }
def CoverAddsCardSaid : Prop := Claim7.holds Tryd.pinned (.plain (OpenSpec.ofChange coverAddsSpec)) coverAddsCard

/-- THE TIED CARD OF 'rivuletlaw05.CoverLets'. -/
def coverLetsCard : Claim7 := { stood := { row := coverLetsRow, standIns := [], harness := (true, "bf2815e3a78de586c3997c855707c249125e7485a7ccfffd1a2a47371e8d47d9"), looks := false }, kinds := [], alts := [], laidByText := true, laidKinds := [.data, .pinned], laidTests := true, laidLooks := .later }
def CoverLetsCardSaid : Prop := Claim7.holds Tryd.pinned (.plain (OpenSpec.ofChange coverLetsSpec)) coverLetsCard

/-- THE SECOND FORM's CARD OF 'rivuletlaw05.CoverLeast'. -/
def coverLeastUptoCard : Claim7 := { stood := { row := coverLeastUptoRow, standIns := [], harness := (true, "bf2815e3a78de586c3997c855707c249125e7485a7ccfffd1a2a47371e8d47d9"), looks := false }, kinds := [], alts := [], laidByText := true, laidKinds := [.data, .pinned], laidTests := true, laidLooks := .later }
def CoverLeastUptoCardSaid : Prop := Claim7.holds Tryd.pinned (.plain (OpenSpec.upto coverLeastSpec)) coverLeastUptoCard

/-- THE SECOND FORM's CARD OF 'rivuletlaw05.CoverTells'. -/
def coverTellsUptoCard : Claim7 := { stood := { row := coverTellsUptoRow, standIns := [], harness := (true, "bf2815e3a78de586c3997c855707c249125e7485a7ccfffd1a2a47371e8d47d9"), looks := false }, kinds := [], alts := [], laidByText := true, laidKinds := [.data, .pinned], laidTests := true, laidLooks := .later }
def CoverTellsUptoCardSaid : Prop := Claim7.holds Tryd.pinned (.plain (OpenSpec.upto coverTellsSpec)) coverTellsUptoCard

/-- THE SECOND FORM's CARD OF 'rivuletlaw05.CoverSame'. -/
def coverSameUptoCard : Claim7 := { stood := { row := coverSameUptoRow, standIns := [], harness := (true, "bf2815e3a78de586c3997c855707c249125e7485a7ccfffd1a2a47371e8d47d9"), looks := false }, kinds := [], alts := [], laidByText := true, laidKinds := [.data, .pinned], laidTests := true, laidLooks := .later }
def CoverSameUptoCardSaid : Prop := Claim7.holds Tryd.pinned (.plain (OpenSpec.upto coverSameSpec)) coverSameUptoCard

/-- THE SECOND FORM's CARD OF 'rivuletlaw05.CoverTurns'. -/
def coverTurnsUptoCard : Claim7 := { stood := { row := coverTurnsUptoRow, standIns := [], harness := (true, "bf2815e3a78de586c3997c855707c249125e7485a7ccfffd1a2a47371e8d47d9"), looks := false }, kinds := [], alts := [], laidByText := true, laidKinds := [.data, .pinned], laidTests := true, laidLooks := .later }
def CoverTurnsUptoCardSaid : Prop := Claim7.holds Tryd.pinned (.plain (OpenSpec.upto coverTurnsSpec)) coverTurnsUptoCard

/-- THE SECOND FORM's CARD OF 'rivuletlaw05.CoverDiffs'. -/
def coverDiffsUptoCard : Claim7 := { stood := { row := coverDiffsUptoRow, standIns := [], harness := (true, "bf2815e3a78de586c3997c855707c249125e7485a7ccfffd1a2a47371e8d47d9"), looks := false }, kinds := [], alts := [], laidByText := true, laidKinds := [.data, .pinned], laidTests := true, laidLooks := .later }
def CoverDiffsUptoCardSaid : Prop := Claim7.holds Tryd.pinned (.plain (OpenSpec.upto coverDiffsSpec)) coverDiffsUptoCard

/-- THE SECOND FORM's CARD OF 'rivuletlaw05.CoverAdds'. -/
def coverAddsUptoCard : Claim7 := { stood := { row := coverAddsUptoRow, standIns := [], harness := (true, "bf2815e3a78de586c3997c855707c249125e7485a7ccfffd1a2a47371e8d47d9"), looks := false }, kinds := [], alts := [], laidByText := true, laidKinds := [.data, .pinned], laidTests := true, laidLooks := .later }
def CoverAddsUptoCardSaid : Prop := Claim7.holds Tryd.pinned (.plain (OpenSpec.upto coverAddsSpec)) coverAddsUptoCard

/-- THE SECOND FORM's CARD OF 'rivuletlaw05.CoverLets'. -/
def coverLetsUptoCard : Claim7 := { stood := { row := coverLetsUptoRow, standIns := [], harness := (true, "bf2815e3a78de586c3997c855707c249125e7485a7ccfffd1a2a47371e8d47d9"), looks := false }, kinds := [], alts := [], laidByText := true, laidKinds := [.data, .pinned], laidTests := true, laidLooks := .later }
def CoverLetsUptoCardSaid : Prop := Claim7.holds Tryd.pinned (.plain (OpenSpec.upto coverLetsSpec)) coverLetsUptoCard
end Rows
end Go.Proofs.YtnoicafjkgbokaaDoor
