/-
  DERIVED. GIVEN WITH THE SEED: THE CARDS: each row of YtjpjebfodhbdfaaGreatDoorRows.lean that lists a variable, with what it lists TIED to the program's text (the seventh form; the later family's looks); each row that meets fmt, with fmt's text TOLD by the authors' own Lean function (tested against real Go, not proved from fmt's source: count such statements apart). THE CARD IS WHAT COUNTS. Prove the row's statement (the work); the ties are given (YtjpjebfodhbdfaaGreatDoorTie.lean); close each card by the builder's one call (the guide's Derived/Test/ToyasCard.lean, 'card_holds'). Laid BY PROGRAM, IN A SANDBOX (cutbox-door.mjs). By AI agents, Wed Nov 11 2026. No macro, syntax, notation, axiom, sorry.
-/
import Derived.Test.YtjpjebfodhbdfaaGreatDoorRows
import GoSem.ClaimSeven
namespace Go.Proofs.YtjpjebfodhbdfaaGreatDoor
namespace Rows

/-- THE TIED CARD OF 'rivuletlaw11.BookDoes'. -/
def bookDoesCard : Claim7 := { stood := { row := bookDoesRow, standIns := [], harness := (true, "5f5aa6aa9e88610bde0f6cf05e3eac525d6829ca5004983b3e8538a14fefc3b4"), looks := true }, kinds := [], alts := [], laidByText := true, laidKinds := [.data, .pinned], laidTests := true, laidLooks := .later }
def BookDoesCardSaid : Prop := Claim7.holds Tryz.pinned (.plain (OpenSpec.ofChange bookDoesSpec)) bookDoesCard

/-- THE TIED CARD OF 'rivuletlaw11.BookRecovers'. -/
def bookRecoversCard : Claim7 := { stood := { row := bookRecoversRow, standIns := [], harness := (true, "5f5aa6aa9e88610bde0f6cf05e3eac525d6829ca5004983b3e8538a14fefc3b4"), looks := true }, kinds := [], alts := [], laidByText := true, laidKinds := [.data, .pinned], laidTests := true, laidLooks := .later }
def BookRecoversCardSaid : Prop := Claim7.holds Tryz.pinned (.plain (OpenSpec.ofChange bookRecoversSpec)) bookRecoversCard

/-- THE TIED CARD OF 'rivuletlaw11.BookRises'. -/
def bookRisesCard : Claim7 := { stood := { row := bookRisesRow, standIns := [], harness := (true, "5f5aa6aa9e88610bde0f6cf05e3eac525d6829ca5004983b3e8538a14fefc3b4"), looks := true }, kinds := [], alts := [], laidByText := true, laidKinds := [.data, .pinned], laidTests := true, laidLooks := .later }
def BookRisesCardSaid : Prop := Claim7.holds Tryz.pinned (.plain (OpenSpec.ofChange bookRisesSpec)) bookRisesCard

/-- THE TIED CARD OF 'rivuletlaw11.BookAgain'. -/
def bookAgainCard : Claim7 := { stood := { row := bookAgainRow, standIns := [], harness := (true, "5f5aa6aa9e88610bde0f6cf05e3eac525d6829ca5004983b3e8538a14fefc3b4"), looks := true }, kinds := [], alts := [], laidByText := true, laidKinds := [.data, .pinned], laidTests := true, laidLooks := .later }
def BookAgainCardSaid : Prop := Claim7.holds Tryz.pinned (.plain (OpenSpec.ofChange bookAgainSpec)) bookAgainCard

/-- THE TIED CARD OF 'rivuletlaw11.BookMisses'. -/
def bookMissesCard : Claim7 := { stood := { row := bookMissesRow, standIns := [], harness := (true, "5f5aa6aa9e88610bde0f6cf05e3eac525d6829ca5004983b3e8538a14fefc3b4"), looks := true }, kinds := [], alts := [], laidByText := true, laidKinds := [.data, .pinned], laidTests := true, laidLooks := .later }
def BookMissesCardSaid : Prop := Claim7.holds Tryz.pinned (.plain (OpenSpec.ofChange bookMissesSpec)) bookMissesCard

/-- THE TIED CARD OF 'rivuletlaw11.BookEmpties'. -/
def bookEmptiesCard : Claim7 := { stood := { row := bookEmptiesRow, standIns := [], harness := (true, "5f5aa6aa9e88610bde0f6cf05e3eac525d6829ca5004983b3e8538a14fefc3b4"), looks := true }, kinds := [], alts := [], laidByText := true, laidKinds := [.data, .pinned], laidTests := true, laidLooks := .later }
def BookEmptiesCardSaid : Prop := Claim7.holds Tryz.pinned (.plain (OpenSpec.ofChange bookEmptiesSpec)) bookEmptiesCard

/-- THE SECOND FORM's CARD OF 'rivuletlaw11.BookDoes'. -/
def bookDoesUptoCard : Claim7 := { stood := { row := bookDoesUptoRow, standIns := [], harness := (true, "5f5aa6aa9e88610bde0f6cf05e3eac525d6829ca5004983b3e8538a14fefc3b4"), looks := true }, kinds := [], alts := [], laidByText := true, laidKinds := [.data, .pinned], laidTests := true, laidLooks := .later }
def BookDoesUptoCardSaid : Prop := Claim7.holds Tryz.pinned (.plain (OpenSpec.upto bookDoesSpec)) bookDoesUptoCard

/-- THE SECOND FORM's CARD OF 'rivuletlaw11.BookRecovers'. -/
def bookRecoversUptoCard : Claim7 := { stood := { row := bookRecoversUptoRow, standIns := [], harness := (true, "5f5aa6aa9e88610bde0f6cf05e3eac525d6829ca5004983b3e8538a14fefc3b4"), looks := true }, kinds := [], alts := [], laidByText := true, laidKinds := [.data, .pinned], laidTests := true, laidLooks := .later }
def BookRecoversUptoCardSaid : Prop := Claim7.holds Tryz.pinned (.plain (OpenSpec.upto bookRecoversSpec)) bookRecoversUptoCard

/-- THE SECOND FORM's CARD OF 'rivuletlaw11.BookRises'. -/
def bookRisesUptoCard : Claim7 := { stood := { row := bookRisesUptoRow, standIns := [], harness := (true, "5f5aa6aa9e88610bde0f6cf05e3eac525d6829ca5004983b3e8538a14fefc3b4"), looks := true }, kinds := [], alts := [], laidByText := true, laidKinds := [.data, .pinned], laidTests := true, laidLooks := .later }
def BookRisesUptoCardSaid : Prop := Claim7.holds Tryz.pinned (.plain (OpenSpec.upto bookRisesSpec)) bookRisesUptoCard

/-- THE SECOND FORM's CARD OF 'rivuletlaw11.BookAgain'. -/
def bookAgainUptoCard : Claim7 := { stood := { row := bookAgainUptoRow, standIns := [], harness := (true, "5f5aa6aa9e88610bde0f6cf05e3eac525d6829ca5004983b3e8538a14fefc3b4"), looks := true }, kinds := [], alts := [], laidByText := true, laidKinds := [.data, .pinned], laidTests := true, laidLooks := .later }
def BookAgainUptoCardSaid : Prop := Claim7.holds Tryz.pinned (.plain (OpenSpec.upto bookAgainSpec)) bookAgainUptoCard

/-- THE SECOND FORM's CARD OF 'rivuletlaw11.BookMisses'. -/
def bookMissesUptoCard : Claim7 := { stood := { row := bookMissesUptoRow, standIns := [], harness := (true, "5f5aa6aa9e88610bde0f6cf05e3eac525d6829ca5004983b3e8538a14fefc3b4"), looks := true }, kinds := [], alts := [], laidByText := true, laidKinds := [.data, .pinned], laidTests := true, laidLooks := .later }
def BookMissesUptoCardSaid : Prop := Claim7.holds Tryz.pinned (.plain (OpenSpec.upto bookMissesSpec)) bookMissesUptoCard

/-- THE SECOND FORM's CARD OF 'rivuletlaw11.BookEmpties'. -/
def bookEmptiesUptoCard : Claim7 := { stood := { row := bookEmptiesUptoRow, standIns := [], harness := (true, "5f5aa6aa9e88610bde0f6cf05e3eac525d6829ca5004983b3e8538a14fefc3b4"), looks := true }, kinds := [], alts := [], laidByText := true, laidKinds := [.data, .pinned], laidTests := true, laidLooks := .later }
def BookEmptiesUptoCardSaid : Prop := Claim7.holds Tryz.pinned (.plain (OpenSpec.upto bookEmptiesSpec)) bookEmptiesUptoCard
end Rows
end Go.Proofs.YtjpjebfodhbdfaaGreatDoor
