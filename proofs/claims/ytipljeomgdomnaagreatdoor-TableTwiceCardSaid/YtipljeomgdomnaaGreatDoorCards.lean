/-
  DERIVED. GIVEN WITH THE SEED: THE CARDS: each row of YtipljeomgdomnaaGreatDoorRows.lean that lists a variable, with what it lists TIED to the program's text (the seventh form; the later family's looks); each row that meets fmt, with fmt's text TOLD by the authors' own Lean function (tested against real Go, not proved from fmt's source: count such statements apart). THE CARD IS WHAT COUNTS. Prove the row's statement (the work); the ties are given (YtipljeomgdomnaaGreatDoorTie.lean); close each card by the builder's one call (the guide's Derived/Test/ToyasCard.lean, 'card_holds'). Laid BY PROGRAM, IN A SANDBOX (cutbox-door.mjs). By AI agents, Wed Nov 11 2026. No macro, syntax, notation, axiom, sorry.
-/
import Derived.Test.YtipljeomgdomnaaGreatDoorRows
import GoSem.ClaimSeven
namespace Go.Proofs.YtipljeomgdomnaaGreatDoor
namespace Rows

/-- THE TIED CARD OF 'rivuletlaw18.TableDoes'. -/
def tableDoesCard : Claim7 := { stood := { row := tableDoesRow, standIns := [], harness := (true, "d87fa11ef1d1b31b947515aca1f61b2c5ac378243fe9bde6ec3a8a40e682fc24"), looks := false }, kinds := [], alts := [], laidByText := true, laidKinds := [.data, .pinned], laidTests := true, laidLooks := .later }
def TableDoesCardSaid : Prop := Claim7.holds Tryz.pinned (.plain (OpenSpec.ofChange tableDoesSpec)) tableDoesCard

/-- THE TIED CARD OF 'rivuletlaw18.TableUp'. -/
def tableUpCard : Claim7 := { stood := { row := tableUpRow, standIns := [], harness := (true, "d87fa11ef1d1b31b947515aca1f61b2c5ac378243fe9bde6ec3a8a40e682fc24"), looks := false }, kinds := [], alts := [], laidByText := true, laidKinds := [.data, .pinned], laidTests := true, laidLooks := .later }
def TableUpCardSaid : Prop := Claim7.holds Tryz.pinned (.plain (OpenSpec.ofChange tableUpSpec)) tableUpCard

/-- THE TIED CARD OF 'rivuletlaw18.TableSends'. -/
def tableSendsCard : Claim7 := { stood := { row := tableSendsRow, standIns := [], harness := (true, "d87fa11ef1d1b31b947515aca1f61b2c5ac378243fe9bde6ec3a8a40e682fc24"), looks := false }, kinds := [], alts := [], laidByText := true, laidKinds := [.data, .pinned], laidTests := true, laidLooks := .later }
def TableSendsCardSaid : Prop := Claim7.holds Tryz.pinned (.plain (OpenSpec.ofChange tableSendsSpec)) tableSendsCard

/-- THE TIED CARD OF 'rivuletlaw18.TableApart'. -/
def tableApartCard : Claim7 := { stood := { row := tableApartRow, standIns := [], harness := (true, "d87fa11ef1d1b31b947515aca1f61b2c5ac378243fe9bde6ec3a8a40e682fc24"), looks := false }, kinds := [], alts := [], laidByText := true, laidKinds := [.data, .pinned], laidTests := true, laidLooks := .later }
def TableApartCardSaid : Prop := Claim7.holds Tryz.pinned (.plain (OpenSpec.ofChange tableApartSpec)) tableApartCard

/-- THE TIED CARD OF 'rivuletlaw18.TableLeaves'. -/
def tableLeavesCard : Claim7 := { stood := { row := tableLeavesRow, standIns := [], harness := (true, "d87fa11ef1d1b31b947515aca1f61b2c5ac378243fe9bde6ec3a8a40e682fc24"), looks := false }, kinds := [], alts := [], laidByText := true, laidKinds := [.data, .pinned], laidTests := true, laidLooks := .later }
def TableLeavesCardSaid : Prop := Claim7.holds Tryz.pinned (.plain (OpenSpec.ofChange tableLeavesSpec)) tableLeavesCard

/-- THE TIED CARD OF 'rivuletlaw18.TableTwice'. -/
def tableTwiceCard : Claim7 := { stood := { row := tableTwiceRow, standIns := [], harness := (true, "d87fa11ef1d1b31b947515aca1f61b2c5ac378243fe9bde6ec3a8a40e682fc24"), looks := false }, kinds := [], alts := [], laidByText := true, laidKinds := [.data, .pinned], laidTests := true, laidLooks := .later }
def TableTwiceCardSaid : Prop := Claim7.holds Tryz.pinned (.plain (OpenSpec.ofChange tableTwiceSpec)) tableTwiceCard

/-- THE SECOND FORM's CARD OF 'rivuletlaw18.TableDoes'. -/
def tableDoesUptoCard : Claim7 := { stood := { row := tableDoesUptoRow, standIns := [], harness := (true, "d87fa11ef1d1b31b947515aca1f61b2c5ac378243fe9bde6ec3a8a40e682fc24"), looks := false }, kinds := [], alts := [], laidByText := true, laidKinds := [.data, .pinned], laidTests := true, laidLooks := .later }
def TableDoesUptoCardSaid : Prop := Claim7.holds Tryz.pinned (.plain (OpenSpec.upto tableDoesSpec)) tableDoesUptoCard

/-- THE SECOND FORM's CARD OF 'rivuletlaw18.TableUp'. -/
def tableUpUptoCard : Claim7 := { stood := { row := tableUpUptoRow, standIns := [], harness := (true, "d87fa11ef1d1b31b947515aca1f61b2c5ac378243fe9bde6ec3a8a40e682fc24"), looks := false }, kinds := [], alts := [], laidByText := true, laidKinds := [.data, .pinned], laidTests := true, laidLooks := .later }
def TableUpUptoCardSaid : Prop := Claim7.holds Tryz.pinned (.plain (OpenSpec.upto tableUpSpec)) tableUpUptoCard

/-- THE SECOND FORM's CARD OF 'rivuletlaw18.TableSends'. -/
def tableSendsUptoCard : Claim7 := { stood := { row := tableSendsUptoRow, standIns := [], harness := (true, "d87fa11ef1d1b31b947515aca1f61b2c5ac378243fe9bde6ec3a8a40e682fc24"), looks := false }, kinds := [], alts := [], laidByText := true, laidKinds := [.data, .pinned], laidTests := true, laidLooks := .later }
def TableSendsUptoCardSaid : Prop := Claim7.holds Tryz.pinned (.plain (OpenSpec.upto tableSendsSpec)) tableSendsUptoCard

/-- THE SECOND FORM's CARD OF 'rivuletlaw18.TableApart'. -/
def tableApartUptoCard : Claim7 := { stood := { row := tableApartUptoRow, standIns := [], harness := (true, "d87fa11ef1d1b31b947515aca1f61b2c5ac378243fe9bde6ec3a8a40e682fc24"), looks := false }, kinds := [], alts := [], laidByText := true, laidKinds := [.data, .pinned], laidTests := true, laidLooks := .later }
def TableApartUptoCardSaid : Prop := Claim7.holds Tryz.pinned (.plain (OpenSpec.upto tableApartSpec)) tableApartUptoCard

/-- THE SECOND FORM's CARD OF 'rivuletlaw18.TableLeaves'. -/
def tableLeavesUptoCard : Claim7 := { stood := { row := tableLeavesUptoRow, standIns := [], harness := (true, "d87fa11ef1d1b31b947515aca1f61b2c5ac378243fe9bde6ec3a8a40e682fc24"), looks := false }, kinds := [], alts := [], laidByText := true, laidKinds := [.data, .pinned], laidTests := true, laidLooks := .later }
def TableLeavesUptoCardSaid : Prop := Claim7.holds Tryz.pinned (.plain (OpenSpec.upto tableLeavesSpec)) tableLeavesUptoCard

/-- THE SECOND FORM's CARD OF 'rivuletlaw18.TableTwice'. -/
def tableTwiceUptoCard : Claim7 := { stood := { row := tableTwiceUptoRow, standIns := [], harness := (true, "d87fa11ef1d1b31b947515aca1f61b2c5ac378243fe9bde6ec3a8a40e682fc24"), looks := false }, kinds := [], alts := [], laidByText := true, laidKinds := [.data, .pinned], laidTests := true, laidLooks := .later }
def TableTwiceUptoCardSaid : Prop := Claim7.holds Tryz.pinned (.plain (OpenSpec.upto tableTwiceSpec)) tableTwiceUptoCard
end Rows
end Go.Proofs.YtipljeomgdomnaaGreatDoor
