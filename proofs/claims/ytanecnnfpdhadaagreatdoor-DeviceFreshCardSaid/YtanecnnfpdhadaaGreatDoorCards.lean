/-
  DERIVED. GIVEN WITH THE SEED: THE CARDS: each row of YtanecnnfpdhadaaGreatDoorRows.lean that lists a variable, with what it lists TIED to the program's text (the seventh form; the later family's looks); each row that meets fmt, with fmt's text TOLD by the authors' own Lean function (tested against real Go, not proved from fmt's source: count such statements apart). THE CARD IS WHAT COUNTS. Prove the row's statement (the work); the ties are given (YtanecnnfpdhadaaGreatDoorTie.lean); close each card by the builder's one call (the guide's Derived/Test/ToyasCard.lean, 'card_holds'). Laid BY PROGRAM, IN A SANDBOX (cutbox-door.mjs). By AI agents, Wed Nov 11 2026. No macro, syntax, notation, axiom, sorry.
-/
import Derived.Test.YtanecnnfpdhadaaGreatDoorRows
import GoSem.ClaimSeven
namespace Go.Proofs.YtanecnnfpdhadaaGreatDoor
namespace Rows

/-- THE TIED CARD OF 'rivuletlaw19.DeviceDoes'. -/
def deviceDoesCard : Claim7 := { stood := { row := deviceDoesRow, standIns := [], harness := (true, "d02bd5572de6fcc4cf8450bc9ff6932ef228372dcfd096590fb47a61ec750bcb"), looks := false }, kinds := [], alts := [], laidByText := true, laidKinds := [.data, .pinned], laidTests := true, laidLooks := .later }
def DeviceDoesCardSaid : Prop := Claim7.holds Tryz.pinned (.plain (OpenSpec.ofChange deviceDoesSpec)) deviceDoesCard

/-- THE TIED CARD OF 'rivuletlaw19.DeviceLoads'. -/
def deviceLoadsCard : Claim7 := { stood := { row := deviceLoadsRow, standIns := [], harness := (true, "d02bd5572de6fcc4cf8450bc9ff6932ef228372dcfd096590fb47a61ec750bcb"), looks := false }, kinds := [], alts := [], laidByText := true, laidKinds := [.data, .pinned], laidTests := true, laidLooks := .later }
def DeviceLoadsCardSaid : Prop := Claim7.holds Tryz.pinned (.plain (OpenSpec.ofChange deviceLoadsSpec)) deviceLoadsCard

/-- THE TIED CARD OF 'rivuletlaw19.DeviceRises'. -/
def deviceRisesCard : Claim7 := { stood := { row := deviceRisesRow, standIns := [], harness := (true, "d02bd5572de6fcc4cf8450bc9ff6932ef228372dcfd096590fb47a61ec750bcb"), looks := false }, kinds := [], alts := [], laidByText := true, laidKinds := [.data, .pinned], laidTests := true, laidLooks := .later }
def DeviceRisesCardSaid : Prop := Claim7.holds Tryz.pinned (.plain (OpenSpec.ofChange deviceRisesSpec)) deviceRisesCard

/-- THE TIED CARD OF 'rivuletlaw19.DeviceAsks'. -/
def deviceAsksCard : Claim7 := { stood := { row := deviceAsksRow, standIns := [], harness := (true, "d02bd5572de6fcc4cf8450bc9ff6932ef228372dcfd096590fb47a61ec750bcb"), looks := false }, kinds := [], alts := [], laidByText := true, laidKinds := [.data, .pinned], laidTests := true, laidLooks := .later }
def DeviceAsksCardSaid : Prop := Claim7.holds Tryz.pinned (.plain (OpenSpec.ofChange deviceAsksSpec)) deviceAsksCard

/-- THE TIED CARD OF 'rivuletlaw19.DeviceSaves'. -/
def deviceSavesCard : Claim7 := { stood := { row := deviceSavesRow, standIns := [], harness := (true, "d02bd5572de6fcc4cf8450bc9ff6932ef228372dcfd096590fb47a61ec750bcb"), looks := false }, kinds := [], alts := [], laidByText := true, laidKinds := [.data, .pinned], laidTests := true, laidLooks := .later }
def DeviceSavesCardSaid : Prop := Claim7.holds Tryz.pinned (.plain (OpenSpec.ofChange deviceSavesSpec)) deviceSavesCard

/-- THE TIED CARD OF 'rivuletlaw19.DeviceFresh'. -/
def deviceFreshCard : Claim7 := { stood := { row := deviceFreshRow, standIns := [], harness := (true, "d02bd5572de6fcc4cf8450bc9ff6932ef228372dcfd096590fb47a61ec750bcb"), looks := false }, kinds := [], alts := [], laidByText := true, laidKinds := [.data, .pinned], laidTests := true, laidLooks := .later }
def DeviceFreshCardSaid : Prop := Claim7.holds Tryz.pinned (.plain (OpenSpec.ofChange deviceFreshSpec)) deviceFreshCard

/-- THE SECOND FORM's CARD OF 'rivuletlaw19.DeviceDoes'. -/
def deviceDoesUptoCard : Claim7 := { stood := { row := deviceDoesUptoRow, standIns := [], harness := (true, "d02bd5572de6fcc4cf8450bc9ff6932ef228372dcfd096590fb47a61ec750bcb"), looks := false }, kinds := [], alts := [], laidByText := true, laidKinds := [.data, .pinned], laidTests := true, laidLooks := .later }
def DeviceDoesUptoCardSaid : Prop := Claim7.holds Tryz.pinned (.plain (OpenSpec.upto deviceDoesSpec)) deviceDoesUptoCard

/-- THE SECOND FORM's CARD OF 'rivuletlaw19.DeviceLoads'. -/
def deviceLoadsUptoCard : Claim7 := { stood := { row := deviceLoadsUptoRow, standIns := [], harness := (true, "d02bd5572de6fcc4cf8450bc9ff6932ef228372dcfd096590fb47a61ec750bcb"), looks := false }, kinds := [], alts := [], laidByText := true, laidKinds := [.data, .pinned], laidTests := true, laidLooks := .later }
def DeviceLoadsUptoCardSaid : Prop := Claim7.holds Tryz.pinned (.plain (OpenSpec.upto deviceLoadsSpec)) deviceLoadsUptoCard

/-- THE SECOND FORM's CARD OF 'rivuletlaw19.DeviceRises'. -/
def deviceRisesUptoCard : Claim7 := { stood := { row := deviceRisesUptoRow, standIns := [], harness := (true, "d02bd5572de6fcc4cf8450bc9ff6932ef228372dcfd096590fb47a61ec750bcb"), looks := false }, kinds := [], alts := [], laidByText := true, laidKinds := [.data, .pinned], laidTests := true, laidLooks := .later }
def DeviceRisesUptoCardSaid : Prop := Claim7.holds Tryz.pinned (.plain (OpenSpec.upto deviceRisesSpec)) deviceRisesUptoCard

/-- THE SECOND FORM's CARD OF 'rivuletlaw19.DeviceAsks'. -/
def deviceAsksUptoCard : Claim7 := { stood := { row := deviceAsksUptoRow, standIns := [], harness := (true, "d02bd5572de6fcc4cf8450bc9ff6932ef228372dcfd096590fb47a61ec750bcb"), looks := false }, kinds := [], alts := [], laidByText := true, laidKinds := [.data, .pinned], laidTests := true, laidLooks := .later }
def DeviceAsksUptoCardSaid : Prop := Claim7.holds Tryz.pinned (.plain (OpenSpec.upto deviceAsksSpec)) deviceAsksUptoCard

/-- THE SECOND FORM's CARD OF 'rivuletlaw19.DeviceSaves'. -/
def deviceSavesUptoCard : Claim7 := { stood := { row := deviceSavesUptoRow, standIns := [], harness := (true, "d02bd5572de6fcc4cf8450bc9ff6932ef228372dcfd096590fb47a61ec750bcb"), looks := false }, kinds := [], alts := [], laidByText := true, laidKinds := [.data, .pinned], laidTests := true, laidLooks := .later }
def DeviceSavesUptoCardSaid : Prop := Claim7.holds Tryz.pinned (.plain (OpenSpec.upto deviceSavesSpec)) deviceSavesUptoCard

/-- THE SECOND FORM's CARD OF 'rivuletlaw19.DeviceFresh'. -/
def deviceFreshUptoCard : Claim7 := { stood := { row := deviceFreshUptoRow, standIns := [], harness := (true, "d02bd5572de6fcc4cf8450bc9ff6932ef228372dcfd096590fb47a61ec750bcb"), looks := false }, kinds := [], alts := [], laidByText := true, laidKinds := [.data, .pinned], laidTests := true, laidLooks := .later }
def DeviceFreshUptoCardSaid : Prop := Claim7.holds Tryz.pinned (.plain (OpenSpec.upto deviceFreshSpec)) deviceFreshUptoCard
end Rows
end Go.Proofs.YtanecnnfpdhadaaGreatDoor
