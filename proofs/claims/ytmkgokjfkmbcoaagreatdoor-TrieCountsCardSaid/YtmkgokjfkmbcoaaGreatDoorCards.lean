/-
  DERIVED. GIVEN WITH THE SEED: THE CARDS: each row of YtmkgokjfkmbcoaaGreatDoorRows.lean that lists a variable, with what it lists TIED to the program's text (the seventh form; the later family's looks); each row that meets fmt, with fmt's text TOLD by the authors' own Lean function (tested against real Go, not proved from fmt's source: count such statements apart). THE CARD IS WHAT COUNTS. Prove the row's statement (the work); the ties are given (YtmkgokjfkmbcoaaGreatDoorTie.lean); close each card by the builder's one call (the guide's Derived/Test/ToyasCard.lean, 'card_holds'). Laid BY PROGRAM, IN A SANDBOX (cutbox-door.mjs). By AI agents, Wed Nov 11 2026. No macro, syntax, notation, axiom, sorry.
-/
import Derived.Test.YtmkgokjfkmbcoaaGreatDoorRows
import GoSem.ClaimSeven
namespace Go.Proofs.YtmkgokjfkmbcoaaGreatDoor
namespace Rows

/-- THE TIED CARD OF 'rivuletlaw04.TrieDoes'. -/
def trieDoesCard : Claim7 := { stood := { row := trieDoesRow, standIns := [], harness := (true, "7a5e49fa211f864f17d493e2fb48c0e68e013d53162242961761d5c166706374"), looks := true }, kinds := [], alts := [], laidByText := true, laidKinds := [.data, .pinned], laidTests := true, laidLooks := .later }
def TrieDoesCardSaid : Prop := Claim7.holds Tryz.pinned (.plain (OpenSpec.ofChange trieDoesSpec)) trieDoesCard

/-- THE TIED CARD OF 'rivuletlaw04.TrieMatches'. -/
def trieMatchesCard : Claim7 := { stood := { row := trieMatchesRow, standIns := [], harness := (true, "7a5e49fa211f864f17d493e2fb48c0e68e013d53162242961761d5c166706374"), looks := true }, kinds := [], alts := [], laidByText := true, laidKinds := [.data, .pinned], laidTests := true, laidLooks := .later }
def TrieMatchesCardSaid : Prop := Claim7.holds Tryz.pinned (.plain (OpenSpec.ofChange trieMatchesSpec)) trieMatchesCard

/-- THE TIED CARD OF 'rivuletlaw04.TrieTurns'. -/
def trieTurnsCard : Claim7 := { stood := { row := trieTurnsRow, standIns := [], harness := (true, "7a5e49fa211f864f17d493e2fb48c0e68e013d53162242961761d5c166706374"), looks := true }, kinds := [], alts := [], laidByText := true, laidKinds := [.data, .pinned], laidTests := true, laidLooks := .later }
def TrieTurnsCardSaid : Prop := Claim7.holds Tryz.pinned (.plain (OpenSpec.ofChange trieTurnsSpec)) trieTurnsCard

/-- THE TIED CARD OF 'rivuletlaw04.TrieLeaves'. -/
def trieLeavesCard : Claim7 := { stood := { row := trieLeavesRow, standIns := [], harness := (true, "7a5e49fa211f864f17d493e2fb48c0e68e013d53162242961761d5c166706374"), looks := true }, kinds := [], alts := [], laidByText := true, laidKinds := [.data, .pinned], laidTests := true, laidLooks := .later }
def TrieLeavesCardSaid : Prop := Claim7.holds Tryz.pinned (.plain (OpenSpec.ofChange trieLeavesSpec)) trieLeavesCard

/-- THE TIED CARD OF 'rivuletlaw04.TrieCopies'. -/
def trieCopiesCard : Claim7 := { stood := { row := trieCopiesRow, standIns := [], harness := (true, "7a5e49fa211f864f17d493e2fb48c0e68e013d53162242961761d5c166706374"), looks := true }, kinds := [], alts := [], laidByText := true, laidKinds := [.data, .pinned], laidTests := true, laidLooks := .later }
def TrieCopiesCardSaid : Prop := Claim7.holds Tryz.pinned (.plain (OpenSpec.ofChange trieCopiesSpec)) trieCopiesCard

/-- THE TIED CARD OF 'rivuletlaw04.TrieCounts'. -/
def trieCountsCard : Claim7 := { stood := { row := trieCountsRow, standIns := [], harness := (true, "7a5e49fa211f864f17d493e2fb48c0e68e013d53162242961761d5c166706374"), looks := true }, kinds := [], alts := [], laidByText := true, laidKinds := [.data, .pinned], laidTests := true, laidLooks := .later }
def TrieCountsCardSaid : Prop := Claim7.holds Tryz.pinned (.plain (OpenSpec.ofChange trieCountsSpec)) trieCountsCard

/-- THE TIED CARD OF 'rivuletlaw04.TrieAll'. -/
def trieAllCard : Claim7 := { stood := { row := trieAllRow, standIns := [], harness := (true, "7a5e49fa211f864f17d493e2fb48c0e68e013d53162242961761d5c166706374"), looks := true }, kinds := [], alts := [], laidByText := true, laidKinds := [.data, .pinned], laidTests := true, laidLooks := .later }
def TrieAllCardSaid : Prop := Claim7.holds Tryz.pinned (.plain (OpenSpec.ofChange trieAllSpec)) trieAllCard

/-- THE SECOND FORM's CARD OF 'rivuletlaw04.TrieDoes'. -/
def trieDoesUptoCard : Claim7 := { stood := { row := trieDoesUptoRow, standIns := [], harness := (true, "7a5e49fa211f864f17d493e2fb48c0e68e013d53162242961761d5c166706374"), looks := true }, kinds := [], alts := [], laidByText := true, laidKinds := [.data, .pinned], laidTests := true, laidLooks := .later }
def TrieDoesUptoCardSaid : Prop := Claim7.holds Tryz.pinned (.plain (OpenSpec.upto trieDoesSpec)) trieDoesUptoCard

/-- THE SECOND FORM's CARD OF 'rivuletlaw04.TrieMatches'. -/
def trieMatchesUptoCard : Claim7 := { stood := { row := trieMatchesUptoRow, standIns := [], harness := (true, "7a5e49fa211f864f17d493e2fb48c0e68e013d53162242961761d5c166706374"), looks := true }, kinds := [], alts := [], laidByText := true, laidKinds := [.data, .pinned], laidTests := true, laidLooks := .later }
def TrieMatchesUptoCardSaid : Prop := Claim7.holds Tryz.pinned (.plain (OpenSpec.upto trieMatchesSpec)) trieMatchesUptoCard

/-- THE SECOND FORM's CARD OF 'rivuletlaw04.TrieTurns'. -/
def trieTurnsUptoCard : Claim7 := { stood := { row := trieTurnsUptoRow, standIns := [], harness := (true, "7a5e49fa211f864f17d493e2fb48c0e68e013d53162242961761d5c166706374"), looks := true }, kinds := [], alts := [], laidByText := true, laidKinds := [.data, .pinned], laidTests := true, laidLooks := .later }
def TrieTurnsUptoCardSaid : Prop := Claim7.holds Tryz.pinned (.plain (OpenSpec.upto trieTurnsSpec)) trieTurnsUptoCard

/-- THE SECOND FORM's CARD OF 'rivuletlaw04.TrieLeaves'. -/
def trieLeavesUptoCard : Claim7 := { stood := { row := trieLeavesUptoRow, standIns := [], harness := (true, "7a5e49fa211f864f17d493e2fb48c0e68e013d53162242961761d5c166706374"), looks := true }, kinds := [], alts := [], laidByText := true, laidKinds := [.data, .pinned], laidTests := true, laidLooks := .later }
def TrieLeavesUptoCardSaid : Prop := Claim7.holds Tryz.pinned (.plain (OpenSpec.upto trieLeavesSpec)) trieLeavesUptoCard

/-- THE SECOND FORM's CARD OF 'rivuletlaw04.TrieCopies'. -/
def trieCopiesUptoCard : Claim7 := { stood := { row := trieCopiesUptoRow, standIns := [], harness := (true, "7a5e49fa211f864f17d493e2fb48c0e68e013d53162242961761d5c166706374"), looks := true }, kinds := [], alts := [], laidByText := true, laidKinds := [.data, .pinned], laidTests := true, laidLooks := .later }
def TrieCopiesUptoCardSaid : Prop := Claim7.holds Tryz.pinned (.plain (OpenSpec.upto trieCopiesSpec)) trieCopiesUptoCard

/-- THE SECOND FORM's CARD OF 'rivuletlaw04.TrieCounts'. -/
def trieCountsUptoCard : Claim7 := { stood := { row := trieCountsUptoRow, standIns := [], harness := (true, "7a5e49fa211f864f17d493e2fb48c0e68e013d53162242961761d5c166706374"), looks := true }, kinds := [], alts := [], laidByText := true, laidKinds := [.data, .pinned], laidTests := true, laidLooks := .later }
def TrieCountsUptoCardSaid : Prop := Claim7.holds Tryz.pinned (.plain (OpenSpec.upto trieCountsSpec)) trieCountsUptoCard

/-- THE SECOND FORM's CARD OF 'rivuletlaw04.TrieAll'. -/
def trieAllUptoCard : Claim7 := { stood := { row := trieAllUptoRow, standIns := [], harness := (true, "7a5e49fa211f864f17d493e2fb48c0e68e013d53162242961761d5c166706374"), looks := true }, kinds := [], alts := [], laidByText := true, laidKinds := [.data, .pinned], laidTests := true, laidLooks := .later }
def TrieAllUptoCardSaid : Prop := Claim7.holds Tryz.pinned (.plain (OpenSpec.upto trieAllSpec)) trieAllUptoCard
end Rows
end Go.Proofs.YtmkgokjfkmbcoaaGreatDoor
