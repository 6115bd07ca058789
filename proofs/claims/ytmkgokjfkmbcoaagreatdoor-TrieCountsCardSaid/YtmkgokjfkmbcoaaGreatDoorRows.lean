/-
  NARROWER THAN 'FOR EVERY INPUT', by the rows' own cells (each row's printed sentence says how): TrieDoes: laid · TrieMatches: laid · TrieTurns: laid · TrieLeaves: laid · TrieCopies: laid · TrieCounts: laid · TrieAll: laid.
  DERIVED. THE GIVEN ROWS OF THIS SEAT. 7 by the template 'for every input the law returns true; each argument reads behind the call as it read before'; 0 by the template 'total and deterministic' (their statements: YtmkgokjfkmbcoaaGreatDoorTotals.lean).
  GIVEN WITH THE SEED: the statements are not yours to turn. If you find one false, say at which input.
  Laid BY PROGRAM, IN A SANDBOX (cutbox-rows.mjs): the forced cells as the released guide's own fill.sh prints them over the translation efc1e801b3bf2bb5… (all of the seat's roots in one cut). By AI agents, Wed Nov 11 2026. No macro, syntax, notation, axiom, sorry.
-/
import Derived.Test.YtmkgokjfkmbcoaaGreatDoorChecked
import GoSem.PinnedTables
import GoSem.Claim
import GoSem.ClaimJoined
import GoSem.ClaimMapViews
import Derived.JoinedTies
import Derived.KernelRfl
namespace Go.Proofs.YtmkgokjfkmbcoaaGreatDoor
/- THE CELL 'sum', in the pinned program and in every row, IS THE sha256 OF THE DUMP (.gsa) THAT YtmkgokjfkmbcoaaGreatDoorProg.lean LOADS. Nothing in Lean hashes anything: it is a label: what it is worth is what the hold of that sum in a sandbox is worth. -/
noncomputable def Tryz.pinned : Pinned := { name := "ytmkgokjfkmbcoaagreatdoor", sum := "efc1e801b3bf2bb53cb5e2f9ea3308340f9f9fa9e4c558ff88484947bc1d0411", checked := Tryz.checked }
namespace Rows
def none {H : Type} : Left H := { results := [], args := [] }

/- WHAT THE LISTED PACKAGE-LEVEL VARIABLES READ AS WHEN THE CALL BEGINS. Each datum BY PROGRAM (the guide's laid-datum.mjs) off the statement by which the dump's own 'gosem.cut.vars' lays the variable. In a bare row this is a premise. The card (YtmkgokjfkmbcoaaGreatDoorCards.lean) ties it to the program's text. -/
def laid_unicode_utf8_acceptRanges {H : Type} : DataW H := .agg [.agg [.lit (.int .u8 128), .lit (.int .u8 191)], .agg [.lit (.int .u8 160), .lit (.int .u8 191)], .agg [.lit (.int .u8 128), .lit (.int .u8 159)], .agg [.lit (.int .u8 144), .lit (.int .u8 191)], .agg [.lit (.int .u8 128), .lit (.int .u8 143)], .agg [.lit (.int .u8 0), .lit (.int .u8 0)], .agg [.lit (.int .u8 0), .lit (.int .u8 0)], .agg [.lit (.int .u8 0), .lit (.int .u8 0)], .agg [.lit (.int .u8 0), .lit (.int .u8 0)], .agg [.lit (.int .u8 0), .lit (.int .u8 0)], .agg [.lit (.int .u8 0), .lit (.int .u8 0)], .agg [.lit (.int .u8 0), .lit (.int .u8 0)], .agg [.lit (.int .u8 0), .lit (.int .u8 0)], .agg [.lit (.int .u8 0), .lit (.int .u8 0)], .agg [.lit (.int .u8 0), .lit (.int .u8 0)], .agg [.lit (.int .u8 0), .lit (.int .u8 0)]]
/-- One of Go's own tables, pinned by name: the form's constant. -/
def laid_unicode_utf8_first : DataW Unit := Go.Pinned.utf8First

/-- 'rivuletlaw04.TrieDoes': WHATEVER THE INPUT: true; the input reads as it did. -/
def trieDoesSpec : ChangeSpec := { name := "trieDoes", fn := fun _ => fun
  | [d] => { results := [.lit (.bool true)], args := [d] }
  | _ => none }
def trieDoesRow : OpenClaim := { program := "ytmkgokjfkmbcoaagreatdoor", sum := "efc1e801b3bf2bb53cb5e2f9ea3308340f9f9fa9e4c558ff88484947bc1d0411", func := "rivulet/rivuletlaw04.TrieDoes", spec := "trieDoes", inPlace := ["maps.clone", "internal/bytealg.IndexByteString", "internal/bytealg.IndexString", "internal/abi.NoEscape", "internal/bytealg.MakeNoZero"], unfollowed := true, recurses := true, named := ["unicode/utf8.first", "unicode/utf8.acceptRanges", "internal/bytealg.MaxLen"], apart := false, laid := [("unicode/utf8.acceptRanges", laid_unicode_utf8_acceptRanges), ("unicode/utf8.first", laid_unicode_utf8_first)] }
def TrieDoesSaid : Prop := trieDoesRow.holds Tryz.pinned (OpenSpec.ofChange trieDoesSpec)

/-- ITS FALSE NEIGHBOUR: 'it returns false'. Refute it at one input. -/
def trieDoesWrong : ChangeSpec := { name := "trieDoes", fn := fun _ => fun
  | [d] => { results := [.lit (.bool false)], args := [d] }
  | _ => none }
def TrieDoesWrongFalsely : Prop := trieDoesRow.holds Tryz.pinned (OpenSpec.ofChange trieDoesWrong)

/-- 'rivuletlaw04.TrieMatches': WHATEVER THE INPUT: true; the input reads as it did. -/
def trieMatchesSpec : ChangeSpec := { name := "trieMatches", fn := fun _ => fun
  | [d1, d2] => { results := [.lit (.bool true)], args := [d1, d2] }
  | _ => none }
def trieMatchesRow : OpenClaim := { program := "ytmkgokjfkmbcoaagreatdoor", sum := "efc1e801b3bf2bb53cb5e2f9ea3308340f9f9fa9e4c558ff88484947bc1d0411", func := "rivulet/rivuletlaw04.TrieMatches", spec := "trieMatches", inPlace := ["internal/bytealg.IndexByteString", "internal/bytealg.IndexString", "internal/abi.NoEscape", "internal/bytealg.MakeNoZero", "maps.clone"], unfollowed := true, recurses := true, named := ["unicode/utf8.first", "unicode/utf8.acceptRanges", "internal/bytealg.MaxLen"], apart := false, laid := [("unicode/utf8.acceptRanges", laid_unicode_utf8_acceptRanges), ("unicode/utf8.first", laid_unicode_utf8_first)] }
def TrieMatchesSaid : Prop := trieMatchesRow.holds Tryz.pinned (OpenSpec.ofChange trieMatchesSpec)

/-- ITS FALSE NEIGHBOUR: 'it returns false'. Refute it at one input. -/
def trieMatchesWrong : ChangeSpec := { name := "trieMatches", fn := fun _ => fun
  | [d1, d2] => { results := [.lit (.bool false)], args := [d1, d2] }
  | _ => none }
def TrieMatchesWrongFalsely : Prop := trieMatchesRow.holds Tryz.pinned (OpenSpec.ofChange trieMatchesWrong)

/-- 'rivuletlaw04.TrieTurns': WHATEVER THE INPUT: true; the input reads as it did. -/
def trieTurnsSpec : ChangeSpec := { name := "trieTurns", fn := fun _ => fun
  | [d] => { results := [.lit (.bool true)], args := [d] }
  | _ => none }
def trieTurnsRow : OpenClaim := { program := "ytmkgokjfkmbcoaagreatdoor", sum := "efc1e801b3bf2bb53cb5e2f9ea3308340f9f9fa9e4c558ff88484947bc1d0411", func := "rivulet/rivuletlaw04.TrieTurns", spec := "trieTurns", inPlace := ["internal/bytealg.IndexByteString", "internal/bytealg.IndexString", "internal/abi.NoEscape", "internal/bytealg.MakeNoZero", "maps.clone"], unfollowed := true, recurses := true, named := ["unicode/utf8.first", "unicode/utf8.acceptRanges", "internal/bytealg.MaxLen"], apart := false, laid := [("unicode/utf8.acceptRanges", laid_unicode_utf8_acceptRanges), ("unicode/utf8.first", laid_unicode_utf8_first)] }
def TrieTurnsSaid : Prop := trieTurnsRow.holds Tryz.pinned (OpenSpec.ofChange trieTurnsSpec)

/-- ITS FALSE NEIGHBOUR: 'it returns false'. Refute it at one input. -/
def trieTurnsWrong : ChangeSpec := { name := "trieTurns", fn := fun _ => fun
  | [d] => { results := [.lit (.bool false)], args := [d] }
  | _ => none }
def TrieTurnsWrongFalsely : Prop := trieTurnsRow.holds Tryz.pinned (OpenSpec.ofChange trieTurnsWrong)

/-- 'rivuletlaw04.TrieLeaves': WHATEVER THE INPUT: true; the input reads as it did. -/
def trieLeavesSpec : ChangeSpec := { name := "trieLeaves", fn := fun _ => fun
  | [d1, d2, d3] => { results := [.lit (.bool true)], args := [d1, d2, d3] }
  | _ => none }
def trieLeavesRow : OpenClaim := { program := "ytmkgokjfkmbcoaagreatdoor", sum := "efc1e801b3bf2bb53cb5e2f9ea3308340f9f9fa9e4c558ff88484947bc1d0411", func := "rivulet/rivuletlaw04.TrieLeaves", spec := "trieLeaves", inPlace := ["internal/bytealg.IndexByteString", "internal/bytealg.IndexString", "internal/abi.NoEscape", "internal/bytealg.MakeNoZero", "maps.clone"], unfollowed := true, recurses := true, named := ["unicode/utf8.first", "unicode/utf8.acceptRanges", "internal/bytealg.MaxLen"], apart := false, laid := [("unicode/utf8.acceptRanges", laid_unicode_utf8_acceptRanges), ("unicode/utf8.first", laid_unicode_utf8_first)] }
def TrieLeavesSaid : Prop := trieLeavesRow.holds Tryz.pinned (OpenSpec.ofChange trieLeavesSpec)

/-- ITS FALSE NEIGHBOUR: 'it returns false'. Refute it at one input. -/
def trieLeavesWrong : ChangeSpec := { name := "trieLeaves", fn := fun _ => fun
  | [d1, d2, d3] => { results := [.lit (.bool false)], args := [d1, d2, d3] }
  | _ => none }
def TrieLeavesWrongFalsely : Prop := trieLeavesRow.holds Tryz.pinned (OpenSpec.ofChange trieLeavesWrong)

/-- 'rivuletlaw04.TrieCopies': WHATEVER THE INPUT: true; the input reads as it did. -/
def trieCopiesSpec : ChangeSpec := { name := "trieCopies", fn := fun _ => fun
  | [d1, d2] => { results := [.lit (.bool true)], args := [d1, d2] }
  | _ => none }
def trieCopiesRow : OpenClaim := { program := "ytmkgokjfkmbcoaagreatdoor", sum := "efc1e801b3bf2bb53cb5e2f9ea3308340f9f9fa9e4c558ff88484947bc1d0411", func := "rivulet/rivuletlaw04.TrieCopies", spec := "trieCopies", inPlace := ["internal/bytealg.IndexByteString", "internal/bytealg.IndexString", "internal/abi.NoEscape", "internal/bytealg.MakeNoZero", "maps.clone"], unfollowed := true, recurses := true, named := ["unicode/utf8.first", "unicode/utf8.acceptRanges", "internal/bytealg.MaxLen"], apart := false, laid := [("unicode/utf8.acceptRanges", laid_unicode_utf8_acceptRanges), ("unicode/utf8.first", laid_unicode_utf8_first)] }
def TrieCopiesSaid : Prop := trieCopiesRow.holds Tryz.pinned (OpenSpec.ofChange trieCopiesSpec)

/-- ITS FALSE NEIGHBOUR: 'it returns false'. Refute it at one input. -/
def trieCopiesWrong : ChangeSpec := { name := "trieCopies", fn := fun _ => fun
  | [d1, d2] => { results := [.lit (.bool false)], args := [d1, d2] }
  | _ => none }
def TrieCopiesWrongFalsely : Prop := trieCopiesRow.holds Tryz.pinned (OpenSpec.ofChange trieCopiesWrong)

/-- 'rivuletlaw04.TrieCounts': WHATEVER THE INPUT: true; the input reads as it did. -/
def trieCountsSpec : ChangeSpec := { name := "trieCounts", fn := fun _ => fun
  | [d1, d2, d3] => { results := [.lit (.bool true)], args := [d1, d2, d3] }
  | _ => none }
def trieCountsRow : OpenClaim := { program := "ytmkgokjfkmbcoaagreatdoor", sum := "efc1e801b3bf2bb53cb5e2f9ea3308340f9f9fa9e4c558ff88484947bc1d0411", func := "rivulet/rivuletlaw04.TrieCounts", spec := "trieCounts", inPlace := ["internal/bytealg.IndexByteString", "internal/bytealg.IndexString", "maps.clone", "internal/abi.NoEscape", "internal/bytealg.MakeNoZero"], unfollowed := true, recurses := true, named := ["unicode/utf8.first", "unicode/utf8.acceptRanges", "internal/bytealg.MaxLen"], apart := false, laid := [("unicode/utf8.acceptRanges", laid_unicode_utf8_acceptRanges), ("unicode/utf8.first", laid_unicode_utf8_first)] }
def TrieCountsSaid : Prop := trieCountsRow.holds Tryz.pinned (OpenSpec.ofChange trieCountsSpec)

/-- ITS FALSE NEIGHBOUR: 'it returns false'. Refute it at one input. -/
def trieCountsWrong : ChangeSpec := { name := "trieCounts", fn := fun _ => fun
  | [d1, d2, d3] => { results := [.lit (.bool false)], args := [d1, d2, d3] }
  | _ => none }
def TrieCountsWrongFalsely : Prop := trieCountsRow.holds Tryz.pinned (OpenSpec.ofChange trieCountsWrong)

/-- 'rivuletlaw04.TrieAll': WHATEVER THE INPUT: true; the input reads as it did. -/
def trieAllSpec : ChangeSpec := { name := "trieAll", fn := fun _ => fun
  | [d] => { results := [.lit (.bool true)], args := [d] }
  | _ => none }
def trieAllRow : OpenClaim := { program := "ytmkgokjfkmbcoaagreatdoor", sum := "efc1e801b3bf2bb53cb5e2f9ea3308340f9f9fa9e4c558ff88484947bc1d0411", func := "rivulet/rivuletlaw04.TrieAll", spec := "trieAll", inPlace := ["internal/bytealg.IndexByteString", "internal/bytealg.IndexString", "internal/abi.NoEscape", "internal/bytealg.MakeNoZero", "maps.clone"], unfollowed := true, recurses := true, named := ["unicode/utf8.first", "unicode/utf8.acceptRanges", "internal/bytealg.MaxLen"], apart := false, laid := [("unicode/utf8.acceptRanges", laid_unicode_utf8_acceptRanges), ("unicode/utf8.first", laid_unicode_utf8_first)] }
def TrieAllSaid : Prop := trieAllRow.holds Tryz.pinned (OpenSpec.ofChange trieAllSpec)

/-- ITS FALSE NEIGHBOUR: 'it returns false'. Refute it at one input. -/
def trieAllWrong : ChangeSpec := { name := "trieAll", fn := fun _ => fun
  | [d] => { results := [.lit (.bool false)], args := [d] }
  | _ => none }
def TrieAllWrongFalsely : Prop := trieAllRow.holds Tryz.pinned (OpenSpec.ofChange trieAllWrong)

/- THE SECOND FORM. 'bulk': how many values and letters a reading holds, each counted each time it is reached (what is shared counts as often as it is met; a slice's spare places count too). A statement '..UptoSaid' is the law's where the arguments, and the package variables that the reading takes, are together of bulk at most 1048576: NARROWER than '..Said'. Prove '..Said' where nothing that the law and all that it calls make is longer than what came in: it says more and counts as full. Else prove '..UptoSaid'. A law counts once. -/
mutual
def uptoBulk {H : Type} : DataW H → Nat
  | .lit (.string bytes) => bytes.length + 1
  | .lit _ => 1
  | .nil => 1
  | .ptr d => uptoBulk d + 1
  | .slice elems spare => uptoBulkAll elems + uptoBulkAll spare + 1
  | .agg parts => uptoBulkAll parts + 1
  | .iface _ d => uptoBulk d + 1
  | .map entries => uptoBulkEntries entries + 1
  | .held _ => 1
def uptoBulkAll {H : Type} : List (DataW H) → Nat
  | [] => 0
  | d :: r => uptoBulk d + uptoBulkAll r
def uptoBulkEntries {H : Type} : List (Lit × DataW H) → Nat
  | [] => 0
  | x :: r => uptoBulkEntry x + uptoBulkEntries r
def uptoBulkEntry {H : Type} : Lit × DataW H → Nat
  | (.string bytes, d) => bytes.length + uptoBulk d + 1
  | (_, d) => uptoBulk d + 1
 end
def uptoSmall : (H : Type) → List (DataW H) → Bool := fun _ ds => decide (uptoBulkAll ds ≤ 1048576)
def OpenSpec.upto (s : _root_.Go.ChangeSpec) : _root_.Go.OpenSpec := { _root_.Go.OpenSpec.ofChange s with cond := some uptoSmall }

/-- 'rivuletlaw04.TrieDoes', WHERE WHAT IT READS IS OF BULK AT MOST 1048576: true; the input reads as it did. -/
def trieDoesUptoRow : OpenClaim := { program := "ytmkgokjfkmbcoaagreatdoor", sum := "efc1e801b3bf2bb53cb5e2f9ea3308340f9f9fa9e4c558ff88484947bc1d0411", func := "rivulet/rivuletlaw04.TrieDoes", spec := "trieDoes", inPlace := ["maps.clone", "internal/bytealg.IndexByteString", "internal/bytealg.IndexString", "internal/abi.NoEscape", "internal/bytealg.MakeNoZero"], unfollowed := true, recurses := true, named := ["unicode/utf8.first", "unicode/utf8.acceptRanges", "internal/bytealg.MaxLen"], apart := false, laid := [("unicode/utf8.acceptRanges", laid_unicode_utf8_acceptRanges), ("unicode/utf8.first", laid_unicode_utf8_first)], narrowed := true }
def TrieDoesUptoSaid : Prop := trieDoesUptoRow.holds Tryz.pinned (OpenSpec.upto trieDoesSpec)

/-- 'rivuletlaw04.TrieMatches', WHERE WHAT IT READS IS OF BULK AT MOST 1048576: true; the input reads as it did. -/
def trieMatchesUptoRow : OpenClaim := { program := "ytmkgokjfkmbcoaagreatdoor", sum := "efc1e801b3bf2bb53cb5e2f9ea3308340f9f9fa9e4c558ff88484947bc1d0411", func := "rivulet/rivuletlaw04.TrieMatches", spec := "trieMatches", inPlace := ["internal/bytealg.IndexByteString", "internal/bytealg.IndexString", "internal/abi.NoEscape", "internal/bytealg.MakeNoZero", "maps.clone"], unfollowed := true, recurses := true, named := ["unicode/utf8.first", "unicode/utf8.acceptRanges", "internal/bytealg.MaxLen"], apart := false, laid := [("unicode/utf8.acceptRanges", laid_unicode_utf8_acceptRanges), ("unicode/utf8.first", laid_unicode_utf8_first)], narrowed := true }
def TrieMatchesUptoSaid : Prop := trieMatchesUptoRow.holds Tryz.pinned (OpenSpec.upto trieMatchesSpec)

/-- 'rivuletlaw04.TrieTurns', WHERE WHAT IT READS IS OF BULK AT MOST 1048576: true; the input reads as it did. -/
def trieTurnsUptoRow : OpenClaim := { program := "ytmkgokjfkmbcoaagreatdoor", sum := "efc1e801b3bf2bb53cb5e2f9ea3308340f9f9fa9e4c558ff88484947bc1d0411", func := "rivulet/rivuletlaw04.TrieTurns", spec := "trieTurns", inPlace := ["internal/bytealg.IndexByteString", "internal/bytealg.IndexString", "internal/abi.NoEscape", "internal/bytealg.MakeNoZero", "maps.clone"], unfollowed := true, recurses := true, named := ["unicode/utf8.first", "unicode/utf8.acceptRanges", "internal/bytealg.MaxLen"], apart := false, laid := [("unicode/utf8.acceptRanges", laid_unicode_utf8_acceptRanges), ("unicode/utf8.first", laid_unicode_utf8_first)], narrowed := true }
def TrieTurnsUptoSaid : Prop := trieTurnsUptoRow.holds Tryz.pinned (OpenSpec.upto trieTurnsSpec)

/-- 'rivuletlaw04.TrieLeaves', WHERE WHAT IT READS IS OF BULK AT MOST 1048576: true; the input reads as it did. -/
def trieLeavesUptoRow : OpenClaim := { program := "ytmkgokjfkmbcoaagreatdoor", sum := "efc1e801b3bf2bb53cb5e2f9ea3308340f9f9fa9e4c558ff88484947bc1d0411", func := "rivulet/rivuletlaw04.TrieLeaves", spec := "trieLeaves", inPlace := ["internal/bytealg.IndexByteString", "internal/bytealg.IndexString", "internal/abi.NoEscape", "internal/bytealg.MakeNoZero", "maps.clone"], unfollowed := true, recurses := true, named := ["unicode/utf8.first", "unicode/utf8.acceptRanges", "internal/bytealg.MaxLen"], apart := false, laid := [("unicode/utf8.acceptRanges", laid_unicode_utf8_acceptRanges), ("unicode/utf8.first", laid_unicode_utf8_first)], narrowed := true }
def TrieLeavesUptoSaid : Prop := trieLeavesUptoRow.holds Tryz.pinned (OpenSpec.upto trieLeavesSpec)

/-- 'rivuletlaw04.TrieCopies', WHERE WHAT IT READS IS OF BULK AT MOST 1048576: true; the input reads as it did. -/
def trieCopiesUptoRow : OpenClaim := { program := "ytmkgokjfkmbcoaagreatdoor", sum := "efc1e801b3bf2bb53cb5e2f9ea3308340f9f9fa9e4c558ff88484947bc1d0411", func := "rivulet/rivuletlaw04.TrieCopies", spec := "trieCopies", inPlace := ["internal/bytealg.IndexByteString", "internal/bytealg.IndexString", "internal/abi.NoEscape", "internal/bytealg.MakeNoZero", "maps.clone"], unfollowed := true, recurses := true, named := ["unicode/utf8.first", "unicode/utf8.acceptRanges", "internal/bytealg.MaxLen"], apart := false, laid := [("unicode/utf8.acceptRanges", laid_unicode_utf8_acceptRanges), ("unicode/utf8.first", laid_unicode_utf8_first)], narrowed := true }
def TrieCopiesUptoSaid : Prop := trieCopiesUptoRow.holds Tryz.pinned (OpenSpec.upto trieCopiesSpec)

/-- 'rivuletlaw04.TrieCounts', WHERE WHAT IT READS IS OF BULK AT MOST 1048576: true; the input reads as it did. -/
def trieCountsUptoRow : OpenClaim := { program := "ytmkgokjfkmbcoaagreatdoor", sum := "efc1e801b3bf2bb53cb5e2f9ea3308340f9f9fa9e4c558ff88484947bc1d0411", func := "rivulet/rivuletlaw04.TrieCounts", spec := "trieCounts", inPlace := ["internal/bytealg.IndexByteString", "internal/bytealg.IndexString", "maps.clone", "internal/abi.NoEscape", "internal/bytealg.MakeNoZero"], unfollowed := true, recurses := true, named := ["unicode/utf8.first", "unicode/utf8.acceptRanges", "internal/bytealg.MaxLen"], apart := false, laid := [("unicode/utf8.acceptRanges", laid_unicode_utf8_acceptRanges), ("unicode/utf8.first", laid_unicode_utf8_first)], narrowed := true }
def TrieCountsUptoSaid : Prop := trieCountsUptoRow.holds Tryz.pinned (OpenSpec.upto trieCountsSpec)

/-- 'rivuletlaw04.TrieAll', WHERE WHAT IT READS IS OF BULK AT MOST 1048576: true; the input reads as it did. -/
def trieAllUptoRow : OpenClaim := { program := "ytmkgokjfkmbcoaagreatdoor", sum := "efc1e801b3bf2bb53cb5e2f9ea3308340f9f9fa9e4c558ff88484947bc1d0411", func := "rivulet/rivuletlaw04.TrieAll", spec := "trieAll", inPlace := ["internal/bytealg.IndexByteString", "internal/bytealg.IndexString", "internal/abi.NoEscape", "internal/bytealg.MakeNoZero", "maps.clone"], unfollowed := true, recurses := true, named := ["unicode/utf8.first", "unicode/utf8.acceptRanges", "internal/bytealg.MaxLen"], apart := false, laid := [("unicode/utf8.acceptRanges", laid_unicode_utf8_acceptRanges), ("unicode/utf8.first", laid_unicode_utf8_first)], narrowed := true }
def TrieAllUptoSaid : Prop := trieAllUptoRow.holds Tryz.pinned (OpenSpec.upto trieAllSpec)

end Rows
end Go.Proofs.YtmkgokjfkmbcoaaGreatDoor
