/-
  NARROWER THAN 'FOR EVERY INPUT', by the rows' own cells (each row's printed sentence says how): CoverLeast: laid · CoverTells: laid · CoverSame: laid · CoverTurns: laid · CoverDiffs: laid · CoverAdds: laid · CoverLets: laid.
  DERIVED. THE GIVEN ROWS OF THIS SEAT. 7 by the template 'for every input the law returns true; each argument reads behind the call as it read before'; 0 by the template 'total and deterministic' (their statements: YtnoicafjkgbokaaDoorTotals.lean).
  GIVEN WITH THE SEED: the statements are not yours to turn. If you find one false, say at which input.
  Laid BY PROGRAM, IN A SANDBOX (cutbox-rows.mjs): the forced cells as the released guide's own fill.sh prints them over the translation 97190efaad4566c3… (all of the seat's roots in one cut). By AI agents, Wed Nov 11 2026. No macro, syntax, notation, axiom, sorry.
-/
import Derived.Test.YtnoicafjkgbokaaDoorChecked
import GoSem.PinnedTables
import GoSem.Claim
import GoSem.ClaimJoined
import GoSem.ClaimMapViews
import Derived.JoinedTies
import Derived.KernelRfl
namespace Go.Proofs.YtnoicafjkgbokaaDoor
/- THE CELL 'sum', in the pinned program and in every row, IS THE sha256 OF THE DUMP (.gsa) THAT YtnoicafjkgbokaaDoorProg.lean LOADS. Nothing in Lean hashes anything: it is a label: what it is worth is what the hold of that sum in a sandbox is worth. -/
noncomputable def Tryd.pinned : Pinned := { name := "ytnoicafjkgbokaadoor", sum := "97190efaad4566c30bfe47b1e43c24373e7c0cdb02674108d17fa9dcae58c160", checked := Tryd.checked }
namespace Rows
def none {H : Type} : Left H := { results := [], args := [] }

/- WHAT THE LISTED PACKAGE-LEVEL VARIABLES READ AS WHEN THE CALL BEGINS. Each datum BY PROGRAM (the guide's laid-datum.mjs) off the statement by which the dump's own 'gosem.cut.vars' lays the variable. In a bare row this is a premise. The card (YtnoicafjkgbokaaDoorCards.lean) ties it to the program's text. -/
def laid_unicode_utf8_acceptRanges {H : Type} : DataW H := .agg [.agg [.lit (.int .u8 128), .lit (.int .u8 191)], .agg [.lit (.int .u8 160), .lit (.int .u8 191)], .agg [.lit (.int .u8 128), .lit (.int .u8 159)], .agg [.lit (.int .u8 144), .lit (.int .u8 191)], .agg [.lit (.int .u8 128), .lit (.int .u8 143)], .agg [.lit (.int .u8 0), .lit (.int .u8 0)], .agg [.lit (.int .u8 0), .lit (.int .u8 0)], .agg [.lit (.int .u8 0), .lit (.int .u8 0)], .agg [.lit (.int .u8 0), .lit (.int .u8 0)], .agg [.lit (.int .u8 0), .lit (.int .u8 0)], .agg [.lit (.int .u8 0), .lit (.int .u8 0)], .agg [.lit (.int .u8 0), .lit (.int .u8 0)], .agg [.lit (.int .u8 0), .lit (.int .u8 0)], .agg [.lit (.int .u8 0), .lit (.int .u8 0)], .agg [.lit (.int .u8 0), .lit (.int .u8 0)], .agg [.lit (.int .u8 0), .lit (.int .u8 0)]]
/-- One of Go's own tables, pinned by name: the form's constant. -/
def laid_unicode_utf8_first : DataW Unit := Go.Pinned.utf8First

/-- 'rivuletlaw05.CoverLeast': WHATEVER THE INPUT: true; the input reads as it did. -/
def coverLeastSpec : ChangeSpec := { name := "coverLeast", fn := fun _ => fun
  | [d1, d2] => { results := [.lit (.bool true)], args := [d1, d2] }
  | _ => none }
def coverLeastRow : OpenClaim := { program := "ytnoicafjkgbokaadoor", sum := "97190efaad4566c30bfe47b1e43c24373e7c0cdb02674108d17fa9dcae58c160", func := "rivulet/rivuletlaw05.CoverLeast", spec := "coverLeast", inPlace := ["internal/bytealg.IndexByteString", "internal/bytealg.IndexString"], unfollowed := true, recurses := true, named := ["unicode/utf8.first", "unicode/utf8.acceptRanges", "internal/bytealg.MaxLen"], apart := false, laid := [("unicode/utf8.acceptRanges", laid_unicode_utf8_acceptRanges), ("unicode/utf8.first", laid_unicode_utf8_first)] }
def CoverLeastSaid : Prop := coverLeastRow.holds Tryd.pinned (OpenSpec.ofChange coverLeastSpec)

/-- ITS FALSE NEIGHBOUR: 'it returns false'. Refute it at one input. -/
def coverLeastWrong : ChangeSpec := { name := "coverLeast", fn := fun _ => fun
  | [d1, d2] => { results := [.lit (.bool false)], args := [d1, d2] }
  | _ => none }
def CoverLeastWrongFalsely : Prop := coverLeastRow.holds Tryd.pinned (OpenSpec.ofChange coverLeastWrong)

/-- 'rivuletlaw05.CoverTells': WHATEVER THE INPUT: true; the input reads as it did. -/
def coverTellsSpec : ChangeSpec := { name := "coverTells", fn := fun _ => fun
  | [d1, d2, d3] => { results := [.lit (.bool true)], args := [d1, d2, d3] }
  | _ => none }
def coverTellsRow : OpenClaim := { program := "ytnoicafjkgbokaadoor", sum := "97190efaad4566c30bfe47b1e43c24373e7c0cdb02674108d17fa9dcae58c160", func := "rivulet/rivuletlaw05.CoverTells", spec := "coverTells", inPlace := ["internal/bytealg.IndexByteString", "internal/bytealg.IndexString"], unfollowed := true, recurses := true, named := ["unicode/utf8.first", "unicode/utf8.acceptRanges", "internal/bytealg.MaxLen"], apart := false, laid := [("unicode/utf8.acceptRanges", laid_unicode_utf8_acceptRanges), ("unicode/utf8.first", laid_unicode_utf8_first)] }
def CoverTellsSaid : Prop := coverTellsRow.holds Tryd.pinned (OpenSpec.ofChange coverTellsSpec)

/-- ITS FALSE NEIGHBOUR: 'it returns false'. Refute it at one input. -/
def coverTellsWrong : ChangeSpec := { name := "coverTells", fn := fun _ => fun
  | [d1, d2, d3] => { results := [.lit (.bool false)], args := [d1, d2, d3] }
  | _ => none }
def CoverTellsWrongFalsely : Prop := coverTellsRow.holds Tryd.pinned (OpenSpec.ofChange coverTellsWrong)

/-- 'rivuletlaw05.CoverSame': WHATEVER THE INPUT: true; the input reads as it did. -/
def coverSameSpec : ChangeSpec := { name := "coverSame", fn := fun _ => fun
  | [d1, d2] => { results := [.lit (.bool true)], args := [d1, d2] }
  | _ => none }
def coverSameRow : OpenClaim := { program := "ytnoicafjkgbokaadoor", sum := "97190efaad4566c30bfe47b1e43c24373e7c0cdb02674108d17fa9dcae58c160", func := "rivulet/rivuletlaw05.CoverSame", spec := "coverSame", inPlace := ["internal/bytealg.IndexByteString", "internal/bytealg.IndexString"], unfollowed := true, recurses := true, named := ["unicode/utf8.first", "unicode/utf8.acceptRanges", "internal/bytealg.MaxLen"], apart := false, laid := [("unicode/utf8.acceptRanges", laid_unicode_utf8_acceptRanges), ("unicode/utf8.first", laid_unicode_utf8_first)] }
def CoverSameSaid : Prop := coverSameRow.holds Tryd.pinned (OpenSpec.ofChange coverSameSpec)

/-- ITS FALSE NEIGHBOUR: 'it returns false'. Refute it at one input. -/
def coverSameWrong : ChangeSpec := { name := "coverSame", fn := fun _ => fun
  | [d1, d2] => { results := [.lit (.bool false)], args := [d1, d2] }
  | _ => none }
def CoverSameWrongFalsely : Prop := coverSameRow.holds Tryd.pinned (OpenSpec.ofChange coverSameWrong)

/-- 'rivuletlaw05.CoverTurns': WHATEVER THE INPUT: true; the input reads as it did. -/
def coverTurnsSpec : ChangeSpec := { name := "coverTurns", fn := fun _ => fun
  | [d1, d2, d3] => { results := [.lit (.bool true)], args := [d1, d2, d3] }
  | _ => none }
def coverTurnsRow : OpenClaim := { program := "ytnoicafjkgbokaadoor", sum := "97190efaad4566c30bfe47b1e43c24373e7c0cdb02674108d17fa9dcae58c160", func := "rivulet/rivuletlaw05.CoverTurns", spec := "coverTurns", inPlace := ["internal/bytealg.IndexByteString", "internal/bytealg.IndexString"], unfollowed := true, recurses := true, named := ["unicode/utf8.first", "unicode/utf8.acceptRanges", "internal/bytealg.MaxLen"], apart := false, laid := [("unicode/utf8.acceptRanges", laid_unicode_utf8_acceptRanges), ("unicode/utf8.first", laid_unicode_utf8_first)] }
def CoverTurnsSaid : Prop := coverTurnsRow.holds Tryd.pinned (OpenSpec.ofChange coverTurnsSpec)

/-- ITS FALSE NEIGHBOUR: 'it returns false'. Refute it at one input. -/
def coverTurnsWrong : ChangeSpec := { name := "coverTurns", fn := fun _ => fun
  | [d1, d2, d3] => { results := [.lit (.bool false)], args := [d1, d2, d3] }
  | _ => none }
def CoverTurnsWrongFalsely : Prop := coverTurnsRow.holds Tryd.pinned (OpenSpec.ofChange coverTurnsWrong)

/-- 'rivuletlaw05.CoverDiffs': WHATEVER THE INPUT: true; the input reads as it did. -/
def coverDiffsSpec : ChangeSpec := { name := "coverDiffs", fn := fun _ => fun
  | [d1, d2] => { results := [.lit (.bool true)], args := [d1, d2] }
  | _ => none }
def coverDiffsRow : OpenClaim := { program := "ytnoicafjkgbokaadoor", sum := "97190efaad4566c30bfe47b1e43c24373e7c0cdb02674108d17fa9dcae58c160", func := "rivulet/rivuletlaw05.CoverDiffs", spec := "coverDiffs", inPlace := ["internal/bytealg.IndexByteString", "internal/bytealg.IndexString"], unfollowed := true, recurses := true, named := ["unicode/utf8.first", "unicode/utf8.acceptRanges", "internal/bytealg.MaxLen"], apart := false, laid := [("unicode/utf8.acceptRanges", laid_unicode_utf8_acceptRanges), ("unicode/utf8.first", laid_unicode_utf8_first)] }
def CoverDiffsSaid : Prop := coverDiffsRow.holds Tryd.pinned (OpenSpec.ofChange coverDiffsSpec)

/-- ITS FALSE NEIGHBOUR: 'it returns false'. Refute it at one input. -/
def coverDiffsWrong : ChangeSpec := { name := "coverDiffs", fn := fun _ => fun
  | [d1, d2] => { results := [.lit (.bool false)], args := [d1, d2] }
  | _ => none }
def CoverDiffsWrongFalsely : Prop := coverDiffsRow.holds Tryd.pinned (OpenSpec.ofChange coverDiffsWrong)

/-- 'rivuletlaw05.CoverAdds': WHATEVER THE INPUT: true; the input reads as it did. -/
def coverAddsSpec : ChangeSpec := { name := "coverAdds", fn := fun _ => fun
  | [d1, d2] => { results := [.lit (.bool true)], args := [d1, d2] }
  | _ => none }
def coverAddsRow : OpenClaim := { program := "ytnoicafjkgbokaadoor", sum := "97190efaad4566c30bfe47b1e43c24373e7c0cdb02674108d17fa9dcae58c160", func := "rivulet/rivuletlaw05.CoverAdds", spec := "coverAdds", inPlace := ["internal/bytealg.IndexByteString", "internal/bytealg.IndexString"], unfollowed := true, recurses := true, named := ["unicode/utf8.first", "unicode/utf8.acceptRanges", "internal/bytealg.MaxLen"], apart := false, laid := [("unicode/utf8.acceptRanges", laid_unicode_utf8_acceptRanges), ("unicode/utf8.first", laid_unicode_utf8_first)] }
def CoverAddsSaid : Prop := coverAddsRow.holds Tryd.pinned (OpenSpec.ofChange coverAddsSpec)

/-- ITS FALSE NEIGHBOUR: 'it returns false'. Refute it at one input. -/
def coverAddsWrong : ChangeSpec := { name := "coverAdds", fn := fun _ => fun
  | [d1, d2] => { results := [.lit (.bool false)], args := [d1, d2] }
  | _ => none }
def CoverAddsWrongFalsely : Prop := coverAddsRow.holds Tryd.pinned (OpenSpec.ofChange coverAddsWrong)

/-- 'rivuletlaw05.CoverLets': WHATEVER THE INPUT: true; the input reads as it did. -/
def coverLetsSpec : ChangeSpec := { name := "coverLets", fn := fun _ => fun
  | [d1, d2, d3] => { results := [.lit (.bool true)], args := [d1, d2, d3] }
  | _ => none }
def coverLetsRow : OpenClaim := { program := "ytnoicafjkgbokaadoor", sum := "97190efaad4566c30bfe47b1e43c24373e7c0cdb02674108d17fa9dcae58c160", func := "rivulet/rivuletlaw05.CoverLets", spec := "coverLets", inPlace := ["internal/bytealg.IndexByteString", "internal/bytealg.IndexString"], unfollowed := true, recurses := true, named := ["unicode/utf8.first", "unicode/utf8.acceptRanges", "internal/bytealg.MaxLen"], apart := false, laid := [("unicode/utf8.acceptRanges", laid_unicode_utf8_acceptRanges), ("unicode/utf8.first", laid_unicode_utf8_first)] }
def CoverLetsSaid : Prop := coverLetsRow.holds Tryd.pinned (OpenSpec.ofChange coverLetsSpec)

/-- ITS FALSE NEIGHBOUR: 'it returns false'. Refute it at one input. -/
def coverLetsWrong : ChangeSpec := { name := "coverLets", fn := fun _ => fun
  | [d1, d2, d3] => { results := [.lit (.bool false)], args := [d1, d2, d3] }
  | _ => none }
def CoverLetsWrongFalsely : Prop := coverLetsRow.holds Tryd.pinned (OpenSpec.ofChange coverLetsWrong)

/- THE SECOND FORM. 'bulk': how many values and letters a reading holds, each counted each time it is reached (what is shared counts as often as it is met; a slice's spare places count too). A statement '..UptoSaid' is the law's where the arguments, and the package variables that the reading takes, are together of bulk at most 1048576: NARROWER than '..Said'. Prove '..Said' where nothing that the law and all that it calls make is longer than what came in: it says more and counts as full. Else prove '..UptoSaid'. A law counts once. -/
mutual
def uptoBulk {H : Type} : DataW H → Nat
  | .lit (.string bytes) => bytes.length + 1
  | .lit _ => 1
  | .nil => 1
  | .ptr d => uptoBulk d + 1
  | .slice elems spare => uptoBulkAll elems + uptoBulkAll spare + 1
  | .agg parts => uptoBulkAll parts + 1
  | .iface _ d => uptoBulk d + 1
  | .map entries => uptoBulkEntries entries + 1
  | .held _ => 1
def uptoBulkAll {H : Type} : List (DataW H) → Nat
  | [] => 0
  | d :: r => uptoBulk d + uptoBulkAll r
def uptoBulkEntries {H : Type} : List (Lit × DataW H) → Nat
  | [] => 0
  | x :: r => uptoBulkEntry x + uptoBulkEntries r
def uptoBulkEntry {H : Type} : Lit × DataW H → Nat
  | (.string bytes, d) => bytes.length + uptoBulk d + 1
  | (_, d) => uptoBulk d + 1
 end
def uptoSmall : (H : Type) → List (DataW H) → Bool := fun _ ds => decide (uptoBulkAll ds ≤ 1048576)
def OpenSpec.upto (s : _root_.Go.ChangeSpec) : _root_.Go.OpenSpec := { _root_.Go.OpenSpec.ofChange s with cond := some uptoSmall }

/-- 'rivuletlaw05.CoverLeast', WHERE WHAT IT READS IS OF BULK AT MOST 1048576: true; the input reads as it did. -/
def coverLeastUptoRow : OpenClaim := { program := "ytnoicafjkgbokaadoor", sum := "97190efaad4566c30bfe47b1e43c24373e7c0cdb02674108d17fa9dcae58c160", func := "rivulet/rivuletlaw05.CoverLeast", spec := "coverLeast", inPlace := ["internal/bytealg.IndexByteString", "internal/bytealg.IndexString"], unfollowed := true, recurses := true, named := ["unicode/utf8.first", "unicode/utf8.acceptRanges", "internal/bytealg.MaxLen"], apart := false, laid := [("unicode/utf8.acceptRanges", laid_unicode_utf8_acceptRanges), ("unicode/utf8.first", laid_unicode_utf8_first)], narrowed := true }
def CoverLeastUptoSaid : Prop := coverLeastUptoRow.holds Tryd.pinned (OpenSpec.upto coverLeastSpec)

/-- 'rivuletlaw05.CoverTells', WHERE WHAT IT READS IS OF BULK AT MOST 1048576: true; the input reads as it did. -/
def coverTellsUptoRow : OpenClaim := { program := "ytnoicafjkgbokaadoor", sum := "97190efaad4566c30bfe47b1e43c24373e7c0cdb02674108d17fa9dcae58c160", func := "rivulet/rivuletlaw05.CoverTells", spec := "coverTells", inPlace := ["internal/bytealg.IndexByteString", "internal/bytealg.IndexString"], unfollowed := true, recurses := true, named := ["unicode/utf8.first", "unicode/utf8.acceptRanges", "internal/bytealg.MaxLen"], apart := false, laid := [("unicode/utf8.acceptRanges", laid_unicode_utf8_acceptRanges), ("unicode/utf8.first", laid_unicode_utf8_first)], narrowed := true }
def CoverTellsUptoSaid : Prop := coverTellsUptoRow.holds Tryd.pinned (OpenSpec.upto coverTellsSpec)

/-- 'rivuletlaw05.CoverSame', WHERE WHAT IT READS IS OF BULK AT MOST 1048576: true; the input reads as it did. -/
def coverSameUptoRow : OpenClaim := { program := "ytnoicafjkgbokaadoor", sum := "97190efaad4566c30bfe47b1e43c24373e7c0cdb02674108d17fa9dcae58c160", func := "rivulet/rivuletlaw05.CoverSame", spec := "coverSame", inPlace := ["internal/bytealg.IndexByteString", "internal/bytealg.IndexString"], unfollowed := true, recurses := true, named := ["unicode/utf8.first", "unicode/utf8.acceptRanges", "internal/bytealg.MaxLen"], apart := false, laid := [("unicode/utf8.acceptRanges", laid_unicode_utf8_acceptRanges), ("unicode/utf8.first", laid_unicode_utf8_first)], narrowed := true }
def CoverSameUptoSaid : Prop := coverSameUptoRow.holds Tryd.pinned (OpenSpec.upto coverSameSpec)

/-- 'rivuletlaw05.CoverTurns', WHERE WHAT IT READS IS OF BULK AT MOST 1048576: true; the input reads as it did. -/
def coverTurnsUptoRow : OpenClaim := { program := "ytnoicafjkgbokaadoor", sum := "97190efaad4566c30bfe47b1e43c24373e7c0cdb02674108d17fa9dcae58c160", func := "rivulet/rivuletlaw05.CoverTurns", spec := "coverTurns", inPlace := ["internal/bytealg.IndexByteString", "internal/bytealg.IndexString"], unfollowed := true, recurses := true, named := ["unicode/utf8.first", "unicode/utf8.acceptRanges", "internal/bytealg.MaxLen"], apart := false, laid := [("unicode/utf8.acceptRanges", laid_unicode_utf8_acceptRanges), ("unicode/utf8.first", laid_unicode_utf8_first)], narrowed := true }
def CoverTurnsUptoSaid : Prop := coverTurnsUptoRow.holds Tryd.pinned (OpenSpec.upto coverTurnsSpec)

/-- 'rivuletlaw05.CoverDiffs', WHERE WHAT IT READS IS OF BULK AT MOST 1048576: true; the input reads as it did. -/
def coverDiffsUptoRow : OpenClaim := { program := "ytnoicafjkgbokaadoor", sum := "97190efaad4566c30bfe47b1e43c24373e7c0cdb02674108d17fa9dcae58c160", func := "rivulet/rivuletlaw05.CoverDiffs", spec := "coverDiffs", inPlace := ["internal/bytealg.IndexByteString", "internal/bytealg.IndexString"], unfollowed := true, recurses := true, named := ["unicode/utf8.first", "unicode/utf8.acceptRanges", "internal/bytealg.MaxLen"], apart := false, laid := [("unicode/utf8.acceptRanges", laid_unicode_utf8_acceptRanges), ("unicode/utf8.first", laid_unicode_utf8_first)], narrowed := true }
def CoverDiffsUptoSaid : Prop := coverDiffsUptoRow.holds Tryd.pinned (OpenSpec.upto coverDiffsSpec)

/-- 'rivuletlaw05.CoverAdds', WHERE WHAT IT READS IS OF BULK AT MOST 1048576: true; the input reads as it did. -/
def coverAddsUptoRow : OpenClaim := { program := "ytnoicafjkgbokaadoor", sum := "97190efaad4566c30bfe47b1e43c24373e7c0cdb02674108d17fa9dcae58c160", func := "rivulet/rivuletlaw05.CoverAdds", spec := "coverAdds", inPlace := ["internal/bytealg.IndexByteString", "internal/bytealg.IndexString"], unfollowed := true, recurses := true, named := ["unicode/utf8.first", "unicode/utf8.acceptRanges", "internal/bytealg.MaxLen"], apart := false, laid := [("unicode/utf8.acceptRanges", laid_unicode_utf8_acceptRanges), ("unicode/utf8.first", laid_unicode_utf8_first)], narrowed := true }
def CoverAddsUptoSaid : Prop := coverAddsUptoRow.holds Tryd.pinned (OpenSpec.upto coverAddsSpec)

/-- 'rivuletlaw05.CoverLets', WHERE WHAT IT READS IS OF BULK AT MOST 1048576: true; the input reads as it did. -/
def coverLetsUptoRow : OpenClaim := { program := "ytnoicafjkgbokaadoor", sum := "97190efaad4566c30bfe47b1e43c24373e7c0cdb02674108d17fa9dcae58c160", func := "rivulet/rivuletlaw05.CoverLets", spec := "coverLets", inPlace := ["internal/bytealg.IndexByteString", "internal/bytealg.IndexString"], unfollowed := true, recurses := true, named := ["unicode/utf8.first", "unicode/utf8.acceptRanges", "internal/bytealg.MaxLen"], apart := false, laid := [("unicode/utf8.acceptRanges", laid_unicode_utf8_acceptRanges), ("unicode/utf8.first", laid_unicode_utf8_first)], narrowed := true }
def CoverLetsUptoSaid : Prop := coverLetsUptoRow.holds Tryd.pinned (OpenSpec.upto coverLetsSpec)

end Rows
end Go.Proofs.YtnoicafjkgbokaaDoor
