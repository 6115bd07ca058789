/-
  NARROWER THAN 'FOR EVERY INPUT', by the rows' own cells (each row's printed sentence says how): BookDoes: laid · BookRecovers: laid · BookRises: laid · BookAgain: laid · BookMisses: laid · BookEmpties: laid.
  DERIVED. THE GIVEN ROWS OF THIS SEAT. 6 by the template 'for every input the law returns true; each argument reads behind the call as it read before'; 0 by the template 'total and deterministic' (their statements: YtjpjebfodhbdfaaGreatDoorTotals.lean).
  GIVEN WITH THE SEED: the statements are not yours to turn. If you find one false, say at which input.
  Laid BY PROGRAM, IN A SANDBOX (cutbox-rows.mjs): the forced cells as the released guide's own fill.sh prints them over the translation 2f4dfcdc80823c56… (all of the seat's roots in one cut). By AI agents, Wed Nov 11 2026. No macro, syntax, notation, axiom, sorry.
-/
import Derived.Test.YtjpjebfodhbdfaaGreatDoorChecked
import GoSem.PinnedTables
import GoSem.Claim
import GoSem.ClaimJoined
import GoSem.ClaimMapViews
import Derived.JoinedTies
import Derived.KernelRfl
namespace Go.Proofs.YtjpjebfodhbdfaaGreatDoor
/- THE CELL 'sum', in the pinned program and in every row, IS THE sha256 OF THE DUMP (.gsa) THAT YtjpjebfodhbdfaaGreatDoorProg.lean LOADS. Nothing in Lean hashes anything: it is a label: what it is worth is what the hold of that sum in a sandbox is worth. -/
noncomputable def Tryz.pinned : Pinned := { name := "ytjpjebfodhbdfaagreatdoor", sum := "2f4dfcdc80823c56bb980aa45a5a50017f153369def8127cd0682ebaabe766b9", checked := Tryz.checked }
namespace Rows
def none {H : Type} : Left H := { results := [], args := [] }

/- WHAT THE LISTED PACKAGE-LEVEL VARIABLES READ AS WHEN THE CALL BEGINS. Each datum BY PROGRAM (the guide's laid-datum.mjs) off the statement by which the dump's own 'gosem.cut.vars' lays the variable. In a bare row this is a premise. The card (YtjpjebfodhbdfaaGreatDoorCards.lean) ties it to the program's text. -/
def laid_unicode_utf8_acceptRanges {H : Type} : DataW H := .agg [.agg [.lit (.int .u8 128), .lit (.int .u8 191)], .agg [.lit (.int .u8 160), .lit (.int .u8 191)], .agg [.lit (.int .u8 128), .lit (.int .u8 159)], .agg [.lit (.int .u8 144), .lit (.int .u8 191)], .agg [.lit (.int .u8 128), .lit (.int .u8 143)], .agg [.lit (.int .u8 0), .lit (.int .u8 0)], .agg [.lit (.int .u8 0), .lit (.int .u8 0)], .agg [.lit (.int .u8 0), .lit (.int .u8 0)], .agg [.lit (.int .u8 0), .lit (.int .u8 0)], .agg [.lit (.int .u8 0), .lit (.int .u8 0)], .agg [.lit (.int .u8 0), .lit (.int .u8 0)], .agg [.lit (.int .u8 0), .lit (.int .u8 0)], .agg [.lit (.int .u8 0), .lit (.int .u8 0)], .agg [.lit (.int .u8 0), .lit (.int .u8 0)], .agg [.lit (.int .u8 0), .lit (.int .u8 0)], .agg [.lit (.int .u8 0), .lit (.int .u8 0)]]
/-- One of Go's own tables, pinned by name: the form's constant. -/
def laid_unicode_utf8_first : DataW Unit := Go.Pinned.utf8First

/-- 'rivuletlaw11.BookDoes': WHATEVER THE INPUT: true; the input reads as it did. -/
def bookDoesSpec : ChangeSpec := { name := "bookDoes", fn := fun _ => fun
  | [d1, d2, d3] => { results := [.lit (.bool true)], args := [d1, d2, d3] }
  | _ => none }
def bookDoesRow : OpenClaim := { program := "ytjpjebfodhbdfaagreatdoor", sum := "2f4dfcdc80823c56bb980aa45a5a50017f153369def8127cd0682ebaabe766b9", func := "rivulet/rivuletlaw11.BookDoes", spec := "bookDoes", inPlace := ["internal/bytealg.IndexByteString", "internal/bytealg.IndexString"], unfollowed := true, recurses := true, named := ["unicode/utf8.first", "unicode/utf8.acceptRanges", "internal/bytealg.MaxLen"], apart := false, laid := [("unicode/utf8.acceptRanges", laid_unicode_utf8_acceptRanges), ("unicode/utf8.first", laid_unicode_utf8_first)] }
def BookDoesSaid : Prop := bookDoesRow.holds Tryz.pinned (OpenSpec.ofChange bookDoesSpec)

/-- ITS FALSE NEIGHBOUR: 'it returns false'. Refute it at one input. -/
def bookDoesWrong : ChangeSpec := { name := "bookDoes", fn := fun _ => fun
  | [d1, d2, d3] => { results := [.lit (.bool false)], args := [d1, d2, d3] }
  | _ => none }
def BookDoesWrongFalsely : Prop := bookDoesRow.holds Tryz.pinned (OpenSpec.ofChange bookDoesWrong)

/-- 'rivuletlaw11.BookRecovers': WHATEVER THE INPUT: true; the input reads as it did. -/
def bookRecoversSpec : ChangeSpec := { name := "bookRecovers", fn := fun _ => fun
  | [d1, d2] => { results := [.lit (.bool true)], args := [d1, d2] }
  | _ => none }
def bookRecoversRow : OpenClaim := { program := "ytjpjebfodhbdfaagreatdoor", sum := "2f4dfcdc80823c56bb980aa45a5a50017f153369def8127cd0682ebaabe766b9", func := "rivulet/rivuletlaw11.BookRecovers", spec := "bookRecovers", inPlace := ["internal/bytealg.IndexByteString", "internal/bytealg.IndexString"], unfollowed := true, recurses := true, named := ["unicode/utf8.first", "unicode/utf8.acceptRanges", "internal/bytealg.MaxLen"], apart := false, laid := [("unicode/utf8.acceptRanges", laid_unicode_utf8_acceptRanges), ("unicode/utf8.first", laid_unicode_utf8_first)] }
def BookRecoversSaid : Prop := bookRecoversRow.holds Tryz.pinned (OpenSpec.ofChange bookRecoversSpec)

/-- ITS FALSE NEIGHBOUR: 'it returns false'. Refute it at one input. -/
def bookRecoversWrong : ChangeSpec := { name := "bookRecovers", fn := fun _ => fun
  | [d1, d2] => { results := [.lit (.bool false)], args := [d1, d2] }
  | _ => none }
def BookRecoversWrongFalsely : Prop := bookRecoversRow.holds Tryz.pinned (OpenSpec.ofChange bookRecoversWrong)

/-- 'rivuletlaw11.BookRises': WHATEVER THE INPUT: true; the input reads as it did. -/
def bookRisesSpec : ChangeSpec := { name := "bookRises", fn := fun _ => fun
  | [d] => { results := [.lit (.bool true)], args := [d] }
  | _ => none }
def bookRisesRow : OpenClaim := { program := "ytjpjebfodhbdfaagreatdoor", sum := "2f4dfcdc80823c56bb980aa45a5a50017f153369def8127cd0682ebaabe766b9", func := "rivulet/rivuletlaw11.BookRises", spec := "bookRises", inPlace := ["internal/bytealg.IndexByteString", "internal/bytealg.IndexString"], unfollowed := true, recurses := true, named := ["unicode/utf8.first", "unicode/utf8.acceptRanges", "internal/bytealg.MaxLen"], apart := false, laid := [("unicode/utf8.acceptRanges", laid_unicode_utf8_acceptRanges), ("unicode/utf8.first", laid_unicode_utf8_first)] }
def BookRisesSaid : Prop := bookRisesRow.holds Tryz.pinned (OpenSpec.ofChange bookRisesSpec)

/-- ITS FALSE NEIGHBOUR: 'it returns false'. Refute it at one input. -/
def bookRisesWrong : ChangeSpec := { name := "bookRises", fn := fun _ => fun
  | [d] => { results := [.lit (.bool false)], args := [d] }
  | _ => none }
def BookRisesWrongFalsely : Prop := bookRisesRow.holds Tryz.pinned (OpenSpec.ofChange bookRisesWrong)

/-- 'rivuletlaw11.BookAgain': WHATEVER THE INPUT: true; the input reads as it did. -/
def bookAgainSpec : ChangeSpec := { name := "bookAgain", fn := fun _ => fun
  | [d1, d2, d3] => { results := [.lit (.bool true)], args := [d1, d2, d3] }
  | _ => none }
def bookAgainRow : OpenClaim := { program := "ytjpjebfodhbdfaagreatdoor", sum := "2f4dfcdc80823c56bb980aa45a5a50017f153369def8127cd0682ebaabe766b9", func := "rivulet/rivuletlaw11.BookAgain", spec := "bookAgain", inPlace := ["internal/bytealg.IndexByteString", "internal/bytealg.IndexString"], unfollowed := true, recurses := true, named := ["unicode/utf8.first", "unicode/utf8.acceptRanges", "internal/bytealg.MaxLen"], apart := false, laid := [("unicode/utf8.acceptRanges", laid_unicode_utf8_acceptRanges), ("unicode/utf8.first", laid_unicode_utf8_first)] }
def BookAgainSaid : Prop := bookAgainRow.holds Tryz.pinned (OpenSpec.ofChange bookAgainSpec)

/-- ITS FALSE NEIGHBOUR: 'it returns false'. Refute it at one input. -/
def bookAgainWrong : ChangeSpec := { name := "bookAgain", fn := fun _ => fun
  | [d1, d2, d3] => { results := [.lit (.bool false)], args := [d1, d2, d3] }
  | _ => none }
def BookAgainWrongFalsely : Prop := bookAgainRow.holds Tryz.pinned (OpenSpec.ofChange bookAgainWrong)

/-- 'rivuletlaw11.BookMisses': WHATEVER THE INPUT: true; the input reads as it did. -/
def bookMissesSpec : ChangeSpec := { name := "bookMisses", fn := fun _ => fun
  | [d1, d2] => { results := [.lit (.bool true)], args := [d1, d2] }
  | _ => none }
def bookMissesRow : OpenClaim := { program := "ytjpjebfodhbdfaagreatdoor", sum := "2f4dfcdc80823c56bb980aa45a5a50017f153369def8127cd0682ebaabe766b9", func := "rivulet/rivuletlaw11.BookMisses", spec := "bookMisses", inPlace := ["internal/bytealg.IndexByteString", "internal/bytealg.IndexString"], unfollowed := true, recurses := true, named := ["unicode/utf8.first", "unicode/utf8.acceptRanges", "internal/bytealg.MaxLen"], apart := false, laid := [("unicode/utf8.acceptRanges", laid_unicode_utf8_acceptRanges), ("unicode/utf8.first", laid_unicode_utf8_first)] }
def BookMissesSaid : Prop := bookMissesRow.holds Tryz.pinned (OpenSpec.ofChange bookMissesSpec)

/-- ITS FALSE NEIGHBOUR: 'it returns false'. Refute it at one input. -/
def bookMissesWrong : ChangeSpec := { name := "bookMisses", fn := fun _ => fun
  | [d1, d2] => { results := [.lit (.bool false)], args := [d1, d2] }
  | _ => none }
def BookMissesWrongFalsely : Prop := bookMissesRow.holds Tryz.pinned (OpenSpec.ofChange bookMissesWrong)

/-- 'rivuletlaw11.BookEmpties': WHATEVER THE INPUT: true; the input reads as it did. -/
def bookEmptiesSpec : ChangeSpec := { name := "bookEmpties", fn := fun _ => fun
  | [d] => { results := [.lit (.bool true)], args := [d] }
  | _ => none }
def bookEmptiesRow : OpenClaim := { program := "ytjpjebfodhbdfaagreatdoor", sum := "2f4dfcdc80823c56bb980aa45a5a50017f153369def8127cd0682ebaabe766b9", func := "rivulet/rivuletlaw11.BookEmpties", spec := "bookEmpties", inPlace := ["internal/bytealg.IndexByteString", "internal/bytealg.IndexString"], unfollowed := true, recurses := true, named := ["unicode/utf8.first", "unicode/utf8.acceptRanges", "internal/bytealg.MaxLen"], apart := false, laid := [("unicode/utf8.acceptRanges", laid_unicode_utf8_acceptRanges), ("unicode/utf8.first", laid_unicode_utf8_first)] }
def BookEmptiesSaid : Prop := bookEmptiesRow.holds Tryz.pinned (OpenSpec.ofChange bookEmptiesSpec)

/-- ITS FALSE NEIGHBOUR: 'it returns false'. Refute it at one input. -/
def bookEmptiesWrong : ChangeSpec := { name := "bookEmpties", fn := fun _ => fun
  | [d] => { results := [.lit (.bool false)], args := [d] }
  | _ => none }
def BookEmptiesWrongFalsely : Prop := bookEmptiesRow.holds Tryz.pinned (OpenSpec.ofChange bookEmptiesWrong)

/- THE SECOND FORM. 'bulk': how many values and letters a reading holds, each counted each time it is reached (what is shared counts as often as it is met; a slice's spare places count too). A statement '..UptoSaid' is the law's where the arguments, and the package variables that the reading takes, are together of bulk at most 1048576: NARROWER than '..Said'. Prove '..Said' where nothing that the law and all that it calls make is longer than what came in: it says more and counts as full. Else prove '..UptoSaid'. A law counts once. -/
mutual
def uptoBulk {H : Type} : DataW H → Nat
  | .lit (.string bytes) => bytes.length + 1
  | .lit _ => 1
  | .nil => 1
  | .ptr d => uptoBulk d + 1
  | .slice elems spare => uptoBulkAll elems + uptoBulkAll spare + 1
  | .agg parts => uptoBulkAll parts + 1
  | .iface _ d => uptoBulk d + 1
  | .map entries => uptoBulkEntries entries + 1
  | .held _ => 1
def uptoBulkAll {H : Type} : List (DataW H) → Nat
  | [] => 0
  | d :: r => uptoBulk d + uptoBulkAll r
def uptoBulkEntries {H : Type} : List (Lit × DataW H) → Nat
  | [] => 0
  | x :: r => uptoBulkEntry x + uptoBulkEntries r
def uptoBulkEntry {H : Type} : Lit × DataW H → Nat
  | (.string bytes, d) => bytes.length + uptoBulk d + 1
  | (_, d) => uptoBulk d + 1
 end
def uptoSmall : (H : Type) → List (DataW H) → Bool := fun _ ds => decide (uptoBulkAll ds ≤ 1048576)
def OpenSpec.upto (s : _root_.Go.ChangeSpec) : _root_.Go.OpenSpec := { _root_.Go.OpenSpec.ofChange s with cond := some uptoSmall }

/-- 'rivuletlaw11.BookDoes', WHERE WHAT IT READS IS OF BULK AT MOST 1048576: true; the input reads as it did. -/
def bookDoesUptoRow : OpenClaim := { program := "ytjpjebfodhbdfaagreatdoor", sum := "2f4dfcdc80823c56bb980aa45a5a50017f153369def8127cd0682ebaabe766b9", func := "rivulet/rivuletlaw11.BookDoes", spec := "bookDoes", inPlace := ["internal/bytealg.IndexByteString", "internal/bytealg.IndexString"], unfollowed := true, recurses := true, named := ["unicode/utf8.first", "unicode/utf8.acceptRanges", "internal/bytealg.MaxLen"], apart := false, laid := [("unicode/utf8.acceptRanges", laid_unicode_utf8_acceptRanges), ("unicode/utf8.first", laid_unicode_utf8_first)], narrowed := true }
def BookDoesUptoSaid : Prop := bookDoesUptoRow.holds Tryz.pinned (OpenSpec.upto bookDoesSpec)

/-- 'rivuletlaw11.BookRecovers', WHERE WHAT IT READS IS OF BULK AT MOST 1048576: true; the input reads as it did. -/
def bookRecoversUptoRow : OpenClaim := { program := "ytjpjebfodhbdfaagreatdoor", sum := "2f4dfcdc80823c56bb980aa45a5a50017f153369def8127cd0682ebaabe766b9", func := "rivulet/rivuletlaw11.BookRecovers", spec := "bookRecovers", inPlace := ["internal/bytealg.IndexByteString", "internal/bytealg.IndexString"], unfollowed := true, recurses := true, named := ["unicode/utf8.first", "unicode/utf8.acceptRanges", "internal/bytealg.MaxLen"], apart := false, laid := [("unicode/utf8.acceptRanges", laid_unicode_utf8_acceptRanges), ("unicode/utf8.first", laid_unicode_utf8_first)], narrowed := true }
def BookRecoversUptoSaid : Prop := bookRecoversUptoRow.holds Tryz.pinned (OpenSpec.upto bookRecoversSpec)

/-- 'rivuletlaw11.BookRises', WHERE WHAT IT READS IS OF BULK AT MOST 1048576: true; the input reads as it did. -/
def bookRisesUptoRow : OpenClaim := { program := "ytjpjebfodhbdfaagreatdoor", sum := "2f4dfcdc80823c56bb980aa45a5a50017f153369def8127cd0682ebaabe766b9", func := "rivulet/rivuletlaw11.BookRises", spec := "bookRises", inPlace := ["internal/bytealg.IndexByteString", "internal/bytealg.IndexString"], unfollowed := true, recurses := true, named := ["unicode/utf8.first", "unicode/utf8.acceptRanges", "internal/bytealg.MaxLen"], apart := false, laid := [("unicode/utf8.acceptRanges", laid_unicode_utf8_acceptRanges), ("unicode/utf8.first", laid_unicode_utf8_first)], narrowed := true }
def BookRisesUptoSaid : Prop := bookRisesUptoRow.holds Tryz.pinned (OpenSpec.upto bookRisesSpec)

/-- 'rivuletlaw11.BookAgain', WHERE WHAT IT READS IS OF BULK AT MOST 1048576: true; the input reads as it did. -/
def bookAgainUptoRow : OpenClaim := { program := "ytjpjebfodhbdfaagreatdoor", sum := "2f4dfcdc80823c56bb980aa45a5a50017f153369def8127cd0682ebaabe766b9", func := "rivulet/rivuletlaw11.BookAgain", spec := "bookAgain", inPlace := ["internal/bytealg.IndexByteString", "internal/bytealg.IndexString"], unfollowed := true, recurses := true, named := ["unicode/utf8.first", "unicode/utf8.acceptRanges", "internal/bytealg.MaxLen"], apart := false, laid := [("unicode/utf8.acceptRanges", laid_unicode_utf8_acceptRanges), ("unicode/utf8.first", laid_unicode_utf8_first)], narrowed := true }
def BookAgainUptoSaid : Prop := bookAgainUptoRow.holds Tryz.pinned (OpenSpec.upto bookAgainSpec)

/-- 'rivuletlaw11.BookMisses', WHERE WHAT IT READS IS OF BULK AT MOST 1048576: true; the input reads as it did. -/
def bookMissesUptoRow : OpenClaim := { program := "ytjpjebfodhbdfaagreatdoor", sum := "2f4dfcdc80823c56bb980aa45a5a50017f153369def8127cd0682ebaabe766b9", func := "rivulet/rivuletlaw11.BookMisses", spec := "bookMisses", inPlace := ["internal/bytealg.IndexByteString", "internal/bytealg.IndexString"], unfollowed := true, recurses := true, named := ["unicode/utf8.first", "unicode/utf8.acceptRanges", "internal/bytealg.MaxLen"], apart := false, laid := [("unicode/utf8.acceptRanges", laid_unicode_utf8_acceptRanges), ("unicode/utf8.first", laid_unicode_utf8_first)], narrowed := true }
def BookMissesUptoSaid : Prop := bookMissesUptoRow.holds Tryz.pinned (OpenSpec.upto bookMissesSpec)

/-- 'rivuletlaw11.BookEmpties', WHERE WHAT IT READS IS OF BULK AT MOST 1048576: true; the input reads as it did. -/
def bookEmptiesUptoRow : OpenClaim := { program := "ytjpjebfodhbdfaagreatdoor", sum := "2f4dfcdc80823c56bb980aa45a5a50017f153369def8127cd0682ebaabe766b9", func := "rivulet/rivuletlaw11.BookEmpties", spec := "bookEmpties", inPlace := ["internal/bytealg.IndexByteString", "internal/bytealg.IndexString"], unfollowed := true, recurses := true, named := ["unicode/utf8.first", "unicode/utf8.acceptRanges", "internal/bytealg.MaxLen"], apart := false, laid := [("unicode/utf8.acceptRanges", laid_unicode_utf8_acceptRanges), ("unicode/utf8.first", laid_unicode_utf8_first)], narrowed := true }
def BookEmptiesUptoSaid : Prop := bookEmptiesUptoRow.holds Tryz.pinned (OpenSpec.upto bookEmptiesSpec)

end Rows
end Go.Proofs.YtjpjebfodhbdfaaGreatDoor
