/-
  NARROWER THAN 'FOR EVERY INPUT', by the rows' own cells (each row's printed sentence says how): ModelTells: laid · ModelMisses: laid · ModelStarts: laid · ModelAll: laid · ModelMarks: laid · ModelApart: laid.
  DERIVED. THE GIVEN ROWS OF THIS SEAT. 6 by the template 'for every input the law returns true; each argument reads behind the call as it read before'; 0 by the template 'total and deterministic' (their statements: YtgcclpfpnfmjcaaDoorTotals.lean).
  GIVEN WITH THE SEED: the statements are not yours to turn. If you find one false, say at which input.
  Laid BY PROGRAM, IN A SANDBOX (cutbox-rows.mjs): the forced cells as the released guide's own fill.sh prints them over the translation 64c0534502abcc72… (all of the seat's roots in one cut). By AI agents, Wed Nov 11 2026. No macro, syntax, notation, axiom, sorry.
-/
import Derived.Test.YtgcclpfpnfmjcaaDoorChecked
import GoSem.PinnedTables
import GoSem.Claim
import GoSem.ClaimJoined
import GoSem.ClaimMapViews
import Derived.JoinedTies
import Derived.KernelRfl
namespace Go.Proofs.YtgcclpfpnfmjcaaDoor
/- THE CELL 'sum', in the pinned program and in every row, IS THE sha256 OF THE DUMP (.gsa) THAT YtgcclpfpnfmjcaaDoorProg.lean LOADS. Nothing in Lean hashes anything: it is a label: what it is worth is what the hold of that sum in a sandbox is worth. -/
noncomputable def Tryd.pinned : Pinned := { name := "ytgcclpfpnfmjcaadoor", sum := "64c0534502abcc723b9b2101f7c61f1d4ec9beb26e875b7680962ed8f3f92094", checked := Tryd.checked }
namespace Rows
def none {H : Type} : Left H := { results := [], args := [] }

/- WHAT THE LISTED PACKAGE-LEVEL VARIABLES READ AS WHEN THE CALL BEGINS. Each datum BY PROGRAM (the guide's laid-datum.mjs) off the statement by which the dump's own 'gosem.cut.vars' lays the variable. In a bare row this is a premise. The card (YtgcclpfpnfmjcaaDoorCards.lean) ties it to the program's text. -/
def laid_unicode_utf8_acceptRanges {H : Type} : DataW H := .agg [.agg [.lit (.int .u8 128), .lit (.int .u8 191)], .agg [.lit (.int .u8 160), .lit (.int .u8 191)], .agg [.lit (.int .u8 128), .lit (.int .u8 159)], .agg [.lit (.int .u8 144), .lit (.int .u8 191)], .agg [.lit (.int .u8 128), .lit (.int .u8 143)], .agg [.lit (.int .u8 0), .lit (.int .u8 0)], .agg [.lit (.int .u8 0), .lit (.int .u8 0)], .agg [.lit (.int .u8 0), .lit (.int .u8 0)], .agg [.lit (.int .u8 0), .lit (.int .u8 0)], .agg [.lit (.int .u8 0), .lit (.int .u8 0)], .agg [.lit (.int .u8 0), .lit (.int .u8 0)], .agg [.lit (.int .u8 0), .lit (.int .u8 0)], .agg [.lit (.int .u8 0), .lit (.int .u8 0)], .agg [.lit (.int .u8 0), .lit (.int .u8 0)], .agg [.lit (.int .u8 0), .lit (.int .u8 0)], .agg [.lit (.int .u8 0), .lit (.int .u8 0)]]
/-- One of Go's own tables, pinned by name: the form's constant. -/
def laid_unicode_utf8_first : DataW Unit := Go.Pinned.utf8First

/-- 'rivuletlaw22.ModelTells': WHATEVER THE INPUT: true; the input reads as it did. -/
def modelTellsSpec : ChangeSpec := { name := "modelTells", fn := fun _ => fun
  | [d1, d2] => { results := [.lit (.bool true)], args := [d1, d2] }
  | _ => none }
def modelTellsRow : OpenClaim := { program := "ytgcclpfpnfmjcaadoor", sum := "64c0534502abcc723b9b2101f7c61f1d4ec9beb26e875b7680962ed8f3f92094", func := "rivulet/rivuletlaw22.ModelTells", spec := "modelTells", inPlace := ["internal/bytealg.IndexByteString", "internal/bytealg.IndexString"], unfollowed := true, recurses := true, named := ["unicode/utf8.first", "unicode/utf8.acceptRanges", "internal/bytealg.MaxLen"], plainKeys := false, apart := false, laid := [("unicode/utf8.acceptRanges", laid_unicode_utf8_acceptRanges), ("unicode/utf8.first", laid_unicode_utf8_first)] }
def ModelTellsSaid : Prop := modelTellsRow.holds Tryd.pinned (OpenSpec.ofChange modelTellsSpec)

/-- ITS FALSE NEIGHBOUR: 'it returns false'. Refute it at one input. -/
def modelTellsWrong : ChangeSpec := { name := "modelTells", fn := fun _ => fun
  | [d1, d2] => { results := [.lit (.bool false)], args := [d1, d2] }
  | _ => none }
def ModelTellsWrongFalsely : Prop := modelTellsRow.holds Tryd.pinned (OpenSpec.ofChange modelTellsWrong)

/-- 'rivuletlaw22.ModelMisses': WHATEVER THE INPUT: true; the input reads as it did. -/
def modelMissesSpec : ChangeSpec := { name := "modelMisses", fn := fun _ => fun
  | [d1, d2, d3] => { results := [.lit (.bool true)], args := [d1, d2, d3] }
  | _ => none }
def modelMissesRow : OpenClaim := { program := "ytgcclpfpnfmjcaadoor", sum := "64c0534502abcc723b9b2101f7c61f1d4ec9beb26e875b7680962ed8f3f92094", func := "rivulet/rivuletlaw22.ModelMisses", spec := "modelMisses", inPlace := ["internal/bytealg.IndexByteString", "internal/bytealg.IndexString"], unfollowed := true, recurses := true, named := ["unicode/utf8.first", "unicode/utf8.acceptRanges", "internal/bytealg.MaxLen"], plainKeys := false, apart := false, laid := [("unicode/utf8.acceptRanges", laid_unicode_utf8_acceptRanges), ("unicode/utf8.first", laid_unicode_utf8_first)] }
def ModelMissesSaid : Prop := modelMissesRow.holds Tryd.pinned (OpenSpec.ofChange modelMissesSpec)

/-- ITS FALSE NEIGHBOUR: 'it returns false'. Refute it at one input. -/
def modelMissesWrong : ChangeSpec := { name := "modelMisses", fn := fun _ => fun
  | [d1, d2, d3] => { results := [.lit (.bool false)], args := [d1, d2, d3] }
  | _ => none }
def ModelMissesWrongFalsely : Prop := modelMissesRow.holds Tryd.pinned (OpenSpec.ofChange modelMissesWrong)

/-- 'rivuletlaw22.ModelStarts': WHATEVER THE INPUT: true; the input reads as it did. -/
def modelStartsSpec : ChangeSpec := { name := "modelStarts", fn := fun _ => fun
  | [d1, d2, d3] => { results := [.lit (.bool true)], args := [d1, d2, d3] }
  | _ => none }
def modelStartsRow : OpenClaim := { program := "ytgcclpfpnfmjcaadoor", sum := "64c0534502abcc723b9b2101f7c61f1d4ec9beb26e875b7680962ed8f3f92094", func := "rivulet/rivuletlaw22.ModelStarts", spec := "modelStarts", inPlace := ["internal/bytealg.IndexByteString", "internal/bytealg.IndexString"], unfollowed := true, recurses := true, named := ["unicode/utf8.first", "unicode/utf8.acceptRanges", "internal/bytealg.MaxLen"], plainKeys := false, apart := false, laid := [("unicode/utf8.acceptRanges", laid_unicode_utf8_acceptRanges), ("unicode/utf8.first", laid_unicode_utf8_first)] }
def ModelStartsSaid : Prop := modelStartsRow.holds Tryd.pinned (OpenSpec.ofChange modelStartsSpec)

/-- ITS FALSE NEIGHBOUR: 'it returns false'. Refute it at one input. -/
def modelStartsWrong : ChangeSpec := { name := "modelStarts", fn := fun _ => fun
  | [d1, d2, d3] => { results := [.lit (.bool false)], args := [d1, d2, d3] }
  | _ => none }
def ModelStartsWrongFalsely : Prop := modelStartsRow.holds Tryd.pinned (OpenSpec.ofChange modelStartsWrong)

/-- 'rivuletlaw22.ModelAll': WHATEVER THE INPUT: true; the input reads as it did. -/
def modelAllSpec : ChangeSpec := { name := "modelAll", fn := fun _ => fun
  | [d1, d2, d3] => { results := [.lit (.bool true)], args := [d1, d2, d3] }
  | _ => none }
def modelAllRow : OpenClaim := { program := "ytgcclpfpnfmjcaadoor", sum := "64c0534502abcc723b9b2101f7c61f1d4ec9beb26e875b7680962ed8f3f92094", func := "rivulet/rivuletlaw22.ModelAll", spec := "modelAll", inPlace := ["internal/bytealg.IndexByteString", "internal/bytealg.IndexString"], unfollowed := true, recurses := true, named := ["unicode/utf8.first", "unicode/utf8.acceptRanges", "internal/bytealg.MaxLen"], plainKeys := false, apart := false, laid := [("unicode/utf8.acceptRanges", laid_unicode_utf8_acceptRanges), ("unicode/utf8.first", laid_unicode_utf8_first)] }
def ModelAllSaid : Prop := modelAllRow.holds Tryd.pinned (OpenSpec.ofChange modelAllSpec)

/-- ITS FALSE NEIGHBOUR: 'it returns false'. Refute it at one input. -/
def modelAllWrong : ChangeSpec := { name := "modelAll", fn := fun _ => fun
  | [d1, d2, d3] => { results := [.lit (.bool false)], args := [d1, d2, d3] }
  | _ => none }
def ModelAllWrongFalsely : Prop := modelAllRow.holds Tryd.pinned (OpenSpec.ofChange modelAllWrong)

/-- 'rivuletlaw22.ModelMarks': WHATEVER THE INPUT: true; the input reads as it did. -/
def modelMarksSpec : ChangeSpec := { name := "modelMarks", fn := fun _ => fun
  | [d] => { results := [.lit (.bool true)], args := [d] }
  | _ => none }
def modelMarksRow : OpenClaim := { program := "ytgcclpfpnfmjcaadoor", sum := "64c0534502abcc723b9b2101f7c61f1d4ec9beb26e875b7680962ed8f3f92094", func := "rivulet/rivuletlaw22.ModelMarks", spec := "modelMarks", inPlace := ["internal/bytealg.IndexByteString", "internal/bytealg.IndexString"], unfollowed := true, recurses := true, named := ["unicode/utf8.first", "unicode/utf8.acceptRanges", "internal/bytealg.MaxLen"], plainKeys := false, apart := false, laid := [("unicode/utf8.acceptRanges", laid_unicode_utf8_acceptRanges), ("unicode/utf8.first", laid_unicode_utf8_first)] }
def ModelMarksSaid : Prop := modelMarksRow.holds Tryd.pinned (OpenSpec.ofChange modelMarksSpec)

/-- ITS FALSE NEIGHBOUR: 'it returns false'. Refute it at one input. -/
def modelMarksWrong : ChangeSpec := { name := "modelMarks", fn := fun _ => fun
  | [d] => { results := [.lit (.bool false)], args := [d] }
  | _ => none }
def ModelMarksWrongFalsely : Prop := modelMarksRow.holds Tryd.pinned (OpenSpec.ofChange modelMarksWrong)

/-- 'rivuletlaw22.ModelApart': WHATEVER THE INPUT: true; the input reads as it did. -/
def modelApartSpec : ChangeSpec := { name := "modelApart", fn := fun _ => fun
  | [d1, d2, d3] => { results := [.lit (.bool true)], args := [d1, d2, d3] }
  | _ => none }
def modelApartRow : OpenClaim := { program := "ytgcclpfpnfmjcaadoor", sum := "64c0534502abcc723b9b2101f7c61f1d4ec9beb26e875b7680962ed8f3f92094", func := "rivulet/rivuletlaw22.ModelApart", spec := "modelApart", inPlace := ["internal/bytealg.IndexByteString", "internal/bytealg.IndexString"], unfollowed := true, recurses := true, named := ["unicode/utf8.first", "unicode/utf8.acceptRanges", "internal/bytealg.MaxLen"], plainKeys := false, apart := false, laid := [("unicode/utf8.acceptRanges", laid_unicode_utf8_acceptRanges), ("unicode/utf8.first", laid_unicode_utf8_first)] }
def ModelApartSaid : Prop := modelApartRow.holds Tryd.pinned (OpenSpec.ofChange modelApartSpec)

/-- ITS FALSE NEIGHBOUR: 'it returns false'. Refute it at one input. -/
def modelApartWrong : ChangeSpec := { name := "modelApart", fn := fun _ => fun
  | [d1, d2, d3] => { results := [.lit (.bool false)], args := [d1, d2, d3] }
  | _ => none }
def ModelApartWrongFalsely : Prop := modelApartRow.holds Tryd.pinned (OpenSpec.ofChange modelApartWrong)

/- THE SECOND FORM. 'bulk': how many values and letters a reading holds, each counted each time it is reached (what is shared counts as often as it is met; a slice's spare places count too). A statement '..UptoSaid' is the law's where the arguments, and the package variables that the reading takes, are together of bulk at most 1048576: NARROWER than '..Said'. Prove '..Said' where nothing that the law and all that it calls make is longer than what came in: it says more and counts as full. Else prove '..UptoSaid'. A law counts once. -/
mutual
def uptoBulk {H : Type} : DataW H → Nat
  | .lit (.string bytes) => bytes.length + 1
  | .lit _ => 1
  | .nil => 1
  | .ptr d => uptoBulk d + 1
  | .slice elems spare => uptoBulkAll elems + uptoBulkAll spare + 1
  | .agg parts => uptoBulkAll parts + 1
  | .iface _ d => uptoBulk d + 1
  | .map entries => uptoBulkEntries entries + 1
  | .held _ => 1
def uptoBulkAll {H : Type} : List (DataW H) → Nat
  | [] => 0
  | d :: r => uptoBulk d + uptoBulkAll r
def uptoBulkEntries {H : Type} : List (Lit × DataW H) → Nat
  | [] => 0
  | x :: r => uptoBulkEntry x + uptoBulkEntries r
def uptoBulkEntry {H : Type} : Lit × DataW H → Nat
  | (.string bytes, d) => bytes.length + uptoBulk d + 1
  | (_, d) => uptoBulk d + 1
 end
def uptoSmall : (H : Type) → List (DataW H) → Bool := fun _ ds => decide (uptoBulkAll ds ≤ 1048576)
def OpenSpec.upto (s : _root_.Go.ChangeSpec) : _root_.Go.OpenSpec := { _root_.Go.OpenSpec.ofChange s with cond := some uptoSmall }

/-- 'rivuletlaw22.ModelTells', WHERE WHAT IT READS IS OF BULK AT MOST 1048576: true; the input reads as it did. -/
def modelTellsUptoRow : OpenClaim := { program := "ytgcclpfpnfmjcaadoor", sum := "64c0534502abcc723b9b2101f7c61f1d4ec9beb26e875b7680962ed8f3f92094", func := "rivulet/rivuletlaw22.ModelTells", spec := "modelTells", inPlace := ["internal/bytealg.IndexByteString", "internal/bytealg.IndexString"], unfollowed := true, recurses := true, named := ["unicode/utf8.first", "unicode/utf8.acceptRanges", "internal/bytealg.MaxLen"], plainKeys := false, apart := false, laid := [("unicode/utf8.acceptRanges", laid_unicode_utf8_acceptRanges), ("unicode/utf8.first", laid_unicode_utf8_first)], narrowed := true }
def ModelTellsUptoSaid : Prop := modelTellsUptoRow.holds Tryd.pinned (OpenSpec.upto modelTellsSpec)

/-- 'rivuletlaw22.ModelMisses', WHERE WHAT IT READS IS OF BULK AT MOST 1048576: true; the input reads as it did. -/
def modelMissesUptoRow : OpenClaim := { program := "ytgcclpfpnfmjcaadoor", sum := "64c0534502abcc723b9b2101f7c61f1d4ec9beb26e875b7680962ed8f3f92094", func := "rivulet/rivuletlaw22.ModelMisses", spec := "modelMisses", inPlace := ["internal/bytealg.IndexByteString", "internal/bytealg.IndexString"], unfollowed := true, recurses := true, named := ["unicode/utf8.first", "unicode/utf8.acceptRanges", "internal/bytealg.MaxLen"], plainKeys := false, apart := false, laid := [("unicode/utf8.acceptRanges", laid_unicode_utf8_acceptRanges), ("unicode/utf8.first", laid_unicode_utf8_first)], narrowed := true }
def ModelMissesUptoSaid : Prop := modelMissesUptoRow.holds Tryd.pinned (OpenSpec.upto modelMissesSpec)

/-- 'rivuletlaw22.ModelStarts', WHERE WHAT IT READS IS OF BULK AT MOST 1048576: true; the input reads as it did. -/
def modelStartsUptoRow : OpenClaim := { program := "ytgcclpfpnfmjcaadoor", sum := "64c0534502abcc723b9b2101f7c61f1d4ec9beb26e875b7680962ed8f3f92094", func := "rivulet/rivuletlaw22.ModelStarts", spec := "modelStarts", inPlace := ["internal/bytealg.IndexByteString", "internal/bytealg.IndexString"], unfollowed := true, recurses := true, named := ["unicode/utf8.first", "unicode/utf8.acceptRanges", "internal/bytealg.MaxLen"], plainKeys := false, apart := false, laid := [("unicode/utf8.acceptRanges", laid_unicode_utf8_acceptRanges), ("unicode/utf8.first", laid_unicode_utf8_first)], narrowed := true }
def ModelStartsUptoSaid : Prop := modelStartsUptoRow.holds Tryd.pinned (OpenSpec.upto modelStartsSpec)

/-- 'rivuletlaw22.ModelAll', WHERE WHAT IT READS IS OF BULK AT MOST 1048576: true; the input reads as it did. -/
def modelAllUptoRow : OpenClaim := { program := "ytgcclpfpnfmjcaadoor", sum := "64c0534502abcc723b9b2101f7c61f1d4ec9beb26e875b7680962ed8f3f92094", func := "rivulet/rivuletlaw22.ModelAll", spec := "modelAll", inPlace := ["internal/bytealg.IndexByteString", "internal/bytealg.IndexString"], unfollowed := true, recurses := true, named := ["unicode/utf8.first", "unicode/utf8.acceptRanges", "internal/bytealg.MaxLen"], plainKeys := false, apart := false, laid := [("unicode/utf8.acceptRanges", laid_unicode_utf8_acceptRanges), ("unicode/utf8.first", laid_unicode_utf8_first)], narrowed := true }
def ModelAllUptoSaid : Prop := modelAllUptoRow.holds Tryd.pinned (OpenSpec.upto modelAllSpec)

/-- 'rivuletlaw22.ModelMarks', WHERE WHAT IT READS IS OF BULK AT MOST 1048576: true; the input reads as it did. -/
def modelMarksUptoRow : OpenClaim := { program := "ytgcclpfpnfmjcaadoor", sum := "64c0534502abcc723b9b2101f7c61f1d4ec9beb26e875b7680962ed8f3f92094", func := "rivulet/rivuletlaw22.ModelMarks", spec := "modelMarks", inPlace := ["internal/bytealg.IndexByteString", "internal/bytealg.IndexString"], unfollowed := true, recurses := true, named := ["unicode/utf8.first", "unicode/utf8.acceptRanges", "internal/bytealg.MaxLen"], plainKeys := false, apart := false, laid := [("unicode/utf8.acceptRanges", laid_unicode_utf8_acceptRanges), ("unicode/utf8.first", laid_unicode_utf8_first)], narrowed := true }
def ModelMarksUptoSaid : Prop := modelMarksUptoRow.holds Tryd.pinned (OpenSpec.upto modelMarksSpec)

/-- 'rivuletlaw22.ModelApart', WHERE WHAT IT READS IS OF BULK AT MOST 1048576: true; the input reads as it did. -/
def modelApartUptoRow : OpenClaim := { program := "ytgcclpfpnfmjcaadoor", sum := "64c0534502abcc723b9b2101f7c61f1d4ec9beb26e875b7680962ed8f3f92094", func := "rivulet/rivuletlaw22.ModelApart", spec := "modelApart", inPlace := ["internal/bytealg.IndexByteString", "internal/bytealg.IndexString"], unfollowed := true, recurses := true, named := ["unicode/utf8.first", "unicode/utf8.acceptRanges", "internal/bytealg.MaxLen"], plainKeys := false, apart := false, laid := [("unicode/utf8.acceptRanges", laid_unicode_utf8_acceptRanges), ("unicode/utf8.first", laid_unicode_utf8_first)], narrowed := true }
def ModelApartUptoSaid : Prop := modelApartUptoRow.holds Tryd.pinned (OpenSpec.upto modelApartSpec)

end Rows
end Go.Proofs.YtgcclpfpnfmjcaaDoor
