/-
  NARROWER THAN 'FOR EVERY INPUT', by the rows' own cells (each row's printed sentence says how): DeviceDoes: laid · DeviceLoads: laid · DeviceRises: laid · DeviceAsks: laid · DeviceSaves: laid · DeviceFresh: laid.
  DERIVED. THE GIVEN ROWS OF THIS SEAT. 6 by the template 'for every input the law returns true; each argument reads behind the call as it read before'; 0 by the template 'total and deterministic' (their statements: YtanecnnfpdhadaaGreatDoorTotals.lean).
  GIVEN WITH THE SEED: the statements are not yours to turn. If you find one false, say at which input.
  Laid BY PROGRAM, IN A SANDBOX (cutbox-rows.mjs): the forced cells as the released guide's own fill.sh prints them over the translation 3bd26447066dc74a… (all of the seat's roots in one cut). By AI agents, Wed Nov 11 2026. No macro, syntax, notation, axiom, sorry.
-/
import Derived.Test.YtanecnnfpdhadaaGreatDoorChecked
import GoSem.PinnedTables
import GoSem.Claim
import GoSem.ClaimJoined
import GoSem.ClaimMapViews
import Derived.JoinedTies
import Derived.KernelRfl
namespace Go.Proofs.YtanecnnfpdhadaaGreatDoor
/- THE CELL 'sum', in the pinned program and in every row, IS THE sha256 OF THE DUMP (.gsa) THAT YtanecnnfpdhadaaGreatDoorProg.lean LOADS. Nothing in Lean hashes anything: it is a label: what it is worth is what the hold of that sum in a sandbox is worth. -/
noncomputable def Tryz.pinned : Pinned := { name := "ytanecnnfpdhadaagreatdoor", sum := "3bd26447066dc74ae76db72685cd1800b10e00388f12b8d62fd7b18f2333102e", checked := Tryz.checked }
namespace Rows
def none {H : Type} : Left H := { results := [], args := [] }

/- WHAT THE LISTED PACKAGE-LEVEL VARIABLES READ AS WHEN THE CALL BEGINS. Each datum BY PROGRAM (the guide's laid-datum.mjs) off the statement by which the dump's own 'gosem.cut.vars' lays the variable. In a bare row this is a premise. The card (YtanecnnfpdhadaaGreatDoorCards.lean) ties it to the program's text. -/
def laid_unicode_utf8_acceptRanges {H : Type} : DataW H := .agg [.agg [.lit (.int .u8 128), .lit (.int .u8 191)], .agg [.lit (.int .u8 160), .lit (.int .u8 191)], .agg [.lit (.int .u8 128), .lit (.int .u8 159)], .agg [.lit (.int .u8 144), .lit (.int .u8 191)], .agg [.lit (.int .u8 128), .lit (.int .u8 143)], .agg [.lit (.int .u8 0), .lit (.int .u8 0)], .agg [.lit (.int .u8 0), .lit (.int .u8 0)], .agg [.lit (.int .u8 0), .lit (.int .u8 0)], .agg [.lit (.int .u8 0), .lit (.int .u8 0)], .agg [.lit (.int .u8 0), .lit (.int .u8 0)], .agg [.lit (.int .u8 0), .lit (.int .u8 0)], .agg [.lit (.int .u8 0), .lit (.int .u8 0)], .agg [.lit (.int .u8 0), .lit (.int .u8 0)], .agg [.lit (.int .u8 0), .lit (.int .u8 0)], .agg [.lit (.int .u8 0), .lit (.int .u8 0)], .agg [.lit (.int .u8 0), .lit (.int .u8 0)]]
/-- One of Go's own tables, pinned by name: the form's constant. -/
def laid_unicode_utf8_first : DataW Unit := Go.Pinned.utf8First

/-- 'rivuletlaw19.DeviceDoes': WHATEVER THE INPUT: true; the input reads as it did. -/
def deviceDoesSpec : ChangeSpec := { name := "deviceDoes", fn := fun _ => fun
  | [d] => { results := [.lit (.bool true)], args := [d] }
  | _ => none }
def deviceDoesRow : OpenClaim := { program := "ytanecnnfpdhadaagreatdoor", sum := "3bd26447066dc74ae76db72685cd1800b10e00388f12b8d62fd7b18f2333102e", func := "rivulet/rivuletlaw19.DeviceDoes", spec := "deviceDoes", inPlace := ["internal/bytealg.IndexByteString", "internal/bytealg.IndexString", "slices.overlaps[string]"], unfollowed := true, recurses := true, named := ["unicode/utf8.first", "unicode/utf8.acceptRanges", "internal/bytealg.MaxLen"], apart := false, laid := [("unicode/utf8.acceptRanges", laid_unicode_utf8_acceptRanges), ("unicode/utf8.first", laid_unicode_utf8_first)] }
def DeviceDoesSaid : Prop := deviceDoesRow.holds Tryz.pinned (OpenSpec.ofChange deviceDoesSpec)

/-- ITS FALSE NEIGHBOUR: 'it returns false'. Refute it at one input. -/
def deviceDoesWrong : ChangeSpec := { name := "deviceDoes", fn := fun _ => fun
  | [d] => { results := [.lit (.bool false)], args := [d] }
  | _ => none }
def DeviceDoesWrongFalsely : Prop := deviceDoesRow.holds Tryz.pinned (OpenSpec.ofChange deviceDoesWrong)

/-- 'rivuletlaw19.DeviceLoads': WHATEVER THE INPUT: true; the input reads as it did. -/
def deviceLoadsSpec : ChangeSpec := { name := "deviceLoads", fn := fun _ => fun
  | [d] => { results := [.lit (.bool true)], args := [d] }
  | _ => none }
def deviceLoadsRow : OpenClaim := { program := "ytanecnnfpdhadaagreatdoor", sum := "3bd26447066dc74ae76db72685cd1800b10e00388f12b8d62fd7b18f2333102e", func := "rivulet/rivuletlaw19.DeviceLoads", spec := "deviceLoads", inPlace := ["internal/bytealg.IndexByteString", "internal/bytealg.IndexString", "slices.overlaps[string]"], unfollowed := true, recurses := true, named := ["unicode/utf8.first", "unicode/utf8.acceptRanges", "internal/bytealg.MaxLen"], apart := false, laid := [("unicode/utf8.acceptRanges", laid_unicode_utf8_acceptRanges), ("unicode/utf8.first", laid_unicode_utf8_first)] }
def DeviceLoadsSaid : Prop := deviceLoadsRow.holds Tryz.pinned (OpenSpec.ofChange deviceLoadsSpec)

/-- ITS FALSE NEIGHBOUR: 'it returns false'. Refute it at one input. -/
def deviceLoadsWrong : ChangeSpec := { name := "deviceLoads", fn := fun _ => fun
  | [d] => { results := [.lit (.bool false)], args := [d] }
  | _ => none }
def DeviceLoadsWrongFalsely : Prop := deviceLoadsRow.holds Tryz.pinned (OpenSpec.ofChange deviceLoadsWrong)

/-- 'rivuletlaw19.DeviceRises': WHATEVER THE INPUT: true; the input reads as it did. -/
def deviceRisesSpec : ChangeSpec := { name := "deviceRises", fn := fun _ => fun
  | [d1, d2] => { results := [.lit (.bool true)], args := [d1, d2] }
  | _ => none }
def deviceRisesRow : OpenClaim := { program := "ytanecnnfpdhadaagreatdoor", sum := "3bd26447066dc74ae76db72685cd1800b10e00388f12b8d62fd7b18f2333102e", func := "rivulet/rivuletlaw19.DeviceRises", spec := "deviceRises", inPlace := ["internal/bytealg.IndexByteString", "internal/bytealg.IndexString", "slices.overlaps[string]"], unfollowed := true, recurses := true, named := ["unicode/utf8.first", "unicode/utf8.acceptRanges", "internal/bytealg.MaxLen"], apart := false, laid := [("unicode/utf8.acceptRanges", laid_unicode_utf8_acceptRanges), ("unicode/utf8.first", laid_unicode_utf8_first)] }
def DeviceRisesSaid : Prop := deviceRisesRow.holds Tryz.pinned (OpenSpec.ofChange deviceRisesSpec)

/-- ITS FALSE NEIGHBOUR: 'it returns false'. Refute it at one input. -/
def deviceRisesWrong : ChangeSpec := { name := "deviceRises", fn := fun _ => fun
  | [d1, d2] => { results := [.lit (.bool false)], args := [d1, d2] }
  | _ => none }
def DeviceRisesWrongFalsely : Prop := deviceRisesRow.holds Tryz.pinned (OpenSpec.ofChange deviceRisesWrong)

/-- 'rivuletlaw19.DeviceAsks': WHATEVER THE INPUT: true; the input reads as it did. -/
def deviceAsksSpec : ChangeSpec := { name := "deviceAsks", fn := fun _ => fun
  | [d] => { results := [.lit (.bool true)], args := [d] }
  | _ => none }
def deviceAsksRow : OpenClaim := { program := "ytanecnnfpdhadaagreatdoor", sum := "3bd26447066dc74ae76db72685cd1800b10e00388f12b8d62fd7b18f2333102e", func := "rivulet/rivuletlaw19.DeviceAsks", spec := "deviceAsks", inPlace := ["internal/bytealg.IndexByteString", "internal/bytealg.IndexString", "slices.overlaps[string]"], unfollowed := true, recurses := true, named := ["unicode/utf8.first", "unicode/utf8.acceptRanges", "internal/bytealg.MaxLen"], apart := false, laid := [("unicode/utf8.acceptRanges", laid_unicode_utf8_acceptRanges), ("unicode/utf8.first", laid_unicode_utf8_first)] }
def DeviceAsksSaid : Prop := deviceAsksRow.holds Tryz.pinned (OpenSpec.ofChange deviceAsksSpec)

/-- ITS FALSE NEIGHBOUR: 'it returns false'. Refute it at one input. -/
def deviceAsksWrong : ChangeSpec := { name := "deviceAsks", fn := fun _ => fun
  | [d] => { results := [.lit (.bool false)], args := [d] }
  | _ => none }
def DeviceAsksWrongFalsely : Prop := deviceAsksRow.holds Tryz.pinned (OpenSpec.ofChange deviceAsksWrong)

/-- 'rivuletlaw19.DeviceSaves': WHATEVER THE INPUT: true; the input reads as it did. -/
def deviceSavesSpec : ChangeSpec := { name := "deviceSaves", fn := fun _ => fun
  | [d1, d2] => { results := [.lit (.bool true)], args := [d1, d2] }
  | _ => none }
def deviceSavesRow : OpenClaim := { program := "ytanecnnfpdhadaagreatdoor", sum := "3bd26447066dc74ae76db72685cd1800b10e00388f12b8d62fd7b18f2333102e", func := "rivulet/rivuletlaw19.DeviceSaves", spec := "deviceSaves", inPlace := ["internal/bytealg.IndexByteString", "internal/bytealg.IndexString", "slices.overlaps[string]"], unfollowed := true, recurses := true, named := ["unicode/utf8.first", "unicode/utf8.acceptRanges", "internal/bytealg.MaxLen"], apart := false, laid := [("unicode/utf8.acceptRanges", laid_unicode_utf8_acceptRanges), ("unicode/utf8.first", laid_unicode_utf8_first)] }
def DeviceSavesSaid : Prop := deviceSavesRow.holds Tryz.pinned (OpenSpec.ofChange deviceSavesSpec)

/-- ITS FALSE NEIGHBOUR: 'it returns false'. Refute it at one input. -/
def deviceSavesWrong : ChangeSpec := { name := "deviceSaves", fn := fun _ => fun
  | [d1, d2] => { results := [.lit (.bool false)], args := [d1, d2] }
  | _ => none }
def DeviceSavesWrongFalsely : Prop := deviceSavesRow.holds Tryz.pinned (OpenSpec.ofChange deviceSavesWrong)

/-- 'rivuletlaw19.DeviceFresh': WHATEVER THE INPUT: true; the input reads as it did. -/
def deviceFreshSpec : ChangeSpec := { name := "deviceFresh", fn := fun _ => fun
  | [d1, d2] => { results := [.lit (.bool true)], args := [d1, d2] }
  | _ => none }
def deviceFreshRow : OpenClaim := { program := "ytanecnnfpdhadaagreatdoor", sum := "3bd26447066dc74ae76db72685cd1800b10e00388f12b8d62fd7b18f2333102e", func := "rivulet/rivuletlaw19.DeviceFresh", spec := "deviceFresh", inPlace := ["internal/bytealg.IndexByteString", "internal/bytealg.IndexString", "slices.overlaps[string]"], unfollowed := true, recurses := true, named := ["unicode/utf8.first", "unicode/utf8.acceptRanges", "internal/bytealg.MaxLen"], apart := false, laid := [("unicode/utf8.acceptRanges", laid_unicode_utf8_acceptRanges), ("unicode/utf8.first", laid_unicode_utf8_first)] }
def DeviceFreshSaid : Prop := deviceFreshRow.holds Tryz.pinned (OpenSpec.ofChange deviceFreshSpec)

/-- ITS FALSE NEIGHBOUR: 'it returns false'. Refute it at one input. -/
def deviceFreshWrong : ChangeSpec := { name := "deviceFresh", fn := fun _ => fun
  | [d1, d2] => { results := [.lit (.bool false)], args := [d1, d2] }
  | _ => none }
def DeviceFreshWrongFalsely : Prop := deviceFreshRow.holds Tryz.pinned (OpenSpec.ofChange deviceFreshWrong)

/- THE SECOND FORM. 'bulk': how many values and letters a reading holds, each counted each time it is reached (what is shared counts as often as it is met; a slice's spare places count too). A statement '..UptoSaid' is the law's where the arguments, and the package variables that the reading takes, are together of bulk at most 1048576: NARROWER than '..Said'. Prove '..Said' where nothing that the law and all that it calls make is longer than what came in: it says more and counts as full. Else prove '..UptoSaid'. A law counts once. -/
mutual
def uptoBulk {H : Type} : DataW H → Nat
  | .lit (.string bytes) => bytes.length + 1
  | .lit _ => 1
  | .nil => 1
  | .ptr d => uptoBulk d + 1
  | .slice elems spare => uptoBulkAll elems + uptoBulkAll spare + 1
  | .agg parts => uptoBulkAll parts + 1
  | .iface _ d => uptoBulk d + 1
  | .map entries => uptoBulkEntries entries + 1
  | .held _ => 1
def uptoBulkAll {H : Type} : List (DataW H) → Nat
  | [] => 0
  | d :: r => uptoBulk d + uptoBulkAll r
def uptoBulkEntries {H : Type} : List (Lit × DataW H) → Nat
  | [] => 0
  | x :: r => uptoBulkEntry x + uptoBulkEntries r
def uptoBulkEntry {H : Type} : Lit × DataW H → Nat
  | (.string bytes, d) => bytes.length + uptoBulk d + 1
  | (_, d) => uptoBulk d + 1
 end
def uptoSmall : (H : Type) → List (DataW H) → Bool := fun _ ds => decide (uptoBulkAll ds ≤ 1048576)
def OpenSpec.upto (s : _root_.Go.ChangeSpec) : _root_.Go.OpenSpec := { _root_.Go.OpenSpec.ofChange s with cond := some uptoSmall }

/-- 'rivuletlaw19.DeviceDoes', WHERE WHAT IT READS IS OF BULK AT MOST 1048576: true; the input reads as it did. -/
def deviceDoesUptoRow : OpenClaim := { program := "ytanecnnfpdhadaagreatdoor", sum := "3bd26447066dc74ae76db72685cd1800b10e00388f12b8d62fd7b18f2333102e", func := "rivulet/rivuletlaw19.DeviceDoes", spec := "deviceDoes", inPlace := ["internal/bytealg.IndexByteString", "internal/bytealg.IndexString", "slices.overlaps[string]"], unfollowed := true, recurses := true, named := ["unicode/utf8.first", "unicode/utf8.acceptRanges", "internal/bytealg.MaxLen"], apart := false, laid := [("unicode/utf8.acceptRanges", laid_unicode_utf8_acceptRanges), ("unicode/utf8.first", laid_unicode_utf8_first)], narrowed := true }
def DeviceDoesUptoSaid : Prop := deviceDoesUptoRow.holds Tryz.pinned (OpenSpec.upto deviceDoesSpec)

/-- 'rivuletlaw19.DeviceLoads', WHERE WHAT IT READS IS OF BULK AT MOST 1048576: true; the input reads as it did. -/
def deviceLoadsUptoRow : OpenClaim := { program := "ytanecnnfpdhadaagreatdoor", sum := "3bd26447066dc74ae76db72685cd1800b10e00388f12b8d62fd7b18f2333102e", func := "rivulet/rivuletlaw19.DeviceLoads", spec := "deviceLoads", inPlace := ["internal/bytealg.IndexByteString", "internal/bytealg.IndexString", "slices.overlaps[string]"], unfollowed := true, recurses := true, named := ["unicode/utf8.first", "unicode/utf8.acceptRanges", "internal/bytealg.MaxLen"], apart := false, laid := [("unicode/utf8.acceptRanges", laid_unicode_utf8_acceptRanges), ("unicode/utf8.first", laid_unicode_utf8_first)], narrowed := true }
def DeviceLoadsUptoSaid : Prop := deviceLoadsUptoRow.holds Tryz.pinned (OpenSpec.upto deviceLoadsSpec)

/-- 'rivuletlaw19.DeviceRises', WHERE WHAT IT READS IS OF BULK AT MOST 1048576: true; the input reads as it did. -/
def deviceRisesUptoRow : OpenClaim := { program := "ytanecnnfpdhadaagreatdoor", sum := "3bd26447066dc74ae76db72685cd1800b10e00388f12b8d62fd7b18f2333102e", func := "rivulet/rivuletlaw19.DeviceRises", spec := "deviceRises", inPlace := ["internal/bytealg.IndexByteString", "internal/bytealg.IndexString", "slices.overlaps[string]"], unfollowed := true, recurses := true, named := ["unicode/utf8.first", "unicode/utf8.acceptRanges", "internal/bytealg.MaxLen"], apart := false, laid := [("unicode/utf8.acceptRanges", laid_unicode_utf8_acceptRanges), ("unicode/utf8.first", laid_unicode_utf8_first)], narrowed := true }
def DeviceRisesUptoSaid : Prop := deviceRisesUptoRow.holds Tryz.pinned (OpenSpec.upto deviceRisesSpec)

/-- 'rivuletlaw19.DeviceAsks', WHERE WHAT IT READS IS OF BULK AT MOST 1048576: true; the input reads as it did. -/
def deviceAsksUptoRow : OpenClaim := { program := "ytanecnnfpdhadaagreatdoor", sum := "3bd26447066dc74ae76db72685cd1800b10e00388f12b8d62fd7b18f2333102e", func := "rivulet/rivuletlaw19.DeviceAsks", spec := "deviceAsks", inPlace := ["internal/bytealg.IndexByteString", "internal/bytealg.IndexString", "slices.overlaps[string]"], unfollowed := true, recurses := true, named := ["unicode/utf8.first", "unicode/utf8.acceptRanges", "internal/bytealg.MaxLen"], apart := false, laid := [("unicode/utf8.acceptRanges", laid_unicode_utf8_acceptRanges), ("unicode/utf8.first", laid_unicode_utf8_first)], narrowed := true }
def DeviceAsksUptoSaid : Prop := deviceAsksUptoRow.holds Tryz.pinned (OpenSpec.upto deviceAsksSpec)

/-- 'rivuletlaw19.DeviceSaves', WHERE WHAT IT READS IS OF BULK AT MOST 1048576: true; the input reads as it did. -/
def deviceSavesUptoRow : OpenClaim := { program := "ytanecnnfpdhadaagreatdoor", sum := "3bd26447066dc74ae76db72685cd1800b10e00388f12b8d62fd7b18f2333102e", func := "rivulet/rivuletlaw19.DeviceSaves", spec := "deviceSaves", inPlace := ["internal/bytealg.IndexByteString", "internal/bytealg.IndexString", "slices.overlaps[string]"], unfollowed := true, recurses := true, named := ["unicode/utf8.first", "unicode/utf8.acceptRanges", "internal/bytealg.MaxLen"], apart := false, laid := [("unicode/utf8.acceptRanges", laid_unicode_utf8_acceptRanges), ("unicode/utf8.first", laid_unicode_utf8_first)], narrowed := true }
def DeviceSavesUptoSaid : Prop := deviceSavesUptoRow.holds Tryz.pinned (OpenSpec.upto deviceSavesSpec)

/-- 'rivuletlaw19.DeviceFresh', WHERE WHAT IT READS IS OF BULK AT MOST 1048576: true; the input reads as it did. -/
def deviceFreshUptoRow : OpenClaim := { program := "ytanecnnfpdhadaagreatdoor", sum := "3bd26447066dc74ae76db72685cd1800b10e00388f12b8d62fd7b18f2333102e", func := "rivulet/rivuletlaw19.DeviceFresh", spec := "deviceFresh", inPlace := ["internal/bytealg.IndexByteString", "internal/bytealg.IndexString", "slices.overlaps[string]"], unfollowed := true, recurses := true, named := ["unicode/utf8.first", "unicode/utf8.acceptRanges", "internal/bytealg.MaxLen"], apart := false, laid := [("unicode/utf8.acceptRanges", laid_unicode_utf8_acceptRanges), ("unicode/utf8.first", laid_unicode_utf8_first)], narrowed := true }
def DeviceFreshUptoSaid : Prop := deviceFreshUptoRow.holds Tryz.pinned (OpenSpec.upto deviceFreshSpec)

end Rows
end Go.Proofs.YtanecnnfpdhadaaGreatDoor
