/-
  No cell of these rows narrows 'for every input' (looked for: loops, veiled, ifaces, maps, wideKeys, modest, calm, conditions, laid).
  DERIVED. THE GIVEN ROWS OF THIS SEAT. 5 by the template 'for every input the law returns true; each argument reads behind the call as it read before'; 0 by the template 'total and deterministic' (their statements: YtmnmikcpdhnbnaaTotals.lean).
  GIVEN WITH THE SEED: the statements are not yours to turn. If you find one false, say at which input.
  Laid BY PROGRAM, IN A SANDBOX (cutbox-rows.mjs): the forced cells as the released guide's own fill.sh prints them over the translation 0a6d7a868b7aaa6f… (all of the seat's roots in one cut). By AI agents, Wed Nov 11 2026. No macro, syntax, notation, axiom, sorry.
-/
import Derived.Test.YtmnmikcpdhnbnaaChecked
import GoSem.Claim
import GoSem.ClaimJoined
import GoSem.ClaimMapViews
import Derived.JoinedTies
import Derived.KernelRfl
namespace Go.Proofs.Ytmnmikcpdhnbnaa
/- THE CELL 'sum', in the pinned program and in every row, IS THE sha256 OF THE DUMP (.gsa) THAT YtmnmikcpdhnbnaaProg.lean LOADS. Nothing in Lean hashes anything: it is a label: what it is worth is what the hold of that sum in a sandbox is worth. -/
noncomputable def Try.pinned : Pinned := { name := "ytmnmikcpdhnbnaa", sum := "0a6d7a868b7aaa6f3f609bcfc9e6b6cc2e58721f89f63e2ad06ccda1be4432c1", checked := Try.checked }
namespace Rows
def none {H : Type} : Left H := { results := [], args := [] }

/-- 'rivuletlaw15.BeatDoes': WHATEVER THE INPUT: true; the input reads as it did. -/
def beatDoesSpec : ChangeSpec := { name := "beatDoes", fn := fun _ => fun
  | [d1, d2, d3] => { results := [.lit (.bool true)], args := [d1, d2, d3] }
  | _ => none }
def beatDoesRow : OpenClaim := { program := "ytmnmikcpdhnbnaa", sum := "0a6d7a868b7aaa6f3f609bcfc9e6b6cc2e58721f89f63e2ad06ccda1be4432c1", func := "rivulet/rivuletlaw15.BeatDoes", spec := "beatDoes", unfollowed := true, recurses := true, apart := false }
def BeatDoesSaid : Prop := beatDoesRow.holds Try.pinned (OpenSpec.ofChange beatDoesSpec)

/-- ITS FALSE NEIGHBOUR: 'it returns false'. Refute it at one input. -/
def beatDoesWrong : ChangeSpec := { name := "beatDoes", fn := fun _ => fun
  | [d1, d2, d3] => { results := [.lit (.bool false)], args := [d1, d2, d3] }
  | _ => none }
def BeatDoesWrongFalsely : Prop := beatDoesRow.holds Try.pinned (OpenSpec.ofChange beatDoesWrong)

/-- 'rivuletlaw15.BeatLate': WHATEVER THE INPUT: true; the input reads as it did. -/
def beatLateSpec : ChangeSpec := { name := "beatLate", fn := fun _ => fun
  | [d1, d2] => { results := [.lit (.bool true)], args := [d1, d2] }
  | _ => none }
def beatLateRow : OpenClaim := { program := "ytmnmikcpdhnbnaa", sum := "0a6d7a868b7aaa6f3f609bcfc9e6b6cc2e58721f89f63e2ad06ccda1be4432c1", func := "rivulet/rivuletlaw15.BeatLate", spec := "beatLate", unfollowed := true, recurses := true, apart := false }
def BeatLateSaid : Prop := beatLateRow.holds Try.pinned (OpenSpec.ofChange beatLateSpec)

/-- ITS FALSE NEIGHBOUR: 'it returns false'. Refute it at one input. -/
def beatLateWrong : ChangeSpec := { name := "beatLate", fn := fun _ => fun
  | [d1, d2] => { results := [.lit (.bool false)], args := [d1, d2] }
  | _ => none }
def BeatLateWrongFalsely : Prop := beatLateRow.holds Try.pinned (OpenSpec.ofChange beatLateWrong)

/-- 'rivuletlaw15.BeatDue': WHATEVER THE INPUT: true; the input reads as it did. -/
def beatDueSpec : ChangeSpec := { name := "beatDue", fn := fun _ => fun
  | [d1, d2] => { results := [.lit (.bool true)], args := [d1, d2] }
  | _ => none }
def beatDueRow : OpenClaim := { program := "ytmnmikcpdhnbnaa", sum := "0a6d7a868b7aaa6f3f609bcfc9e6b6cc2e58721f89f63e2ad06ccda1be4432c1", func := "rivulet/rivuletlaw15.BeatDue", spec := "beatDue", unfollowed := true, recurses := true, apart := false }
def BeatDueSaid : Prop := beatDueRow.holds Try.pinned (OpenSpec.ofChange beatDueSpec)

/-- ITS FALSE NEIGHBOUR: 'it returns false'. Refute it at one input. -/
def beatDueWrong : ChangeSpec := { name := "beatDue", fn := fun _ => fun
  | [d1, d2] => { results := [.lit (.bool false)], args := [d1, d2] }
  | _ => none }
def BeatDueWrongFalsely : Prop := beatDueRow.holds Try.pinned (OpenSpec.ofChange beatDueWrong)

/-- 'rivuletlaw15.BeatIds': WHATEVER THE INPUT: true; the input reads as it did. -/
def beatIdsSpec : ChangeSpec := { name := "beatIds", fn := fun _ => fun
  | [d] => { results := [.lit (.bool true)], args := [d] }
  | _ => none }
def beatIdsRow : OpenClaim := { program := "ytmnmikcpdhnbnaa", sum := "0a6d7a868b7aaa6f3f609bcfc9e6b6cc2e58721f89f63e2ad06ccda1be4432c1", func := "rivulet/rivuletlaw15.BeatIds", spec := "beatIds", unfollowed := true, recurses := true, apart := false }
def BeatIdsSaid : Prop := beatIdsRow.holds Try.pinned (OpenSpec.ofChange beatIdsSpec)

/-- ITS FALSE NEIGHBOUR: 'it returns false'. Refute it at one input. -/
def beatIdsWrong : ChangeSpec := { name := "beatIds", fn := fun _ => fun
  | [d] => { results := [.lit (.bool false)], args := [d] }
  | _ => none }
def BeatIdsWrongFalsely : Prop := beatIdsRow.holds Try.pinned (OpenSpec.ofChange beatIdsWrong)

/-- 'rivuletlaw15.BeatAlone': WHATEVER THE INPUT: true; the input reads as it did. -/
def beatAloneSpec : ChangeSpec := { name := "beatAlone", fn := fun _ => fun
  | [d] => { results := [.lit (.bool true)], args := [d] }
  | _ => none }
def beatAloneRow : OpenClaim := { program := "ytmnmikcpdhnbnaa", sum := "0a6d7a868b7aaa6f3f609bcfc9e6b6cc2e58721f89f63e2ad06ccda1be4432c1", func := "rivulet/rivuletlaw15.BeatAlone", spec := "beatAlone", unfollowed := true, recurses := true, apart := false }
def BeatAloneSaid : Prop := beatAloneRow.holds Try.pinned (OpenSpec.ofChange beatAloneSpec)

/-- ITS FALSE NEIGHBOUR: 'it returns false'. Refute it at one input. -/
def beatAloneWrong : ChangeSpec := { name := "beatAlone", fn := fun _ => fun
  | [d] => { results := [.lit (.bool false)], args := [d] }
  | _ => none }
def BeatAloneWrongFalsely : Prop := beatAloneRow.holds Try.pinned (OpenSpec.ofChange beatAloneWrong)

/- THE SECOND FORM. 'bulk': how many values and letters a reading holds, each counted each time it is reached (what is shared counts as often as it is met; a slice's spare places count too). A statement '..UptoSaid' is the law's where the arguments, and the package variables that the reading takes, are together of bulk at most 1048576: NARROWER than '..Said'. Prove '..Said' where nothing that the law and all that it calls make is longer than what came in: it says more and counts as full. Else prove '..UptoSaid'. A law counts once. -/
mutual
def uptoBulk {H : Type} : DataW H → Nat
  | .lit (.string bytes) => bytes.length + 1
  | .lit _ => 1
  | .nil => 1
  | .ptr d => uptoBulk d + 1
  | .slice elems spare => uptoBulkAll elems + uptoBulkAll spare + 1
  | .agg parts => uptoBulkAll parts + 1
  | .iface _ d => uptoBulk d + 1
  | .map entries => uptoBulkEntries entries + 1
  | .held _ => 1
def uptoBulkAll {H : Type} : List (DataW H) → Nat
  | [] => 0
  | d :: r => uptoBulk d + uptoBulkAll r
def uptoBulkEntries {H : Type} : List (Lit × DataW H) → Nat
  | [] => 0
  | x :: r => uptoBulkEntry x + uptoBulkEntries r
def uptoBulkEntry {H : Type} : Lit × DataW H → Nat
  | (.string bytes, d) => bytes.length + uptoBulk d + 1
  | (_, d) => uptoBulk d + 1
 end
def uptoSmall : (H : Type) → List (DataW H) → Bool := fun _ ds => decide (uptoBulkAll ds ≤ 1048576)
def OpenSpec.upto (s : _root_.Go.ChangeSpec) : _root_.Go.OpenSpec := { _root_.Go.OpenSpec.ofChange s with cond := some uptoSmall }

/-- 'rivuletlaw15.BeatDoes', WHERE WHAT IT READS IS OF BULK AT MOST 1048576: true; the input reads as it did. -/
def beatDoesUptoRow : OpenClaim := { program := "ytmnmikcpdhnbnaa", sum := "0a6d7a868b7aaa6f3f609bcfc9e6b6cc2e58721f89f63e2ad06ccda1be4432c1", func := "rivulet/rivuletlaw15.BeatDoes", spec := "beatDoes", unfollowed := true, recurses := true, apart := false, narrowed := true }
def BeatDoesUptoSaid : Prop := beatDoesUptoRow.holds Try.pinned (OpenSpec.upto beatDoesSpec)

/-- 'rivuletlaw15.BeatLate', WHERE WHAT IT READS IS OF BULK AT MOST 1048576: true; the input reads as it did. -/
def beatLateUptoRow : OpenClaim := { program := "ytmnmikcpdhnbnaa", sum := "0a6d7a868b7aaa6f3f609bcfc9e6b6cc2e58721f89f63e2ad06ccda1be4432c1", func := "rivulet/rivuletlaw15.BeatLate", spec := "beatLate", unfollowed := true, recurses := true, apart := false, narrowed := true }
def BeatLateUptoSaid : Prop := beatLateUptoRow.holds Try.pinned (OpenSpec.upto beatLateSpec)

/-- 'rivuletlaw15.BeatDue', WHERE WHAT IT READS IS OF BULK AT MOST 1048576: true; the input reads as it did. -/
def beatDueUptoRow : OpenClaim := { program := "ytmnmikcpdhnbnaa", sum := "0a6d7a868b7aaa6f3f609bcfc9e6b6cc2e58721f89f63e2ad06ccda1be4432c1", func := "rivulet/rivuletlaw15.BeatDue", spec := "beatDue", unfollowed := true, recurses := true, apart := false, narrowed := true }
def BeatDueUptoSaid : Prop := beatDueUptoRow.holds Try.pinned (OpenSpec.upto beatDueSpec)

/-- 'rivuletlaw15.BeatIds', WHERE WHAT IT READS IS OF BULK AT MOST 1048576: true; the input reads as it did. -/
def beatIdsUptoRow : OpenClaim := { program := "ytmnmikcpdhnbnaa", sum := "0a6d7a868b7aaa6f3f609bcfc9e6b6cc2e58721f89f63e2ad06ccda1be4432c1", func := "rivulet/rivuletlaw15.BeatIds", spec := "beatIds", unfollowed := true, recurses := true, apart := false, narrowed := true }
def BeatIdsUptoSaid : Prop := beatIdsUptoRow.holds Try.pinned (OpenSpec.upto beatIdsSpec)

/-- 'rivuletlaw15.BeatAlone', WHERE WHAT IT READS IS OF BULK AT MOST 1048576: true; the input reads as it did. -/
def beatAloneUptoRow : OpenClaim := { program := "ytmnmikcpdhnbnaa", sum := "0a6d7a868b7aaa6f3f609bcfc9e6b6cc2e58721f89f63e2ad06ccda1be4432c1", func := "rivulet/rivuletlaw15.BeatAlone", spec := "beatAlone", unfollowed := true, recurses := true, apart := false, narrowed := true }
def BeatAloneUptoSaid : Prop := beatAloneUptoRow.holds Try.pinned (OpenSpec.upto beatAloneSpec)

end Rows
end Go.Proofs.Ytmnmikcpdhnbnaa
