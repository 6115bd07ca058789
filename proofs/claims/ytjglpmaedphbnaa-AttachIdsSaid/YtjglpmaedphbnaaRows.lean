/-
  No cell of these rows narrows 'for every input' (looked for: loops, veiled, ifaces, maps, wideKeys, modest, calm, conditions, laid).
  DERIVED. THE GIVEN ROWS OF THIS SEAT. 5 by the template 'for every input the law returns true; each argument reads behind the call as it read before'; 0 by the template 'total and deterministic' (their statements: YtjglpmaedphbnaaTotals.lean).
  GIVEN WITH THE SEED: the statements are not yours to turn. If you find one false, say at which input.
  Laid BY PROGRAM, IN A SANDBOX (cutbox-rows.mjs): the forced cells as the released guide's own fill.sh prints them over the translation fb56341d9123b617… (all of the seat's roots in one cut). By AI agents, Wed Nov 11 2026. No macro, syntax, notation, axiom, sorry.
-/
import Derived.Test.YtjglpmaedphbnaaChecked
import GoSem.Claim
import GoSem.ClaimJoined
import GoSem.ClaimMapViews
import Derived.JoinedTies
import Derived.KernelRfl
namespace Go.Proofs.Ytjglpmaedphbnaa
/- THE CELL 'sum', in the pinned program and in every row, IS THE sha256 OF THE DUMP (.gsa) THAT YtjglpmaedphbnaaProg.lean LOADS. Nothing in Lean hashes anything: it is a label: what it is worth is what the hold of that sum in a sandbox is worth. -/
noncomputable def Try.pinned : Pinned := { name := "ytjglpmaedphbnaa", sum := "fb56341d9123b617874ae268e3a31302fceed939caf78978b1ea79f2c40138e5", checked := Try.checked }
namespace Rows
def none {H : Type} : Left H := { results := [], args := [] }

/-- 'rivuletlaw17.AttachDoes': WHATEVER THE INPUT: true; the input reads as it did. -/
def attachDoesSpec : ChangeSpec := { name := "attachDoes", fn := fun _ => fun
  | [d1, d2, d3] => { results := [.lit (.bool true)], args := [d1, d2, d3] }
  | _ => none }
def attachDoesRow : OpenClaim := { program := "ytjglpmaedphbnaa", sum := "fb56341d9123b617874ae268e3a31302fceed939caf78978b1ea79f2c40138e5", func := "rivulet/rivuletlaw17.AttachDoes", spec := "attachDoes", unfollowed := true, recurses := true, apart := false }
def AttachDoesSaid : Prop := attachDoesRow.holds Try.pinned (OpenSpec.ofChange attachDoesSpec)

/-- ITS FALSE NEIGHBOUR: 'it returns false'. Refute it at one input. -/
def attachDoesWrong : ChangeSpec := { name := "attachDoes", fn := fun _ => fun
  | [d1, d2, d3] => { results := [.lit (.bool false)], args := [d1, d2, d3] }
  | _ => none }
def AttachDoesWrongFalsely : Prop := attachDoesRow.holds Try.pinned (OpenSpec.ofChange attachDoesWrong)

/-- 'rivuletlaw17.AttachUp': WHATEVER THE INPUT: true; the input reads as it did. -/
def attachUpSpec : ChangeSpec := { name := "attachUp", fn := fun _ => fun
  | [d] => { results := [.lit (.bool true)], args := [d] }
  | _ => none }
def attachUpRow : OpenClaim := { program := "ytjglpmaedphbnaa", sum := "fb56341d9123b617874ae268e3a31302fceed939caf78978b1ea79f2c40138e5", func := "rivulet/rivuletlaw17.AttachUp", spec := "attachUp", unfollowed := true, recurses := true, apart := false }
def AttachUpSaid : Prop := attachUpRow.holds Try.pinned (OpenSpec.ofChange attachUpSpec)

/-- ITS FALSE NEIGHBOUR: 'it returns false'. Refute it at one input. -/
def attachUpWrong : ChangeSpec := { name := "attachUp", fn := fun _ => fun
  | [d] => { results := [.lit (.bool false)], args := [d] }
  | _ => none }
def AttachUpWrongFalsely : Prop := attachUpRow.holds Try.pinned (OpenSpec.ofChange attachUpWrong)

/-- 'rivuletlaw17.AttachHall': WHATEVER THE INPUT: true; the input reads as it did. -/
def attachHallSpec : ChangeSpec := { name := "attachHall", fn := fun _ => fun
  | [d] => { results := [.lit (.bool true)], args := [d] }
  | _ => none }
def attachHallRow : OpenClaim := { program := "ytjglpmaedphbnaa", sum := "fb56341d9123b617874ae268e3a31302fceed939caf78978b1ea79f2c40138e5", func := "rivulet/rivuletlaw17.AttachHall", spec := "attachHall", unfollowed := true, recurses := true, apart := false }
def AttachHallSaid : Prop := attachHallRow.holds Try.pinned (OpenSpec.ofChange attachHallSpec)

/-- ITS FALSE NEIGHBOUR: 'it returns false'. Refute it at one input. -/
def attachHallWrong : ChangeSpec := { name := "attachHall", fn := fun _ => fun
  | [d] => { results := [.lit (.bool false)], args := [d] }
  | _ => none }
def AttachHallWrongFalsely : Prop := attachHallRow.holds Try.pinned (OpenSpec.ofChange attachHallWrong)

/-- 'rivuletlaw17.AttachAgain': WHATEVER THE INPUT: true; the input reads as it did. -/
def attachAgainSpec : ChangeSpec := { name := "attachAgain", fn := fun _ => fun
  | [d1, d2] => { results := [.lit (.bool true)], args := [d1, d2] }
  | _ => none }
def attachAgainRow : OpenClaim := { program := "ytjglpmaedphbnaa", sum := "fb56341d9123b617874ae268e3a31302fceed939caf78978b1ea79f2c40138e5", func := "rivulet/rivuletlaw17.AttachAgain", spec := "attachAgain", unfollowed := true, recurses := true, apart := false }
def AttachAgainSaid : Prop := attachAgainRow.holds Try.pinned (OpenSpec.ofChange attachAgainSpec)

/-- ITS FALSE NEIGHBOUR: 'it returns false'. Refute it at one input. -/
def attachAgainWrong : ChangeSpec := { name := "attachAgain", fn := fun _ => fun
  | [d1, d2] => { results := [.lit (.bool false)], args := [d1, d2] }
  | _ => none }
def AttachAgainWrongFalsely : Prop := attachAgainRow.holds Try.pinned (OpenSpec.ofChange attachAgainWrong)

/-- 'rivuletlaw17.AttachIds': WHATEVER THE INPUT: true; the input reads as it did. -/
def attachIdsSpec : ChangeSpec := { name := "attachIds", fn := fun _ => fun
  | [d] => { results := [.lit (.bool true)], args := [d] }
  | _ => none }
def attachIdsRow : OpenClaim := { program := "ytjglpmaedphbnaa", sum := "fb56341d9123b617874ae268e3a31302fceed939caf78978b1ea79f2c40138e5", func := "rivulet/rivuletlaw17.AttachIds", spec := "attachIds", unfollowed := true, recurses := true, apart := false }
def AttachIdsSaid : Prop := attachIdsRow.holds Try.pinned (OpenSpec.ofChange attachIdsSpec)

/-- ITS FALSE NEIGHBOUR: 'it returns false'. Refute it at one input. -/
def attachIdsWrong : ChangeSpec := { name := "attachIds", fn := fun _ => fun
  | [d] => { results := [.lit (.bool false)], args := [d] }
  | _ => none }
def AttachIdsWrongFalsely : Prop := attachIdsRow.holds Try.pinned (OpenSpec.ofChange attachIdsWrong)

/- THE SECOND FORM. 'bulk': how many values and letters a reading holds, each counted each time it is reached (what is shared counts as often as it is met; a slice's spare places count too). A statement '..UptoSaid' is the law's where the arguments, and the package variables that the reading takes, are together of bulk at most 1048576: NARROWER than '..Said'. Prove '..Said' where nothing that the law and all that it calls make is longer than what came in: it says more and counts as full. Else prove '..UptoSaid'. A law counts once. -/
mutual
def uptoBulk {H : Type} : DataW H → Nat
  | .lit (.string bytes) => bytes.length + 1
  | .lit _ => 1
  | .nil => 1
  | .ptr d => uptoBulk d + 1
  | .slice elems spare => uptoBulkAll elems + uptoBulkAll spare + 1
  | .agg parts => uptoBulkAll parts + 1
  | .iface _ d => uptoBulk d + 1
  | .map entries => uptoBulkEntries entries + 1
  | .held _ => 1
def uptoBulkAll {H : Type} : List (DataW H) → Nat
  | [] => 0
  | d :: r => uptoBulk d + uptoBulkAll r
def uptoBulkEntries {H : Type} : List (Lit × DataW H) → Nat
  | [] => 0
  | x :: r => uptoBulkEntry x + uptoBulkEntries r
def uptoBulkEntry {H : Type} : Lit × DataW H → Nat
  | (.string bytes, d) => bytes.length + uptoBulk d + 1
  | (_, d) => uptoBulk d + 1
 end
def uptoSmall : (H : Type) → List (DataW H) → Bool := fun _ ds => decide (uptoBulkAll ds ≤ 1048576)
def OpenSpec.upto (s : _root_.Go.ChangeSpec) : _root_.Go.OpenSpec := { _root_.Go.OpenSpec.ofChange s with cond := some uptoSmall }

/-- 'rivuletlaw17.AttachDoes', WHERE WHAT IT READS IS OF BULK AT MOST 1048576: true; the input reads as it did. -/
def attachDoesUptoRow : OpenClaim := { program := "ytjglpmaedphbnaa", sum := "fb56341d9123b617874ae268e3a31302fceed939caf78978b1ea79f2c40138e5", func := "rivulet/rivuletlaw17.AttachDoes", spec := "attachDoes", unfollowed := true, recurses := true, apart := false, narrowed := true }
def AttachDoesUptoSaid : Prop := attachDoesUptoRow.holds Try.pinned (OpenSpec.upto attachDoesSpec)

/-- 'rivuletlaw17.AttachUp', WHERE WHAT IT READS IS OF BULK AT MOST 1048576: true; the input reads as it did. -/
def attachUpUptoRow : OpenClaim := { program := "ytjglpmaedphbnaa", sum := "fb56341d9123b617874ae268e3a31302fceed939caf78978b1ea79f2c40138e5", func := "rivulet/rivuletlaw17.AttachUp", spec := "attachUp", unfollowed := true, recurses := true, apart := false, narrowed := true }
def AttachUpUptoSaid : Prop := attachUpUptoRow.holds Try.pinned (OpenSpec.upto attachUpSpec)

/-- 'rivuletlaw17.AttachHall', WHERE WHAT IT READS IS OF BULK AT MOST 1048576: true; the input reads as it did. -/
def attachHallUptoRow : OpenClaim := { program := "ytjglpmaedphbnaa", sum := "fb56341d9123b617874ae268e3a31302fceed939caf78978b1ea79f2c40138e5", func := "rivulet/rivuletlaw17.AttachHall", spec := "attachHall", unfollowed := true, recurses := true, apart := false, narrowed := true }
def AttachHallUptoSaid : Prop := attachHallUptoRow.holds Try.pinned (OpenSpec.upto attachHallSpec)

/-- 'rivuletlaw17.AttachAgain', WHERE WHAT IT READS IS OF BULK AT MOST 1048576: true; the input reads as it did. -/
def attachAgainUptoRow : OpenClaim := { program := "ytjglpmaedphbnaa", sum := "fb56341d9123b617874ae268e3a31302fceed939caf78978b1ea79f2c40138e5", func := "rivulet/rivuletlaw17.AttachAgain", spec := "attachAgain", unfollowed := true, recurses := true, apart := false, narrowed := true }
def AttachAgainUptoSaid : Prop := attachAgainUptoRow.holds Try.pinned (OpenSpec.upto attachAgainSpec)

/-- 'rivuletlaw17.AttachIds', WHERE WHAT IT READS IS OF BULK AT MOST 1048576: true; the input reads as it did. -/
def attachIdsUptoRow : OpenClaim := { program := "ytjglpmaedphbnaa", sum := "fb56341d9123b617874ae268e3a31302fceed939caf78978b1ea79f2c40138e5", func := "rivulet/rivuletlaw17.AttachIds", spec := "attachIds", unfollowed := true, recurses := true, apart := false, narrowed := true }
def AttachIdsUptoSaid : Prop := attachIdsUptoRow.holds Try.pinned (OpenSpec.upto attachIdsSpec)

end Rows
end Go.Proofs.Ytjglpmaedphbnaa
