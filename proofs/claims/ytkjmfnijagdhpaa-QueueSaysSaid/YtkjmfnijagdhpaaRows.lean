/-
  No cell of these rows narrows 'for every input' (looked for: loops, veiled, ifaces, maps, wideKeys, modest, calm, conditions, laid).
  DERIVED. THE GIVEN ROWS OF THIS SEAT. 5 by the template 'for every input the law returns true; each argument reads behind the call as it read before'; 0 by the template 'total and deterministic' (their statements: YtkjmfnijagdhpaaTotals.lean).
  GIVEN WITH THE SEED: the statements are not yours to turn. If you find one false, say at which input.
  Laid BY PROGRAM, IN A SANDBOX (cutbox-rows.mjs): the forced cells as the released guide's own fill.sh prints them over the translation bfb8b11123e5b8e2… (all of the seat's roots in one cut). By AI agents, Wed Nov 11 2026. No macro, syntax, notation, axiom, sorry.
-/
import Derived.Test.YtkjmfnijagdhpaaChecked
import GoSem.Claim
import GoSem.ClaimJoined
import GoSem.ClaimMapViews
import Derived.JoinedTies
import Derived.KernelRfl
namespace Go.Proofs.Ytkjmfnijagdhpaa
/- THE CELL 'sum', in the pinned program and in every row, IS THE sha256 OF THE DUMP (.gsa) THAT YtkjmfnijagdhpaaProg.lean LOADS. Nothing in Lean hashes anything: it is a label: what it is worth is what the hold of that sum in a sandbox is worth. -/
noncomputable def Try.pinned : Pinned := { name := "ytkjmfnijagdhpaa", sum := "bfb8b11123e5b8e2b78165d0b956c2ead16aaf6d1cba04bbde71756660e39d5e", checked := Try.checked }
namespace Rows
def none {H : Type} : Left H := { results := [], args := [] }

/-- 'boarderlaw25.QueueSorts': WHATEVER THE INPUT: true; the input reads as it did. -/
def queueSortsSpec : ChangeSpec := { name := "queueSorts", fn := fun _ => fun
  | [d] => { results := [.lit (.bool true)], args := [d] }
  | _ => none }
def queueSortsRow : OpenClaim := { program := "ytkjmfnijagdhpaa", sum := "bfb8b11123e5b8e2b78165d0b956c2ead16aaf6d1cba04bbde71756660e39d5e", func := "boarder/boarderlaw25.QueueSorts", spec := "queueSorts", unfollowed := true, recurses := true, apart := false }
def QueueSortsSaid : Prop := queueSortsRow.holds Try.pinned (OpenSpec.ofChange queueSortsSpec)

/-- ITS FALSE NEIGHBOUR: 'it returns false'. Refute it at one input. -/
def queueSortsWrong : ChangeSpec := { name := "queueSorts", fn := fun _ => fun
  | [d] => { results := [.lit (.bool false)], args := [d] }
  | _ => none }
def QueueSortsWrongFalsely : Prop := queueSortsRow.holds Try.pinned (OpenSpec.ofChange queueSortsWrong)

/-- 'boarderlaw25.QueueSays': WHATEVER THE INPUT: true; the input reads as it did. -/
def queueSaysSpec : ChangeSpec := { name := "queueSays", fn := fun _ => fun
  | [d1, d2, d3, d4] => { results := [.lit (.bool true)], args := [d1, d2, d3, d4] }
  | _ => none }
def queueSaysRow : OpenClaim := { program := "ytkjmfnijagdhpaa", sum := "bfb8b11123e5b8e2b78165d0b956c2ead16aaf6d1cba04bbde71756660e39d5e", func := "boarder/boarderlaw25.QueueSays", spec := "queueSays", unfollowed := true, recurses := true, apart := false }
def QueueSaysSaid : Prop := queueSaysRow.holds Try.pinned (OpenSpec.ofChange queueSaysSpec)

/-- ITS FALSE NEIGHBOUR: 'it returns false'. Refute it at one input. -/
def queueSaysWrong : ChangeSpec := { name := "queueSays", fn := fun _ => fun
  | [d1, d2, d3, d4] => { results := [.lit (.bool false)], args := [d1, d2, d3, d4] }
  | _ => none }
def QueueSaysWrongFalsely : Prop := queueSaysRow.holds Try.pinned (OpenSpec.ofChange queueSaysWrong)

/-- 'boarderlaw25.QueueNext': WHATEVER THE INPUT: true; the input reads as it did. -/
def queueNextSpec : ChangeSpec := { name := "queueNext", fn := fun _ => fun
  | [d1, d2, d3] => { results := [.lit (.bool true)], args := [d1, d2, d3] }
  | _ => none }
def queueNextRow : OpenClaim := { program := "ytkjmfnijagdhpaa", sum := "bfb8b11123e5b8e2b78165d0b956c2ead16aaf6d1cba04bbde71756660e39d5e", func := "boarder/boarderlaw25.QueueNext", spec := "queueNext", unfollowed := true, recurses := true, apart := false }
def QueueNextSaid : Prop := queueNextRow.holds Try.pinned (OpenSpec.ofChange queueNextSpec)

/-- ITS FALSE NEIGHBOUR: 'it returns false'. Refute it at one input. -/
def queueNextWrong : ChangeSpec := { name := "queueNext", fn := fun _ => fun
  | [d1, d2, d3] => { results := [.lit (.bool false)], args := [d1, d2, d3] }
  | _ => none }
def QueueNextWrongFalsely : Prop := queueNextRow.holds Try.pinned (OpenSpec.ofChange queueNextWrong)

/-- 'boarderlaw25.QueueParts': WHATEVER THE INPUT: true; the input reads as it did. -/
def queuePartsSpec : ChangeSpec := { name := "queueParts", fn := fun _ => fun
  | [d1, d2, d3, d4] => { results := [.lit (.bool true)], args := [d1, d2, d3, d4] }
  | _ => none }
def queuePartsRow : OpenClaim := { program := "ytkjmfnijagdhpaa", sum := "bfb8b11123e5b8e2b78165d0b956c2ead16aaf6d1cba04bbde71756660e39d5e", func := "boarder/boarderlaw25.QueueParts", spec := "queueParts", unfollowed := true, recurses := true, apart := false }
def QueuePartsSaid : Prop := queuePartsRow.holds Try.pinned (OpenSpec.ofChange queuePartsSpec)

/-- ITS FALSE NEIGHBOUR: 'it returns false'. Refute it at one input. -/
def queuePartsWrong : ChangeSpec := { name := "queueParts", fn := fun _ => fun
  | [d1, d2, d3, d4] => { results := [.lit (.bool false)], args := [d1, d2, d3, d4] }
  | _ => none }
def QueuePartsWrongFalsely : Prop := queuePartsRow.holds Try.pinned (OpenSpec.ofChange queuePartsWrong)

/-- 'boarderlaw25.QueueFree': WHATEVER THE INPUT: true; the input reads as it did. -/
def queueFreeSpec : ChangeSpec := { name := "queueFree", fn := fun _ => fun
  | [d1, d2, d3, d4] => { results := [.lit (.bool true)], args := [d1, d2, d3, d4] }
  | _ => none }
def queueFreeRow : OpenClaim := { program := "ytkjmfnijagdhpaa", sum := "bfb8b11123e5b8e2b78165d0b956c2ead16aaf6d1cba04bbde71756660e39d5e", func := "boarder/boarderlaw25.QueueFree", spec := "queueFree", unfollowed := true, recurses := true, apart := false }
def QueueFreeSaid : Prop := queueFreeRow.holds Try.pinned (OpenSpec.ofChange queueFreeSpec)

/-- ITS FALSE NEIGHBOUR: 'it returns false'. Refute it at one input. -/
def queueFreeWrong : ChangeSpec := { name := "queueFree", fn := fun _ => fun
  | [d1, d2, d3, d4] => { results := [.lit (.bool false)], args := [d1, d2, d3, d4] }
  | _ => none }
def QueueFreeWrongFalsely : Prop := queueFreeRow.holds Try.pinned (OpenSpec.ofChange queueFreeWrong)

/- THE SECOND FORM. 'bulk': how many values and letters a reading holds, each counted each time it is reached (what is shared counts as often as it is met; a slice's spare places count too). A statement '..UptoSaid' is the law's where the arguments, and the package variables that the reading takes, are together of bulk at most 1048576: NARROWER than '..Said'. Prove '..Said' where nothing that the law and all that it calls make is longer than what came in: it says more and counts as full. Else prove '..UptoSaid'. A law counts once. -/
mutual
def uptoBulk {H : Type} : DataW H → Nat
  | .lit (.string bytes) => bytes.length + 1
  | .lit _ => 1
  | .nil => 1
  | .ptr d => uptoBulk d + 1
  | .slice elems spare => uptoBulkAll elems + uptoBulkAll spare + 1
  | .agg parts => uptoBulkAll parts + 1
  | .iface _ d => uptoBulk d + 1
  | .map entries => uptoBulkEntries entries + 1
  | .held _ => 1
def uptoBulkAll {H : Type} : List (DataW H) → Nat
  | [] => 0
  | d :: r => uptoBulk d + uptoBulkAll r
def uptoBulkEntries {H : Type} : List (Lit × DataW H) → Nat
  | [] => 0
  | x :: r => uptoBulkEntry x + uptoBulkEntries r
def uptoBulkEntry {H : Type} : Lit × DataW H → Nat
  | (.string bytes, d) => bytes.length + uptoBulk d + 1
  | (_, d) => uptoBulk d + 1
 end
def uptoSmall : (H : Type) → List (DataW H) → Bool := fun _ ds => decide (uptoBulkAll ds ≤ 1048576)
def OpenSpec.upto (s : _root_.Go.ChangeSpec) : _root_.Go.OpenSpec := { _root_.Go.OpenSpec.ofChange s with cond := some uptoSmall }

/-- 'boarderlaw25.QueueSorts', WHERE WHAT IT READS IS OF BULK AT MOST 1048576: true; the input reads as it did. -/
def queueSortsUptoRow : OpenClaim := { program := "ytkjmfnijagdhpaa", sum := "bfb8b11123e5b8e2b78165d0b956c2ead16aaf6d1cba04bbde71756660e39d5e", func := "boarder/boarderlaw25.QueueSorts", spec := "queueSorts", unfollowed := true, recurses := true, apart := false, narrowed := true }
def QueueSortsUptoSaid : Prop := queueSortsUptoRow.holds Try.pinned (OpenSpec.upto queueSortsSpec)

/-- 'boarderlaw25.QueueSays', WHERE WHAT IT READS IS OF BULK AT MOST 1048576: true; the input reads as it did. -/
def queueSaysUptoRow : OpenClaim := { program := "ytkjmfnijagdhpaa", sum := "bfb8b11123e5b8e2b78165d0b956c2ead16aaf6d1cba04bbde71756660e39d5e", func := "boarder/boarderlaw25.QueueSays", spec := "queueSays", unfollowed := true, recurses := true, apart := false, narrowed := true }
def QueueSaysUptoSaid : Prop := queueSaysUptoRow.holds Try.pinned (OpenSpec.upto queueSaysSpec)

/-- 'boarderlaw25.QueueNext', WHERE WHAT IT READS IS OF BULK AT MOST 1048576: true; the input reads as it did. -/
def queueNextUptoRow : OpenClaim := { program := "ytkjmfnijagdhpaa", sum := "bfb8b11123e5b8e2b78165d0b956c2ead16aaf6d1cba04bbde71756660e39d5e", func := "boarder/boarderlaw25.QueueNext", spec := "queueNext", unfollowed := true, recurses := true, apart := false, narrowed := true }
def QueueNextUptoSaid : Prop := queueNextUptoRow.holds Try.pinned (OpenSpec.upto queueNextSpec)

/-- 'boarderlaw25.QueueParts', WHERE WHAT IT READS IS OF BULK AT MOST 1048576: true; the input reads as it did. -/
def queuePartsUptoRow : OpenClaim := { program := "ytkjmfnijagdhpaa", sum := "bfb8b11123e5b8e2b78165d0b956c2ead16aaf6d1cba04bbde71756660e39d5e", func := "boarder/boarderlaw25.QueueParts", spec := "queueParts", unfollowed := true, recurses := true, apart := false, narrowed := true }
def QueuePartsUptoSaid : Prop := queuePartsUptoRow.holds Try.pinned (OpenSpec.upto queuePartsSpec)

/-- 'boarderlaw25.QueueFree', WHERE WHAT IT READS IS OF BULK AT MOST 1048576: true; the input reads as it did. -/
def queueFreeUptoRow : OpenClaim := { program := "ytkjmfnijagdhpaa", sum := "bfb8b11123e5b8e2b78165d0b956c2ead16aaf6d1cba04bbde71756660e39d5e", func := "boarder/boarderlaw25.QueueFree", spec := "queueFree", unfollowed := true, recurses := true, apart := false, narrowed := true }
def QueueFreeUptoSaid : Prop := queueFreeUptoRow.holds Try.pinned (OpenSpec.upto queueFreeSpec)

end Rows
end Go.Proofs.Ytkjmfnijagdhpaa
