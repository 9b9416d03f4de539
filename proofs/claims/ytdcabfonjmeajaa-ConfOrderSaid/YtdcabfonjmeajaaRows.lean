/-
  No cell of these rows narrows 'for every input' (looked for: loops, veiled, ifaces, maps, wideKeys, modest, calm, conditions, laid).
  DERIVED. THE GIVEN ROWS OF THIS SEAT. 11 by the template 'for every input the law returns true; each argument reads behind the call as it read before'; 0 by the template 'total and deterministic' (their statements: YtdcabfonjmeajaaTotals.lean).
  GIVEN WITH THE SEED: the statements are not yours to turn. If you find one false, say at which input.
  Laid BY PROGRAM, IN A SANDBOX (cutbox-rows.mjs): the forced cells as the released guide's own fill.sh prints them over the translation 92ef4bbee414ba7d… (all of the seat's roots in one cut). By AI agents, Wed Nov 11 2026. No macro, syntax, notation, axiom, sorry.
-/
import Derived.Test.YtdcabfonjmeajaaChecked
import GoSem.Claim
import GoSem.ClaimJoined
import GoSem.ClaimMapViews
import Derived.JoinedTies
import Derived.KernelRfl
namespace Go.Proofs.Ytdcabfonjmeajaa
/- THE CELL 'sum', in the pinned program and in every row, IS THE sha256 OF THE DUMP (.gsa) THAT YtdcabfonjmeajaaProg.lean LOADS. Nothing in Lean hashes anything: it is a label: what it is worth is what the hold of that sum in a sandbox is worth. -/
noncomputable def Try.pinned : Pinned := { name := "ytdcabfonjmeajaa", sum := "92ef4bbee414ba7dc240f843365febbe3b7be93de8f7972dabca67e18e67942a", checked := Try.checked }
namespace Rows
def none {H : Type} : Left H := { results := [], args := [] }

/-- 'boarderlaw13.ConfChecks': WHATEVER THE INPUT: true; the input reads as it did. -/
def confChecksSpec : ChangeSpec := { name := "confChecks", fn := fun _ => fun
  | [d] => { results := [.lit (.bool true)], args := [d] }
  | _ => none }
def confChecksRow : OpenClaim := { program := "ytdcabfonjmeajaa", sum := "92ef4bbee414ba7dc240f843365febbe3b7be93de8f7972dabca67e18e67942a", func := "boarder/boarderlaw13.ConfChecks", spec := "confChecks", apart := false }
def ConfChecksSaid : Prop := confChecksRow.holds Try.pinned (OpenSpec.ofChange confChecksSpec)

/-- ITS FALSE NEIGHBOUR: 'it returns false'. Refute it at one input. -/
def confChecksWrong : ChangeSpec := { name := "confChecks", fn := fun _ => fun
  | [d] => { results := [.lit (.bool false)], args := [d] }
  | _ => none }
def ConfChecksWrongFalsely : Prop := confChecksRow.holds Try.pinned (OpenSpec.ofChange confChecksWrong)

/-- 'boarderlaw13.ConfKeeps': WHATEVER THE INPUT: true; the input reads as it did. -/
def confKeepsSpec : ChangeSpec := { name := "confKeeps", fn := fun _ => fun
  | [d1, d2, d3, d4] => { results := [.lit (.bool true)], args := [d1, d2, d3, d4] }
  | _ => none }
def confKeepsRow : OpenClaim := { program := "ytdcabfonjmeajaa", sum := "92ef4bbee414ba7dc240f843365febbe3b7be93de8f7972dabca67e18e67942a", func := "boarder/boarderlaw13.ConfKeeps", spec := "confKeeps", apart := false }
def ConfKeepsSaid : Prop := confKeepsRow.holds Try.pinned (OpenSpec.ofChange confKeepsSpec)

/-- ITS FALSE NEIGHBOUR: 'it returns false'. Refute it at one input. -/
def confKeepsWrong : ChangeSpec := { name := "confKeeps", fn := fun _ => fun
  | [d1, d2, d3, d4] => { results := [.lit (.bool false)], args := [d1, d2, d3, d4] }
  | _ => none }
def ConfKeepsWrongFalsely : Prop := confKeepsRow.holds Try.pinned (OpenSpec.ofChange confKeepsWrong)

/-- 'boarderlaw13.ConfOne': WHATEVER THE INPUT: true; the input reads as it did. -/
def confOneSpec : ChangeSpec := { name := "confOne", fn := fun _ => fun
  | [d1, d2, d3, d4, d5] => { results := [.lit (.bool true)], args := [d1, d2, d3, d4, d5] }
  | _ => none }
def confOneRow : OpenClaim := { program := "ytdcabfonjmeajaa", sum := "92ef4bbee414ba7dc240f843365febbe3b7be93de8f7972dabca67e18e67942a", func := "boarder/boarderlaw13.ConfOne", spec := "confOne", apart := false }
def ConfOneSaid : Prop := confOneRow.holds Try.pinned (OpenSpec.ofChange confOneSpec)

/-- ITS FALSE NEIGHBOUR: 'it returns false'. Refute it at one input. -/
def confOneWrong : ChangeSpec := { name := "confOne", fn := fun _ => fun
  | [d1, d2, d3, d4, d5] => { results := [.lit (.bool false)], args := [d1, d2, d3, d4, d5] }
  | _ => none }
def ConfOneWrongFalsely : Prop := confOneRow.holds Try.pinned (OpenSpec.ofChange confOneWrong)

/-- 'boarderlaw13.ConfOrder': WHATEVER THE INPUT: true; the input reads as it did. -/
def confOrderSpec : ChangeSpec := { name := "confOrder", fn := fun _ => fun
  | [d1, d2, d3] => { results := [.lit (.bool true)], args := [d1, d2, d3] }
  | _ => none }
def confOrderRow : OpenClaim := { program := "ytdcabfonjmeajaa", sum := "92ef4bbee414ba7dc240f843365febbe3b7be93de8f7972dabca67e18e67942a", func := "boarder/boarderlaw13.ConfOrder", spec := "confOrder", apart := false }
def ConfOrderSaid : Prop := confOrderRow.holds Try.pinned (OpenSpec.ofChange confOrderSpec)

/-- ITS FALSE NEIGHBOUR: 'it returns false'. Refute it at one input. -/
def confOrderWrong : ChangeSpec := { name := "confOrder", fn := fun _ => fun
  | [d1, d2, d3] => { results := [.lit (.bool false)], args := [d1, d2, d3] }
  | _ => none }
def ConfOrderWrongFalsely : Prop := confOrderRow.holds Try.pinned (OpenSpec.ofChange confOrderWrong)

/-- 'boarderlaw13.ConfFinds': WHATEVER THE INPUT: true; the input reads as it did. -/
def confFindsSpec : ChangeSpec := { name := "confFinds", fn := fun _ => fun
  | [d1, d2, d3] => { results := [.lit (.bool true)], args := [d1, d2, d3] }
  | _ => none }
def confFindsRow : OpenClaim := { program := "ytdcabfonjmeajaa", sum := "92ef4bbee414ba7dc240f843365febbe3b7be93de8f7972dabca67e18e67942a", func := "boarder/boarderlaw13.ConfFinds", spec := "confFinds", apart := false }
def ConfFindsSaid : Prop := confFindsRow.holds Try.pinned (OpenSpec.ofChange confFindsSpec)

/-- ITS FALSE NEIGHBOUR: 'it returns false'. Refute it at one input. -/
def confFindsWrong : ChangeSpec := { name := "confFinds", fn := fun _ => fun
  | [d1, d2, d3] => { results := [.lit (.bool false)], args := [d1, d2, d3] }
  | _ => none }
def ConfFindsWrongFalsely : Prop := confFindsRow.holds Try.pinned (OpenSpec.ofChange confFindsWrong)

/-- 'boarderlaw15.AllocMay': WHATEVER THE INPUT: true; the input reads as it did. -/
def allocMaySpec : ChangeSpec := { name := "allocMay", fn := fun _ => fun
  | [d1, d2, d3, d4, d5, d6] => { results := [.lit (.bool true)], args := [d1, d2, d3, d4, d5, d6] }
  | _ => none }
def allocMayRow : OpenClaim := { program := "ytdcabfonjmeajaa", sum := "92ef4bbee414ba7dc240f843365febbe3b7be93de8f7972dabca67e18e67942a", func := "boarder/boarderlaw15.AllocMay", spec := "allocMay", unfollowed := true, recurses := true, apart := false }
def AllocMaySaid : Prop := allocMayRow.holds Try.pinned (OpenSpec.ofChange allocMaySpec)

/-- ITS FALSE NEIGHBOUR: 'it returns false'. Refute it at one input. -/
def allocMayWrong : ChangeSpec := { name := "allocMay", fn := fun _ => fun
  | [d1, d2, d3, d4, d5, d6] => { results := [.lit (.bool false)], args := [d1, d2, d3, d4, d5, d6] }
  | _ => none }
def AllocMayWrongFalsely : Prop := allocMayRow.holds Try.pinned (OpenSpec.ofChange allocMayWrong)

/-- 'boarderlaw15.AllocChooses': WHATEVER THE INPUT: true; the input reads as it did. -/
def allocChoosesSpec : ChangeSpec := { name := "allocChooses", fn := fun _ => fun
  | [d1, d2, d3, d4, d5, d6] => { results := [.lit (.bool true)], args := [d1, d2, d3, d4, d5, d6] }
  | _ => none }
def allocChoosesRow : OpenClaim := { program := "ytdcabfonjmeajaa", sum := "92ef4bbee414ba7dc240f843365febbe3b7be93de8f7972dabca67e18e67942a", func := "boarder/boarderlaw15.AllocChooses", spec := "allocChooses", unfollowed := true, recurses := true, apart := false }
def AllocChoosesSaid : Prop := allocChoosesRow.holds Try.pinned (OpenSpec.ofChange allocChoosesSpec)

/-- ITS FALSE NEIGHBOUR: 'it returns false'. Refute it at one input. -/
def allocChoosesWrong : ChangeSpec := { name := "allocChooses", fn := fun _ => fun
  | [d1, d2, d3, d4, d5, d6] => { results := [.lit (.bool false)], args := [d1, d2, d3, d4, d5, d6] }
  | _ => none }
def AllocChoosesWrongFalsely : Prop := allocChoosesRow.holds Try.pinned (OpenSpec.ofChange allocChoosesWrong)

/-- 'boarderlaw15.AllocGood': WHATEVER THE INPUT: true; the input reads as it did. -/
def allocGoodSpec : ChangeSpec := { name := "allocGood", fn := fun _ => fun
  | [d1, d2, d3, d4, d5, d6] => { results := [.lit (.bool true)], args := [d1, d2, d3, d4, d5, d6] }
  | _ => none }
def allocGoodRow : OpenClaim := { program := "ytdcabfonjmeajaa", sum := "92ef4bbee414ba7dc240f843365febbe3b7be93de8f7972dabca67e18e67942a", func := "boarder/boarderlaw15.AllocGood", spec := "allocGood", unfollowed := true, recurses := true, apart := false }
def AllocGoodSaid : Prop := allocGoodRow.holds Try.pinned (OpenSpec.ofChange allocGoodSpec)

/-- ITS FALSE NEIGHBOUR: 'it returns false'. Refute it at one input. -/
def allocGoodWrong : ChangeSpec := { name := "allocGood", fn := fun _ => fun
  | [d1, d2, d3, d4, d5, d6] => { results := [.lit (.bool false)], args := [d1, d2, d3, d4, d5, d6] }
  | _ => none }
def AllocGoodWrongFalsely : Prop := allocGoodRow.holds Try.pinned (OpenSpec.ofChange allocGoodWrong)

/-- 'boarderlaw15.AllocSome': WHATEVER THE INPUT: true; the input reads as it did. -/
def allocSomeSpec : ChangeSpec := { name := "allocSome", fn := fun _ => fun
  | [d1, d2, d3, d4, d5, d6, d7] => { results := [.lit (.bool true)], args := [d1, d2, d3, d4, d5, d6, d7] }
  | _ => none }
def allocSomeRow : OpenClaim := { program := "ytdcabfonjmeajaa", sum := "92ef4bbee414ba7dc240f843365febbe3b7be93de8f7972dabca67e18e67942a", func := "boarder/boarderlaw15.AllocSome", spec := "allocSome", unfollowed := true, recurses := true, apart := false }
def AllocSomeSaid : Prop := allocSomeRow.holds Try.pinned (OpenSpec.ofChange allocSomeSpec)

/-- ITS FALSE NEIGHBOUR: 'it returns false'. Refute it at one input. -/
def allocSomeWrong : ChangeSpec := { name := "allocSome", fn := fun _ => fun
  | [d1, d2, d3, d4, d5, d6, d7] => { results := [.lit (.bool false)], args := [d1, d2, d3, d4, d5, d6, d7] }
  | _ => none }
def AllocSomeWrongFalsely : Prop := allocSomeRow.holds Try.pinned (OpenSpec.ofChange allocSomeWrong)

/-- 'boarderlaw15.AllocKeeps': WHATEVER THE INPUT: true; the input reads as it did. -/
def allocKeepsSpec : ChangeSpec := { name := "allocKeeps", fn := fun _ => fun
  | [d1, d2, d3, d4, d5, d6] => { results := [.lit (.bool true)], args := [d1, d2, d3, d4, d5, d6] }
  | _ => none }
def allocKeepsRow : OpenClaim := { program := "ytdcabfonjmeajaa", sum := "92ef4bbee414ba7dc240f843365febbe3b7be93de8f7972dabca67e18e67942a", func := "boarder/boarderlaw15.AllocKeeps", spec := "allocKeeps", unfollowed := true, recurses := true, apart := false }
def AllocKeepsSaid : Prop := allocKeepsRow.holds Try.pinned (OpenSpec.ofChange allocKeepsSpec)

/-- ITS FALSE NEIGHBOUR: 'it returns false'. Refute it at one input. -/
def allocKeepsWrong : ChangeSpec := { name := "allocKeeps", fn := fun _ => fun
  | [d1, d2, d3, d4, d5, d6] => { results := [.lit (.bool false)], args := [d1, d2, d3, d4, d5, d6] }
  | _ => none }
def AllocKeepsWrongFalsely : Prop := allocKeepsRow.holds Try.pinned (OpenSpec.ofChange allocKeepsWrong)

/-- 'boarderlaw15.AllocOne': WHATEVER THE INPUT: true; the input reads as it did. -/
def allocOneSpec : ChangeSpec := { name := "allocOne", fn := fun _ => fun
  | [d1, d2, d3, d4, d5, d6, d7] => { results := [.lit (.bool true)], args := [d1, d2, d3, d4, d5, d6, d7] }
  | _ => none }
def allocOneRow : OpenClaim := { program := "ytdcabfonjmeajaa", sum := "92ef4bbee414ba7dc240f843365febbe3b7be93de8f7972dabca67e18e67942a", func := "boarder/boarderlaw15.AllocOne", spec := "allocOne", unfollowed := true, recurses := true, apart := false }
def AllocOneSaid : Prop := allocOneRow.holds Try.pinned (OpenSpec.ofChange allocOneSpec)

/-- ITS FALSE NEIGHBOUR: 'it returns false'. Refute it at one input. -/
def allocOneWrong : ChangeSpec := { name := "allocOne", fn := fun _ => fun
  | [d1, d2, d3, d4, d5, d6, d7] => { results := [.lit (.bool false)], args := [d1, d2, d3, d4, d5, d6, d7] }
  | _ => none }
def AllocOneWrongFalsely : Prop := allocOneRow.holds Try.pinned (OpenSpec.ofChange allocOneWrong)

/- THE SECOND FORM. 'bulk': how many values and letters a reading holds, each counted each time it is reached (what is shared counts as often as it is met; a slice's spare places count too). A statement '..UptoSaid' is the law's where the arguments, and the package variables that the reading takes, are together of bulk at most 1048576: NARROWER than '..Said'. Prove '..Said' where nothing that the law and all that it calls make is longer than what came in: it says more and counts as full. Else prove '..UptoSaid'. A law counts once. -/
mutual
def uptoBulk {H : Type} : DataW H → Nat
  | .lit (.string bytes) => bytes.length + 1
  | .lit _ => 1
  | .nil => 1
  | .ptr d => uptoBulk d + 1
  | .slice elems spare => uptoBulkAll elems + uptoBulkAll spare + 1
  | .agg parts => uptoBulkAll parts + 1
  | .iface _ d => uptoBulk d + 1
  | .map entries => uptoBulkEntries entries + 1
  | .held _ => 1
def uptoBulkAll {H : Type} : List (DataW H) → Nat
  | [] => 0
  | d :: r => uptoBulk d + uptoBulkAll r
def uptoBulkEntries {H : Type} : List (Lit × DataW H) → Nat
  | [] => 0
  | x :: r => uptoBulkEntry x + uptoBulkEntries r
def uptoBulkEntry {H : Type} : Lit × DataW H → Nat
  | (.string bytes, d) => bytes.length + uptoBulk d + 1
  | (_, d) => uptoBulk d + 1
 end
def uptoSmall : (H : Type) → List (DataW H) → Bool := fun _ ds => decide (uptoBulkAll ds ≤ 1048576)
def OpenSpec.upto (s : _root_.Go.ChangeSpec) : _root_.Go.OpenSpec := { _root_.Go.OpenSpec.ofChange s with cond := some uptoSmall }

/-- 'boarderlaw13.ConfChecks', WHERE WHAT IT READS IS OF BULK AT MOST 1048576: true; the input reads as it did. -/
def confChecksUptoRow : OpenClaim := { program := "ytdcabfonjmeajaa", sum := "92ef4bbee414ba7dc240f843365febbe3b7be93de8f7972dabca67e18e67942a", func := "boarder/boarderlaw13.ConfChecks", spec := "confChecks", apart := false, narrowed := true }
def ConfChecksUptoSaid : Prop := confChecksUptoRow.holds Try.pinned (OpenSpec.upto confChecksSpec)

/-- 'boarderlaw13.ConfKeeps', WHERE WHAT IT READS IS OF BULK AT MOST 1048576: true; the input reads as it did. -/
def confKeepsUptoRow : OpenClaim := { program := "ytdcabfonjmeajaa", sum := "92ef4bbee414ba7dc240f843365febbe3b7be93de8f7972dabca67e18e67942a", func := "boarder/boarderlaw13.ConfKeeps", spec := "confKeeps", apart := false, narrowed := true }
def ConfKeepsUptoSaid : Prop := confKeepsUptoRow.holds Try.pinned (OpenSpec.upto confKeepsSpec)

/-- 'boarderlaw13.ConfOne', WHERE WHAT IT READS IS OF BULK AT MOST 1048576: true; the input reads as it did. -/
def confOneUptoRow : OpenClaim := { program := "ytdcabfonjmeajaa", sum := "92ef4bbee414ba7dc240f843365febbe3b7be93de8f7972dabca67e18e67942a", func := "boarder/boarderlaw13.ConfOne", spec := "confOne", apart := false, narrowed := true }
def ConfOneUptoSaid : Prop := confOneUptoRow.holds Try.pinned (OpenSpec.upto confOneSpec)

/-- 'boarderlaw13.ConfOrder', WHERE WHAT IT READS IS OF BULK AT MOST 1048576: true; the input reads as it did. -/
def confOrderUptoRow : OpenClaim := { program := "ytdcabfonjmeajaa", sum := "92ef4bbee414ba7dc240f843365febbe3b7be93de8f7972dabca67e18e67942a", func := "boarder/boarderlaw13.ConfOrder", spec := "confOrder", apart := false, narrowed := true }
def ConfOrderUptoSaid : Prop := confOrderUptoRow.holds Try.pinned (OpenSpec.upto confOrderSpec)

/-- 'boarderlaw13.ConfFinds', WHERE WHAT IT READS IS OF BULK AT MOST 1048576: true; the input reads as it did. -/
def confFindsUptoRow : OpenClaim := { program := "ytdcabfonjmeajaa", sum := "92ef4bbee414ba7dc240f843365febbe3b7be93de8f7972dabca67e18e67942a", func := "boarder/boarderlaw13.ConfFinds", spec := "confFinds", apart := false, narrowed := true }
def ConfFindsUptoSaid : Prop := confFindsUptoRow.holds Try.pinned (OpenSpec.upto confFindsSpec)

/-- 'boarderlaw15.AllocMay', WHERE WHAT IT READS IS OF BULK AT MOST 1048576: true; the input reads as it did. -/
def allocMayUptoRow : OpenClaim := { program := "ytdcabfonjmeajaa", sum := "92ef4bbee414ba7dc240f843365febbe3b7be93de8f7972dabca67e18e67942a", func := "boarder/boarderlaw15.AllocMay", spec := "allocMay", unfollowed := true, recurses := true, apart := false, narrowed := true }
def AllocMayUptoSaid : Prop := allocMayUptoRow.holds Try.pinned (OpenSpec.upto allocMaySpec)

/-- 'boarderlaw15.AllocChooses', WHERE WHAT IT READS IS OF BULK AT MOST 1048576: true; the input reads as it did. -/
def allocChoosesUptoRow : OpenClaim := { program := "ytdcabfonjmeajaa", sum := "92ef4bbee414ba7dc240f843365febbe3b7be93de8f7972dabca67e18e67942a", func := "boarder/boarderlaw15.AllocChooses", spec := "allocChooses", unfollowed := true, recurses := true, apart := false, narrowed := true }
def AllocChoosesUptoSaid : Prop := allocChoosesUptoRow.holds Try.pinned (OpenSpec.upto allocChoosesSpec)

/-- 'boarderlaw15.AllocGood', WHERE WHAT IT READS IS OF BULK AT MOST 1048576: true; the input reads as it did. -/
def allocGoodUptoRow : OpenClaim := { program := "ytdcabfonjmeajaa", sum := "92ef4bbee414ba7dc240f843365febbe3b7be93de8f7972dabca67e18e67942a", func := "boarder/boarderlaw15.AllocGood", spec := "allocGood", unfollowed := true, recurses := true, apart := false, narrowed := true }
def AllocGoodUptoSaid : Prop := allocGoodUptoRow.holds Try.pinned (OpenSpec.upto allocGoodSpec)

/-- 'boarderlaw15.AllocSome', WHERE WHAT IT READS IS OF BULK AT MOST 1048576: true; the input reads as it did. -/
def allocSomeUptoRow : OpenClaim := { program := "ytdcabfonjmeajaa", sum := "92ef4bbee414ba7dc240f843365febbe3b7be93de8f7972dabca67e18e67942a", func := "boarder/boarderlaw15.AllocSome", spec := "allocSome", unfollowed := true, recurses := true, apart := false, narrowed := true }
def AllocSomeUptoSaid : Prop := allocSomeUptoRow.holds Try.pinned (OpenSpec.upto allocSomeSpec)

/-- 'boarderlaw15.AllocKeeps', WHERE WHAT IT READS IS OF BULK AT MOST 1048576: true; the input reads as it did. -/
def allocKeepsUptoRow : OpenClaim := { program := "ytdcabfonjmeajaa", sum := "92ef4bbee414ba7dc240f843365febbe3b7be93de8f7972dabca67e18e67942a", func := "boarder/boarderlaw15.AllocKeeps", spec := "allocKeeps", unfollowed := true, recurses := true, apart := false, narrowed := true }
def AllocKeepsUptoSaid : Prop := allocKeepsUptoRow.holds Try.pinned (OpenSpec.upto allocKeepsSpec)

/-- 'boarderlaw15.AllocOne', WHERE WHAT IT READS IS OF BULK AT MOST 1048576: true; the input reads as it did. -/
def allocOneUptoRow : OpenClaim := { program := "ytdcabfonjmeajaa", sum := "92ef4bbee414ba7dc240f843365febbe3b7be93de8f7972dabca67e18e67942a", func := "boarder/boarderlaw15.AllocOne", spec := "allocOne", unfollowed := true, recurses := true, apart := false, narrowed := true }
def AllocOneUptoSaid : Prop := allocOneUptoRow.holds Try.pinned (OpenSpec.upto allocOneSpec)

end Rows
end Go.Proofs.Ytdcabfonjmeajaa
