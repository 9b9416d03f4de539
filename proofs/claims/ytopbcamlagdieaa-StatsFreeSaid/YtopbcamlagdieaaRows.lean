/-
  No cell of these rows narrows 'for every input' (looked for: loops, veiled, ifaces, maps, wideKeys, modest, calm, conditions, laid).
  DERIVED. THE GIVEN ROWS OF THIS SEAT. 3 by the template 'for every input the law returns true; each argument reads behind the call as it read before'; 0 by the template 'total and deterministic' (their statements: YtopbcamlagdieaaTotals.lean).
  GIVEN WITH THE SEED: the statements are not yours to turn. If you find one false, say at which input.
  Laid BY PROGRAM, IN A SANDBOX (cutbox-rows.mjs): the forced cells as the released guide's own fill.sh prints them over the translation 7489bf67cb4077c9… (all of the seat's roots in one cut). By AI agents, Wed Nov 11 2026. No macro, syntax, notation, axiom, sorry.
-/
import Derived.Test.YtopbcamlagdieaaChecked
import GoSem.Claim
import GoSem.ClaimJoined
import GoSem.ClaimMapViews
import Derived.JoinedTies
import Derived.KernelRfl
namespace Go.Proofs.Ytopbcamlagdieaa
/- THE CELL 'sum', in the pinned program and in every row, IS THE sha256 OF THE DUMP (.gsa) THAT YtopbcamlagdieaaProg.lean LOADS. Nothing in Lean hashes anything: it is a label: what it is worth is what the hold of that sum in a sandbox is worth. -/
noncomputable def Try.pinned : Pinned := { name := "ytopbcamlagdieaa", sum := "7489bf67cb4077c92291c52a6071dc027d080a33bcf0d1d10ae330442be66bbf", checked := Try.checked }
namespace Rows
def none {H : Type} : Left H := { results := [], args := [] }

/-- 'boarderlaw26.StatsSums': WHATEVER THE INPUT: true; the input reads as it did. -/
def statsSumsSpec : ChangeSpec := { name := "statsSums", fn := fun _ => fun
  | [d1, d2] => { results := [.lit (.bool true)], args := [d1, d2] }
  | _ => none }
def statsSumsRow : OpenClaim := { program := "ytopbcamlagdieaa", sum := "7489bf67cb4077c92291c52a6071dc027d080a33bcf0d1d10ae330442be66bbf", func := "boarder/boarderlaw26.StatsSums", spec := "statsSums", apart := false }
def StatsSumsSaid : Prop := statsSumsRow.holds Try.pinned (OpenSpec.ofChange statsSumsSpec)

/-- ITS FALSE NEIGHBOUR: 'it returns false'. Refute it at one input. -/
def statsSumsWrong : ChangeSpec := { name := "statsSums", fn := fun _ => fun
  | [d1, d2] => { results := [.lit (.bool false)], args := [d1, d2] }
  | _ => none }
def StatsSumsWrongFalsely : Prop := statsSumsRow.holds Try.pinned (OpenSpec.ofChange statsSumsWrong)

/-- 'boarderlaw26.StatsBounds': WHATEVER THE INPUT: true; the input reads as it did. -/
def statsBoundsSpec : ChangeSpec := { name := "statsBounds", fn := fun _ => fun
  | [d1, d2, d3] => { results := [.lit (.bool true)], args := [d1, d2, d3] }
  | _ => none }
def statsBoundsRow : OpenClaim := { program := "ytopbcamlagdieaa", sum := "7489bf67cb4077c92291c52a6071dc027d080a33bcf0d1d10ae330442be66bbf", func := "boarder/boarderlaw26.StatsBounds", spec := "statsBounds", apart := false }
def StatsBoundsSaid : Prop := statsBoundsRow.holds Try.pinned (OpenSpec.ofChange statsBoundsSpec)

/-- ITS FALSE NEIGHBOUR: 'it returns false'. Refute it at one input. -/
def statsBoundsWrong : ChangeSpec := { name := "statsBounds", fn := fun _ => fun
  | [d1, d2, d3] => { results := [.lit (.bool false)], args := [d1, d2, d3] }
  | _ => none }
def StatsBoundsWrongFalsely : Prop := statsBoundsRow.holds Try.pinned (OpenSpec.ofChange statsBoundsWrong)

/-- 'boarderlaw26.StatsFree': WHATEVER THE INPUT: true; the input reads as it did. -/
def statsFreeSpec : ChangeSpec := { name := "statsFree", fn := fun _ => fun
  | [d1, d2, d3, d4, d5] => { results := [.lit (.bool true)], args := [d1, d2, d3, d4, d5] }
  | _ => none }
def statsFreeRow : OpenClaim := { program := "ytopbcamlagdieaa", sum := "7489bf67cb4077c92291c52a6071dc027d080a33bcf0d1d10ae330442be66bbf", func := "boarder/boarderlaw26.StatsFree", spec := "statsFree", apart := false }
def StatsFreeSaid : Prop := statsFreeRow.holds Try.pinned (OpenSpec.ofChange statsFreeSpec)

/-- ITS FALSE NEIGHBOUR: 'it returns false'. Refute it at one input. -/
def statsFreeWrong : ChangeSpec := { name := "statsFree", fn := fun _ => fun
  | [d1, d2, d3, d4, d5] => { results := [.lit (.bool false)], args := [d1, d2, d3, d4, d5] }
  | _ => none }
def StatsFreeWrongFalsely : Prop := statsFreeRow.holds Try.pinned (OpenSpec.ofChange statsFreeWrong)

/- THE SECOND FORM. 'bulk': how many values and letters a reading holds, each counted each time it is reached (what is shared counts as often as it is met; a slice's spare places count too). A statement '..UptoSaid' is the law's where the arguments, and the package variables that the reading takes, are together of bulk at most 1048576: NARROWER than '..Said'. Prove '..Said' where nothing that the law and all that it calls make is longer than what came in: it says more and counts as full. Else prove '..UptoSaid'. A law counts once. -/
mutual
def uptoBulk {H : Type} : DataW H → Nat
  | .lit (.string bytes) => bytes.length + 1
  | .lit _ => 1
  | .nil => 1
  | .ptr d => uptoBulk d + 1
  | .slice elems spare => uptoBulkAll elems + uptoBulkAll spare + 1
  | .agg parts => uptoBulkAll parts + 1
  | .iface _ d => uptoBulk d + 1
  | .map entries => uptoBulkEntries entries + 1
  | .held _ => 1
def uptoBulkAll {H : Type} : List (DataW H) → Nat
  | [] => 0
  | d :: r => uptoBulk d + uptoBulkAll r
def uptoBulkEntries {H : Type} : List (Lit × DataW H) → Nat
  | [] => 0
  | x :: r => uptoBulkEntry x + uptoBulkEntries r
def uptoBulkEntry {H : Type} : Lit × DataW H → Nat
  | (.string bytes, d) => bytes.length + uptoBulk d + 1
  | (_, d) => uptoBulk d + 1
 end
def uptoSmall : (H : Type) → List (DataW H) → Bool := fun _ ds => decide (uptoBulkAll ds ≤ 1048576)
def OpenSpec.upto (s : _root_.Go.ChangeSpec) : _root_.Go.OpenSpec := { _root_.Go.OpenSpec.ofChange s with cond := some uptoSmall }

/-- 'boarderlaw26.StatsSums', WHERE WHAT IT READS IS OF BULK AT MOST 1048576: true; the input reads as it did. -/
def statsSumsUptoRow : OpenClaim := { program := "ytopbcamlagdieaa", sum := "7489bf67cb4077c92291c52a6071dc027d080a33bcf0d1d10ae330442be66bbf", func := "boarder/boarderlaw26.StatsSums", spec := "statsSums", apart := false, narrowed := true }
def StatsSumsUptoSaid : Prop := statsSumsUptoRow.holds Try.pinned (OpenSpec.upto statsSumsSpec)

/-- 'boarderlaw26.StatsBounds', WHERE WHAT IT READS IS OF BULK AT MOST 1048576: true; the input reads as it did. -/
def statsBoundsUptoRow : OpenClaim := { program := "ytopbcamlagdieaa", sum := "7489bf67cb4077c92291c52a6071dc027d080a33bcf0d1d10ae330442be66bbf", func := "boarder/boarderlaw26.StatsBounds", spec := "statsBounds", apart := false, narrowed := true }
def StatsBoundsUptoSaid : Prop := statsBoundsUptoRow.holds Try.pinned (OpenSpec.upto statsBoundsSpec)

/-- 'boarderlaw26.StatsFree', WHERE WHAT IT READS IS OF BULK AT MOST 1048576: true; the input reads as it did. -/
def statsFreeUptoRow : OpenClaim := { program := "ytopbcamlagdieaa", sum := "7489bf67cb4077c92291c52a6071dc027d080a33bcf0d1d10ae330442be66bbf", func := "boarder/boarderlaw26.StatsFree", spec := "statsFree", apart := false, narrowed := true }
def StatsFreeUptoSaid : Prop := statsFreeUptoRow.holds Try.pinned (OpenSpec.upto statsFreeSpec)

end Rows
end Go.Proofs.Ytopbcamlagdieaa
