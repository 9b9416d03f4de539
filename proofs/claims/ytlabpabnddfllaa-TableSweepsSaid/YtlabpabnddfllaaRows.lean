/-
  No cell of these rows narrows 'for every input' (looked for: loops, veiled, ifaces, maps, wideKeys, modest, calm, conditions, laid).
  DERIVED. THE GIVEN ROWS OF THIS SEAT. 12 by the template 'for every input the law returns true; each argument reads behind the call as it read before'; 0 by the template 'total and deterministic' (their statements: YtlabpabnddfllaaTotals.lean).
  GIVEN WITH THE SEED: the statements are not yours to turn. If you find one false, say at which input.
  Laid BY PROGRAM, IN A SANDBOX (cutbox-rows.mjs): the forced cells as the released guide's own fill.sh prints them over the translation 6177a8942a705e0a… (all of the seat's roots in one cut). By AI agents, Wed Nov 11 2026. No macro, syntax, notation, axiom, sorry.
-/
import Derived.Test.YtlabpabnddfllaaChecked
import GoSem.Claim
import GoSem.ClaimJoined
import GoSem.ClaimMapViews
import Derived.JoinedTies
import Derived.KernelRfl
namespace Go.Proofs.Ytlabpabnddfllaa
/- THE CELL 'sum', in the pinned program and in every row, IS THE sha256 OF THE DUMP (.gsa) THAT YtlabpabnddfllaaProg.lean LOADS. Nothing in Lean hashes anything: it is a label: what it is worth is what the hold of that sum in a sandbox is worth. -/
noncomputable def Try.pinned : Pinned := { name := "ytlabpabnddfllaa", sum := "6177a8942a705e0af098a8e362be836c81beeaf474e9071d38bd96c9f6004226", checked := Try.checked }
namespace Rows
def none {H : Type} : Left H := { results := [], args := [] }

/-- 'boarderlaw01.AddrTexts': WHATEVER THE INPUT: true; the input reads as it did. -/
def addrTextsSpec : ChangeSpec := { name := "addrTexts", fn := fun _ => fun
  | [d] => { results := [.lit (.bool true)], args := [d] }
  | _ => none }
def addrTextsRow : OpenClaim := { program := "ytlabpabnddfllaa", sum := "6177a8942a705e0af098a8e362be836c81beeaf474e9071d38bd96c9f6004226", func := "boarder/boarderlaw01.AddrTexts", spec := "addrTexts", recurses := true, apart := false }
def AddrTextsSaid : Prop := addrTextsRow.holds Try.pinned (OpenSpec.ofChange addrTextsSpec)

/-- ITS FALSE NEIGHBOUR: 'it returns false'. Refute it at one input. -/
def addrTextsWrong : ChangeSpec := { name := "addrTexts", fn := fun _ => fun
  | [d] => { results := [.lit (.bool false)], args := [d] }
  | _ => none }
def AddrTextsWrongFalsely : Prop := addrTextsRow.holds Try.pinned (OpenSpec.ofChange addrTextsWrong)

/-- 'boarderlaw01.AddrParses': WHATEVER THE INPUT: true; the input reads as it did. -/
def addrParsesSpec : ChangeSpec := { name := "addrParses", fn := fun _ => fun
  | [d] => { results := [.lit (.bool true)], args := [d] }
  | _ => none }
def addrParsesRow : OpenClaim := { program := "ytlabpabnddfllaa", sum := "6177a8942a705e0af098a8e362be836c81beeaf474e9071d38bd96c9f6004226", func := "boarder/boarderlaw01.AddrParses", spec := "addrParses", recurses := true, apart := false }
def AddrParsesSaid : Prop := addrParsesRow.holds Try.pinned (OpenSpec.ofChange addrParsesSpec)

/-- ITS FALSE NEIGHBOUR: 'it returns false'. Refute it at one input. -/
def addrParsesWrong : ChangeSpec := { name := "addrParses", fn := fun _ => fun
  | [d] => { results := [.lit (.bool false)], args := [d] }
  | _ => none }
def AddrParsesWrongFalsely : Prop := addrParsesRow.holds Try.pinned (OpenSpec.ofChange addrParsesWrong)

/-- 'boarderlaw01.AddrBack': WHATEVER THE INPUT: true; the input reads as it did. -/
def addrBackSpec : ChangeSpec := { name := "addrBack", fn := fun _ => fun
  | [d1, d2] => { results := [.lit (.bool true)], args := [d1, d2] }
  | _ => none }
def addrBackRow : OpenClaim := { program := "ytlabpabnddfllaa", sum := "6177a8942a705e0af098a8e362be836c81beeaf474e9071d38bd96c9f6004226", func := "boarder/boarderlaw01.AddrBack", spec := "addrBack", recurses := true, apart := false }
def AddrBackSaid : Prop := addrBackRow.holds Try.pinned (OpenSpec.ofChange addrBackSpec)

/-- ITS FALSE NEIGHBOUR: 'it returns false'. Refute it at one input. -/
def addrBackWrong : ChangeSpec := { name := "addrBack", fn := fun _ => fun
  | [d1, d2] => { results := [.lit (.bool false)], args := [d1, d2] }
  | _ => none }
def AddrBackWrongFalsely : Prop := addrBackRow.holds Try.pinned (OpenSpec.ofChange addrBackWrong)

/-- 'boarderlaw01.AddrPrefixes': WHATEVER THE INPUT: true; the input reads as it did. -/
def addrPrefixesSpec : ChangeSpec := { name := "addrPrefixes", fn := fun _ => fun
  | [d1, d2] => { results := [.lit (.bool true)], args := [d1, d2] }
  | _ => none }
def addrPrefixesRow : OpenClaim := { program := "ytlabpabnddfllaa", sum := "6177a8942a705e0af098a8e362be836c81beeaf474e9071d38bd96c9f6004226", func := "boarder/boarderlaw01.AddrPrefixes", spec := "addrPrefixes", recurses := true, apart := false }
def AddrPrefixesSaid : Prop := addrPrefixesRow.holds Try.pinned (OpenSpec.ofChange addrPrefixesSpec)

/-- ITS FALSE NEIGHBOUR: 'it returns false'. Refute it at one input. -/
def addrPrefixesWrong : ChangeSpec := { name := "addrPrefixes", fn := fun _ => fun
  | [d1, d2] => { results := [.lit (.bool false)], args := [d1, d2] }
  | _ => none }
def AddrPrefixesWrongFalsely : Prop := addrPrefixesRow.holds Try.pinned (OpenSpec.ofChange addrPrefixesWrong)

/-- 'boarderlaw01.AddrHas': WHATEVER THE INPUT: true; the input reads as it did. -/
def addrHasSpec : ChangeSpec := { name := "addrHas", fn := fun _ => fun
  | [d1, d2, d3] => { results := [.lit (.bool true)], args := [d1, d2, d3] }
  | _ => none }
def addrHasRow : OpenClaim := { program := "ytlabpabnddfllaa", sum := "6177a8942a705e0af098a8e362be836c81beeaf474e9071d38bd96c9f6004226", func := "boarder/boarderlaw01.AddrHas", spec := "addrHas", recurses := true, apart := false }
def AddrHasSaid : Prop := addrHasRow.holds Try.pinned (OpenSpec.ofChange addrHasSpec)

/-- ITS FALSE NEIGHBOUR: 'it returns false'. Refute it at one input. -/
def addrHasWrong : ChangeSpec := { name := "addrHas", fn := fun _ => fun
  | [d1, d2, d3] => { results := [.lit (.bool false)], args := [d1, d2, d3] }
  | _ => none }
def AddrHasWrongFalsely : Prop := addrHasRow.holds Try.pinned (OpenSpec.ofChange addrHasWrong)

/-- 'boarderlaw01.AddrMeet': WHATEVER THE INPUT: true; the input reads as it did. -/
def addrMeetSpec : ChangeSpec := { name := "addrMeet", fn := fun _ => fun
  | [d1, d2, d3, d4] => { results := [.lit (.bool true)], args := [d1, d2, d3, d4] }
  | _ => none }
def addrMeetRow : OpenClaim := { program := "ytlabpabnddfllaa", sum := "6177a8942a705e0af098a8e362be836c81beeaf474e9071d38bd96c9f6004226", func := "boarder/boarderlaw01.AddrMeet", spec := "addrMeet", recurses := true, apart := false }
def AddrMeetSaid : Prop := addrMeetRow.holds Try.pinned (OpenSpec.ofChange addrMeetSpec)

/-- ITS FALSE NEIGHBOUR: 'it returns false'. Refute it at one input. -/
def addrMeetWrong : ChangeSpec := { name := "addrMeet", fn := fun _ => fun
  | [d1, d2, d3, d4] => { results := [.lit (.bool false)], args := [d1, d2, d3, d4] }
  | _ => none }
def AddrMeetWrongFalsely : Prop := addrMeetRow.holds Try.pinned (OpenSpec.ofChange addrMeetWrong)

/-- 'boarderlaw12.TableSets': WHATEVER THE INPUT: true; the input reads as it did. -/
def tableSetsSpec : ChangeSpec := { name := "tableSets", fn := fun _ => fun
  | [d1, d2] => { results := [.lit (.bool true)], args := [d1, d2] }
  | _ => none }
def tableSetsRow : OpenClaim := { program := "ytlabpabnddfllaa", sum := "6177a8942a705e0af098a8e362be836c81beeaf474e9071d38bd96c9f6004226", func := "boarder/boarderlaw12.TableSets", spec := "tableSets", apart := false }
def TableSetsSaid : Prop := tableSetsRow.holds Try.pinned (OpenSpec.ofChange tableSetsSpec)

/-- ITS FALSE NEIGHBOUR: 'it returns false'. Refute it at one input. -/
def tableSetsWrong : ChangeSpec := { name := "tableSets", fn := fun _ => fun
  | [d1, d2] => { results := [.lit (.bool false)], args := [d1, d2] }
  | _ => none }
def TableSetsWrongFalsely : Prop := tableSetsRow.holds Try.pinned (OpenSpec.ofChange tableSetsWrong)

/-- 'boarderlaw12.TableBack': WHATEVER THE INPUT: true; the input reads as it did. -/
def tableBackSpec : ChangeSpec := { name := "tableBack", fn := fun _ => fun
  | [d1, d2, d3] => { results := [.lit (.bool true)], args := [d1, d2, d3] }
  | _ => none }
def tableBackRow : OpenClaim := { program := "ytlabpabnddfllaa", sum := "6177a8942a705e0af098a8e362be836c81beeaf474e9071d38bd96c9f6004226", func := "boarder/boarderlaw12.TableBack", spec := "tableBack", apart := false }
def TableBackSaid : Prop := tableBackRow.holds Try.pinned (OpenSpec.ofChange tableBackSpec)

/-- ITS FALSE NEIGHBOUR: 'it returns false'. Refute it at one input. -/
def tableBackWrong : ChangeSpec := { name := "tableBack", fn := fun _ => fun
  | [d1, d2, d3] => { results := [.lit (.bool false)], args := [d1, d2, d3] }
  | _ => none }
def TableBackWrongFalsely : Prop := tableBackRow.holds Try.pinned (OpenSpec.ofChange tableBackWrong)

/-- 'boarderlaw12.TableRows': WHATEVER THE INPUT: true; the input reads as it did. -/
def tableRowsSpec : ChangeSpec := { name := "tableRows", fn := fun _ => fun
  | [d] => { results := [.lit (.bool true)], args := [d] }
  | _ => none }
def tableRowsRow : OpenClaim := { program := "ytlabpabnddfllaa", sum := "6177a8942a705e0af098a8e362be836c81beeaf474e9071d38bd96c9f6004226", func := "boarder/boarderlaw12.TableRows", spec := "tableRows", apart := false }
def TableRowsSaid : Prop := tableRowsRow.holds Try.pinned (OpenSpec.ofChange tableRowsSpec)

/-- ITS FALSE NEIGHBOUR: 'it returns false'. Refute it at one input. -/
def tableRowsWrong : ChangeSpec := { name := "tableRows", fn := fun _ => fun
  | [d] => { results := [.lit (.bool false)], args := [d] }
  | _ => none }
def TableRowsWrongFalsely : Prop := tableRowsRow.holds Try.pinned (OpenSpec.ofChange tableRowsWrong)

/-- 'boarderlaw12.TableGets': WHATEVER THE INPUT: true; the input reads as it did. -/
def tableGetsSpec : ChangeSpec := { name := "tableGets", fn := fun _ => fun
  | [d1, d2, d3] => { results := [.lit (.bool true)], args := [d1, d2, d3] }
  | _ => none }
def tableGetsRow : OpenClaim := { program := "ytlabpabnddfllaa", sum := "6177a8942a705e0af098a8e362be836c81beeaf474e9071d38bd96c9f6004226", func := "boarder/boarderlaw12.TableGets", spec := "tableGets", apart := false }
def TableGetsSaid : Prop := tableGetsRow.holds Try.pinned (OpenSpec.ofChange tableGetsSpec)

/-- ITS FALSE NEIGHBOUR: 'it returns false'. Refute it at one input. -/
def tableGetsWrong : ChangeSpec := { name := "tableGets", fn := fun _ => fun
  | [d1, d2, d3] => { results := [.lit (.bool false)], args := [d1, d2, d3] }
  | _ => none }
def TableGetsWrongFalsely : Prop := tableGetsRow.holds Try.pinned (OpenSpec.ofChange tableGetsWrong)

/-- 'boarderlaw12.TableSays': WHATEVER THE INPUT: true; the input reads as it did. -/
def tableSaysSpec : ChangeSpec := { name := "tableSays", fn := fun _ => fun
  | [d1, d2, d3, d4, d5] => { results := [.lit (.bool true)], args := [d1, d2, d3, d4, d5] }
  | _ => none }
def tableSaysRow : OpenClaim := { program := "ytlabpabnddfllaa", sum := "6177a8942a705e0af098a8e362be836c81beeaf474e9071d38bd96c9f6004226", func := "boarder/boarderlaw12.TableSays", spec := "tableSays", apart := false }
def TableSaysSaid : Prop := tableSaysRow.holds Try.pinned (OpenSpec.ofChange tableSaysSpec)

/-- ITS FALSE NEIGHBOUR: 'it returns false'. Refute it at one input. -/
def tableSaysWrong : ChangeSpec := { name := "tableSays", fn := fun _ => fun
  | [d1, d2, d3, d4, d5] => { results := [.lit (.bool false)], args := [d1, d2, d3, d4, d5] }
  | _ => none }
def TableSaysWrongFalsely : Prop := tableSaysRow.holds Try.pinned (OpenSpec.ofChange tableSaysWrong)

/-- 'boarderlaw12.TableSweeps': WHATEVER THE INPUT: true; the input reads as it did. -/
def tableSweepsSpec : ChangeSpec := { name := "tableSweeps", fn := fun _ => fun
  | [d1, d2, d3, d4] => { results := [.lit (.bool true)], args := [d1, d2, d3, d4] }
  | _ => none }
def tableSweepsRow : OpenClaim := { program := "ytlabpabnddfllaa", sum := "6177a8942a705e0af098a8e362be836c81beeaf474e9071d38bd96c9f6004226", func := "boarder/boarderlaw12.TableSweeps", spec := "tableSweeps", apart := false }
def TableSweepsSaid : Prop := tableSweepsRow.holds Try.pinned (OpenSpec.ofChange tableSweepsSpec)

/-- ITS FALSE NEIGHBOUR: 'it returns false'. Refute it at one input. -/
def tableSweepsWrong : ChangeSpec := { name := "tableSweeps", fn := fun _ => fun
  | [d1, d2, d3, d4] => { results := [.lit (.bool false)], args := [d1, d2, d3, d4] }
  | _ => none }
def TableSweepsWrongFalsely : Prop := tableSweepsRow.holds Try.pinned (OpenSpec.ofChange tableSweepsWrong)

/- THE SECOND FORM. 'bulk': how many values and letters a reading holds, each counted each time it is reached (what is shared counts as often as it is met; a slice's spare places count too). A statement '..UptoSaid' is the law's where the arguments, and the package variables that the reading takes, are together of bulk at most 1048576: NARROWER than '..Said'. Prove '..Said' where nothing that the law and all that it calls make is longer than what came in: it says more and counts as full. Else prove '..UptoSaid'. A law counts once. -/
mutual
def uptoBulk {H : Type} : DataW H → Nat
  | .lit (.string bytes) => bytes.length + 1
  | .lit _ => 1
  | .nil => 1
  | .ptr d => uptoBulk d + 1
  | .slice elems spare => uptoBulkAll elems + uptoBulkAll spare + 1
  | .agg parts => uptoBulkAll parts + 1
  | .iface _ d => uptoBulk d + 1
  | .map entries => uptoBulkEntries entries + 1
  | .held _ => 1
def uptoBulkAll {H : Type} : List (DataW H) → Nat
  | [] => 0
  | d :: r => uptoBulk d + uptoBulkAll r
def uptoBulkEntries {H : Type} : List (Lit × DataW H) → Nat
  | [] => 0
  | x :: r => uptoBulkEntry x + uptoBulkEntries r
def uptoBulkEntry {H : Type} : Lit × DataW H → Nat
  | (.string bytes, d) => bytes.length + uptoBulk d + 1
  | (_, d) => uptoBulk d + 1
 end
def uptoSmall : (H : Type) → List (DataW H) → Bool := fun _ ds => decide (uptoBulkAll ds ≤ 1048576)
def OpenSpec.upto (s : _root_.Go.ChangeSpec) : _root_.Go.OpenSpec := { _root_.Go.OpenSpec.ofChange s with cond := some uptoSmall }

/-- 'boarderlaw01.AddrTexts', WHERE WHAT IT READS IS OF BULK AT MOST 1048576: true; the input reads as it did. -/
def addrTextsUptoRow : OpenClaim := { program := "ytlabpabnddfllaa", sum := "6177a8942a705e0af098a8e362be836c81beeaf474e9071d38bd96c9f6004226", func := "boarder/boarderlaw01.AddrTexts", spec := "addrTexts", recurses := true, apart := false, narrowed := true }
def AddrTextsUptoSaid : Prop := addrTextsUptoRow.holds Try.pinned (OpenSpec.upto addrTextsSpec)

/-- 'boarderlaw01.AddrParses', WHERE WHAT IT READS IS OF BULK AT MOST 1048576: true; the input reads as it did. -/
def addrParsesUptoRow : OpenClaim := { program := "ytlabpabnddfllaa", sum := "6177a8942a705e0af098a8e362be836c81beeaf474e9071d38bd96c9f6004226", func := "boarder/boarderlaw01.AddrParses", spec := "addrParses", recurses := true, apart := false, narrowed := true }
def AddrParsesUptoSaid : Prop := addrParsesUptoRow.holds Try.pinned (OpenSpec.upto addrParsesSpec)

/-- 'boarderlaw01.AddrBack', WHERE WHAT IT READS IS OF BULK AT MOST 1048576: true; the input reads as it did. -/
def addrBackUptoRow : OpenClaim := { program := "ytlabpabnddfllaa", sum := "6177a8942a705e0af098a8e362be836c81beeaf474e9071d38bd96c9f6004226", func := "boarder/boarderlaw01.AddrBack", spec := "addrBack", recurses := true, apart := false, narrowed := true }
def AddrBackUptoSaid : Prop := addrBackUptoRow.holds Try.pinned (OpenSpec.upto addrBackSpec)

/-- 'boarderlaw01.AddrPrefixes', WHERE WHAT IT READS IS OF BULK AT MOST 1048576: true; the input reads as it did. -/
def addrPrefixesUptoRow : OpenClaim := { program := "ytlabpabnddfllaa", sum := "6177a8942a705e0af098a8e362be836c81beeaf474e9071d38bd96c9f6004226", func := "boarder/boarderlaw01.AddrPrefixes", spec := "addrPrefixes", recurses := true, apart := false, narrowed := true }
def AddrPrefixesUptoSaid : Prop := addrPrefixesUptoRow.holds Try.pinned (OpenSpec.upto addrPrefixesSpec)

/-- 'boarderlaw01.AddrHas', WHERE WHAT IT READS IS OF BULK AT MOST 1048576: true; the input reads as it did. -/
def addrHasUptoRow : OpenClaim := { program := "ytlabpabnddfllaa", sum := "6177a8942a705e0af098a8e362be836c81beeaf474e9071d38bd96c9f6004226", func := "boarder/boarderlaw01.AddrHas", spec := "addrHas", recurses := true, apart := false, narrowed := true }
def AddrHasUptoSaid : Prop := addrHasUptoRow.holds Try.pinned (OpenSpec.upto addrHasSpec)

/-- 'boarderlaw01.AddrMeet', WHERE WHAT IT READS IS OF BULK AT MOST 1048576: true; the input reads as it did. -/
def addrMeetUptoRow : OpenClaim := { program := "ytlabpabnddfllaa", sum := "6177a8942a705e0af098a8e362be836c81beeaf474e9071d38bd96c9f6004226", func := "boarder/boarderlaw01.AddrMeet", spec := "addrMeet", recurses := true, apart := false, narrowed := true }
def AddrMeetUptoSaid : Prop := addrMeetUptoRow.holds Try.pinned (OpenSpec.upto addrMeetSpec)

/-- 'boarderlaw12.TableSets', WHERE WHAT IT READS IS OF BULK AT MOST 1048576: true; the input reads as it did. -/
def tableSetsUptoRow : OpenClaim := { program := "ytlabpabnddfllaa", sum := "6177a8942a705e0af098a8e362be836c81beeaf474e9071d38bd96c9f6004226", func := "boarder/boarderlaw12.TableSets", spec := "tableSets", apart := false, narrowed := true }
def TableSetsUptoSaid : Prop := tableSetsUptoRow.holds Try.pinned (OpenSpec.upto tableSetsSpec)

/-- 'boarderlaw12.TableBack', WHERE WHAT IT READS IS OF BULK AT MOST 1048576: true; the input reads as it did. -/
def tableBackUptoRow : OpenClaim := { program := "ytlabpabnddfllaa", sum := "6177a8942a705e0af098a8e362be836c81beeaf474e9071d38bd96c9f6004226", func := "boarder/boarderlaw12.TableBack", spec := "tableBack", apart := false, narrowed := true }
def TableBackUptoSaid : Prop := tableBackUptoRow.holds Try.pinned (OpenSpec.upto tableBackSpec)

/-- 'boarderlaw12.TableRows', WHERE WHAT IT READS IS OF BULK AT MOST 1048576: true; the input reads as it did. -/
def tableRowsUptoRow : OpenClaim := { program := "ytlabpabnddfllaa", sum := "6177a8942a705e0af098a8e362be836c81beeaf474e9071d38bd96c9f6004226", func := "boarder/boarderlaw12.TableRows", spec := "tableRows", apart := false, narrowed := true }
def TableRowsUptoSaid : Prop := tableRowsUptoRow.holds Try.pinned (OpenSpec.upto tableRowsSpec)

/-- 'boarderlaw12.TableGets', WHERE WHAT IT READS IS OF BULK AT MOST 1048576: true; the input reads as it did. -/
def tableGetsUptoRow : OpenClaim := { program := "ytlabpabnddfllaa", sum := "6177a8942a705e0af098a8e362be836c81beeaf474e9071d38bd96c9f6004226", func := "boarder/boarderlaw12.TableGets", spec := "tableGets", apart := false, narrowed := true }
def TableGetsUptoSaid : Prop := tableGetsUptoRow.holds Try.pinned (OpenSpec.upto tableGetsSpec)

/-- 'boarderlaw12.TableSays', WHERE WHAT IT READS IS OF BULK AT MOST 1048576: true; the input reads as it did. -/
def tableSaysUptoRow : OpenClaim := { program := "ytlabpabnddfllaa", sum := "6177a8942a705e0af098a8e362be836c81beeaf474e9071d38bd96c9f6004226", func := "boarder/boarderlaw12.TableSays", spec := "tableSays", apart := false, narrowed := true }
def TableSaysUptoSaid : Prop := tableSaysUptoRow.holds Try.pinned (OpenSpec.upto tableSaysSpec)

/-- 'boarderlaw12.TableSweeps', WHERE WHAT IT READS IS OF BULK AT MOST 1048576: true; the input reads as it did. -/
def tableSweepsUptoRow : OpenClaim := { program := "ytlabpabnddfllaa", sum := "6177a8942a705e0af098a8e362be836c81beeaf474e9071d38bd96c9f6004226", func := "boarder/boarderlaw12.TableSweeps", spec := "tableSweeps", apart := false, narrowed := true }
def TableSweepsUptoSaid : Prop := tableSweepsUptoRow.holds Try.pinned (OpenSpec.upto tableSweepsSpec)

end Rows
end Go.Proofs.Ytlabpabnddfllaa
