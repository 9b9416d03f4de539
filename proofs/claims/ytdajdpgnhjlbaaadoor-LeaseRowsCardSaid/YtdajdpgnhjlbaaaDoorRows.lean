/-
  NARROWER THAN 'FOR EVERY INPUT', by the rows' own cells (each row's printed sentence says how): LeaseLines: laid · LeaseReads: laid · LeaseBack: laid · LeaseTables: laid · LeaseParses: laid · LeaseRows: laid · TextPrints: laid · TextParses: laid · TextOnly: laid.
  DERIVED. THE GIVEN ROWS OF THIS SEAT. 9 by the template 'for every input the law returns true; each argument reads behind the call as it read before'; 0 by the template 'total and deterministic' (their statements: YtdajdpgnhjlbaaaDoorTotals.lean).
  GIVEN WITH THE SEED: the statements are not yours to turn. If you find one false, say at which input.
  Laid BY PROGRAM, IN A SANDBOX (cutbox-rows.mjs): the forced cells as the released guide's own fill.sh prints them over the translation 3086b4e4a418dff8… (all of the seat's roots in one cut). By AI agents, Wed Nov 11 2026. No macro, syntax, notation, axiom, sorry.
-/
import Derived.Test.YtdajdpgnhjlbaaaDoorChecked
import GoSem.Claim
import GoSem.ClaimJoined
import GoSem.ClaimMapViews
import Derived.JoinedTies
import Derived.KernelRfl
namespace Go.Proofs.YtdajdpgnhjlbaaaDoor
/- THE CELL 'sum', in the pinned program and in every row, IS THE sha256 OF THE DUMP (.gsa) THAT YtdajdpgnhjlbaaaDoorProg.lean LOADS. Nothing in Lean hashes anything: it is a label: what it is worth is what the hold of that sum in a sandbox is worth. -/
noncomputable def Tryd.pinned : Pinned := { name := "ytdajdpgnhjlbaaadoor", sum := "3086b4e4a418dff8391f8d1ec94d1d829b375c29765ac128ec2c54b12cd50697", checked := Tryd.checked }
namespace Rows
def none {H : Type} : Left H := { results := [], args := [] }

/- WHAT THE LISTED PACKAGE-LEVEL VARIABLES READ AS WHEN THE CALL BEGINS. Each datum BY PROGRAM (the guide's laid-datum.mjs) off the statement by which the dump's own 'gosem.cut.vars' lays the variable. In a bare row this is a premise. The card (YtdajdpgnhjlbaaaDoorCards.lean) ties it to the program's text. -/
def laid_boarder_key_digits {H : Type} : DataW H := .agg [.lit (.int .u8 48), .lit (.int .u8 49), .lit (.int .u8 50), .lit (.int .u8 51), .lit (.int .u8 52), .lit (.int .u8 53), .lit (.int .u8 54), .lit (.int .u8 55), .lit (.int .u8 56), .lit (.int .u8 57), .lit (.int .u8 97), .lit (.int .u8 98), .lit (.int .u8 99), .lit (.int .u8 100), .lit (.int .u8 101), .lit (.int .u8 102)]
def laid_boarder_ltext_states {H : Type} : DataW H := .agg [.lit (.string [98, 111, 117, 110, 100]), .lit (.string [114, 101, 108, 101, 97, 115, 101, 100]), .lit (.string [100, 101, 99, 108, 105, 110, 101, 100])]

/-- 'boarderlaw24.LeaseLines': WHATEVER THE INPUT: true; the input reads as it did. -/
def leaseLinesSpec : ChangeSpec := { name := "leaseLines", fn := fun _ => fun
  | [d] => { results := [.lit (.bool true)], args := [d] }
  | _ => none }
def leaseLinesRow : OpenClaim := { program := "ytdajdpgnhjlbaaadoor", sum := "3086b4e4a418dff8391f8d1ec94d1d829b375c29765ac128ec2c54b12cd50697", func := "boarder/boarderlaw24.LeaseLines", spec := "leaseLines", recurses := true, named := ["boarder/ltext.states", "boarder/key.digits"], apart := false, laid := [("boarder/key.digits", laid_boarder_key_digits), ("boarder/ltext.states", laid_boarder_ltext_states)] }
def LeaseLinesSaid : Prop := leaseLinesRow.holds Tryd.pinned (OpenSpec.ofChange leaseLinesSpec)

/-- ITS FALSE NEIGHBOUR: 'it returns false'. Refute it at one input. -/
def leaseLinesWrong : ChangeSpec := { name := "leaseLines", fn := fun _ => fun
  | [d] => { results := [.lit (.bool false)], args := [d] }
  | _ => none }
def LeaseLinesWrongFalsely : Prop := leaseLinesRow.holds Tryd.pinned (OpenSpec.ofChange leaseLinesWrong)

/-- 'boarderlaw24.LeaseReads': WHATEVER THE INPUT: true; the input reads as it did. -/
def leaseReadsSpec : ChangeSpec := { name := "leaseReads", fn := fun _ => fun
  | [d] => { results := [.lit (.bool true)], args := [d] }
  | _ => none }
def leaseReadsRow : OpenClaim := { program := "ytdajdpgnhjlbaaadoor", sum := "3086b4e4a418dff8391f8d1ec94d1d829b375c29765ac128ec2c54b12cd50697", func := "boarder/boarderlaw24.LeaseReads", spec := "leaseReads", recurses := true, named := ["boarder/ltext.states", "boarder/key.digits"], apart := false, laid := [("boarder/key.digits", laid_boarder_key_digits), ("boarder/ltext.states", laid_boarder_ltext_states)] }
def LeaseReadsSaid : Prop := leaseReadsRow.holds Tryd.pinned (OpenSpec.ofChange leaseReadsSpec)

/-- ITS FALSE NEIGHBOUR: 'it returns false'. Refute it at one input. -/
def leaseReadsWrong : ChangeSpec := { name := "leaseReads", fn := fun _ => fun
  | [d] => { results := [.lit (.bool false)], args := [d] }
  | _ => none }
def LeaseReadsWrongFalsely : Prop := leaseReadsRow.holds Tryd.pinned (OpenSpec.ofChange leaseReadsWrong)

/-- 'boarderlaw24.LeaseBack': WHATEVER THE INPUT: true; the input reads as it did. -/
def leaseBackSpec : ChangeSpec := { name := "leaseBack", fn := fun _ => fun
  | [d1, d2] => { results := [.lit (.bool true)], args := [d1, d2] }
  | _ => none }
def leaseBackRow : OpenClaim := { program := "ytdajdpgnhjlbaaadoor", sum := "3086b4e4a418dff8391f8d1ec94d1d829b375c29765ac128ec2c54b12cd50697", func := "boarder/boarderlaw24.LeaseBack", spec := "leaseBack", recurses := true, named := ["boarder/ltext.states", "boarder/key.digits"], apart := false, laid := [("boarder/key.digits", laid_boarder_key_digits), ("boarder/ltext.states", laid_boarder_ltext_states)] }
def LeaseBackSaid : Prop := leaseBackRow.holds Tryd.pinned (OpenSpec.ofChange leaseBackSpec)

/-- ITS FALSE NEIGHBOUR: 'it returns false'. Refute it at one input. -/
def leaseBackWrong : ChangeSpec := { name := "leaseBack", fn := fun _ => fun
  | [d1, d2] => { results := [.lit (.bool false)], args := [d1, d2] }
  | _ => none }
def LeaseBackWrongFalsely : Prop := leaseBackRow.holds Tryd.pinned (OpenSpec.ofChange leaseBackWrong)

/-- 'boarderlaw24.LeaseTables': WHATEVER THE INPUT: true; the input reads as it did. -/
def leaseTablesSpec : ChangeSpec := { name := "leaseTables", fn := fun _ => fun
  | [d] => { results := [.lit (.bool true)], args := [d] }
  | _ => none }
def leaseTablesRow : OpenClaim := { program := "ytdajdpgnhjlbaaadoor", sum := "3086b4e4a418dff8391f8d1ec94d1d829b375c29765ac128ec2c54b12cd50697", func := "boarder/boarderlaw24.LeaseTables", spec := "leaseTables", recurses := true, named := ["boarder/ltext.states", "boarder/key.digits"], apart := false, laid := [("boarder/key.digits", laid_boarder_key_digits), ("boarder/ltext.states", laid_boarder_ltext_states)] }
def LeaseTablesSaid : Prop := leaseTablesRow.holds Tryd.pinned (OpenSpec.ofChange leaseTablesSpec)

/-- ITS FALSE NEIGHBOUR: 'it returns false'. Refute it at one input. -/
def leaseTablesWrong : ChangeSpec := { name := "leaseTables", fn := fun _ => fun
  | [d] => { results := [.lit (.bool false)], args := [d] }
  | _ => none }
def LeaseTablesWrongFalsely : Prop := leaseTablesRow.holds Tryd.pinned (OpenSpec.ofChange leaseTablesWrong)

/-- 'boarderlaw24.LeaseParses': WHATEVER THE INPUT: true; the input reads as it did. -/
def leaseParsesSpec : ChangeSpec := { name := "leaseParses", fn := fun _ => fun
  | [d] => { results := [.lit (.bool true)], args := [d] }
  | _ => none }
def leaseParsesRow : OpenClaim := { program := "ytdajdpgnhjlbaaadoor", sum := "3086b4e4a418dff8391f8d1ec94d1d829b375c29765ac128ec2c54b12cd50697", func := "boarder/boarderlaw24.LeaseParses", spec := "leaseParses", recurses := true, named := ["boarder/ltext.states", "boarder/key.digits"], apart := false, laid := [("boarder/key.digits", laid_boarder_key_digits), ("boarder/ltext.states", laid_boarder_ltext_states)] }
def LeaseParsesSaid : Prop := leaseParsesRow.holds Tryd.pinned (OpenSpec.ofChange leaseParsesSpec)

/-- ITS FALSE NEIGHBOUR: 'it returns false'. Refute it at one input. -/
def leaseParsesWrong : ChangeSpec := { name := "leaseParses", fn := fun _ => fun
  | [d] => { results := [.lit (.bool false)], args := [d] }
  | _ => none }
def LeaseParsesWrongFalsely : Prop := leaseParsesRow.holds Tryd.pinned (OpenSpec.ofChange leaseParsesWrong)

/-- 'boarderlaw24.LeaseRows': WHATEVER THE INPUT: true; the input reads as it did. -/
def leaseRowsSpec : ChangeSpec := { name := "leaseRows", fn := fun _ => fun
  | [d1, d2] => { results := [.lit (.bool true)], args := [d1, d2] }
  | _ => none }
def leaseRowsRow : OpenClaim := { program := "ytdajdpgnhjlbaaadoor", sum := "3086b4e4a418dff8391f8d1ec94d1d829b375c29765ac128ec2c54b12cd50697", func := "boarder/boarderlaw24.LeaseRows", spec := "leaseRows", recurses := true, named := ["boarder/ltext.states", "boarder/key.digits"], apart := false, laid := [("boarder/key.digits", laid_boarder_key_digits), ("boarder/ltext.states", laid_boarder_ltext_states)] }
def LeaseRowsSaid : Prop := leaseRowsRow.holds Tryd.pinned (OpenSpec.ofChange leaseRowsSpec)

/-- ITS FALSE NEIGHBOUR: 'it returns false'. Refute it at one input. -/
def leaseRowsWrong : ChangeSpec := { name := "leaseRows", fn := fun _ => fun
  | [d1, d2] => { results := [.lit (.bool false)], args := [d1, d2] }
  | _ => none }
def LeaseRowsWrongFalsely : Prop := leaseRowsRow.holds Tryd.pinned (OpenSpec.ofChange leaseRowsWrong)

/-- 'boarderlaw23.TextPrints': WHATEVER THE INPUT: true; the input reads as it did. -/
def textPrintsSpec : ChangeSpec := { name := "textPrints", fn := fun _ => fun
  | [d] => { results := [.lit (.bool true)], args := [d] }
  | _ => none }
def textPrintsRow : OpenClaim := { program := "ytdajdpgnhjlbaaadoor", sum := "3086b4e4a418dff8391f8d1ec94d1d829b375c29765ac128ec2c54b12cd50697", func := "boarder/boarderlaw23.TextPrints", spec := "textPrints", recurses := true, named := ["boarder/key.digits"], apart := false, laid := [("boarder/key.digits", laid_boarder_key_digits)] }
def TextPrintsSaid : Prop := textPrintsRow.holds Tryd.pinned (OpenSpec.ofChange textPrintsSpec)

/-- ITS FALSE NEIGHBOUR: 'it returns false'. Refute it at one input. -/
def textPrintsWrong : ChangeSpec := { name := "textPrints", fn := fun _ => fun
  | [d] => { results := [.lit (.bool false)], args := [d] }
  | _ => none }
def TextPrintsWrongFalsely : Prop := textPrintsRow.holds Tryd.pinned (OpenSpec.ofChange textPrintsWrong)

/-- 'boarderlaw23.TextParses': WHATEVER THE INPUT: true; the input reads as it did. -/
def textParsesSpec : ChangeSpec := { name := "textParses", fn := fun _ => fun
  | [d] => { results := [.lit (.bool true)], args := [d] }
  | _ => none }
def textParsesRow : OpenClaim := { program := "ytdajdpgnhjlbaaadoor", sum := "3086b4e4a418dff8391f8d1ec94d1d829b375c29765ac128ec2c54b12cd50697", func := "boarder/boarderlaw23.TextParses", spec := "textParses", recurses := true, named := ["boarder/key.digits"], apart := false, laid := [("boarder/key.digits", laid_boarder_key_digits)] }
def TextParsesSaid : Prop := textParsesRow.holds Tryd.pinned (OpenSpec.ofChange textParsesSpec)

/-- ITS FALSE NEIGHBOUR: 'it returns false'. Refute it at one input. -/
def textParsesWrong : ChangeSpec := { name := "textParses", fn := fun _ => fun
  | [d] => { results := [.lit (.bool false)], args := [d] }
  | _ => none }
def TextParsesWrongFalsely : Prop := textParsesRow.holds Tryd.pinned (OpenSpec.ofChange textParsesWrong)

/-- 'boarderlaw23.TextOnly': WHATEVER THE INPUT: true; the input reads as it did. -/
def textOnlySpec : ChangeSpec := { name := "textOnly", fn := fun _ => fun
  | [d] => { results := [.lit (.bool true)], args := [d] }
  | _ => none }
def textOnlyRow : OpenClaim := { program := "ytdajdpgnhjlbaaadoor", sum := "3086b4e4a418dff8391f8d1ec94d1d829b375c29765ac128ec2c54b12cd50697", func := "boarder/boarderlaw23.TextOnly", spec := "textOnly", recurses := true, named := ["boarder/key.digits"], apart := false, laid := [("boarder/key.digits", laid_boarder_key_digits)] }
def TextOnlySaid : Prop := textOnlyRow.holds Tryd.pinned (OpenSpec.ofChange textOnlySpec)

/-- ITS FALSE NEIGHBOUR: 'it returns false'. Refute it at one input. -/
def textOnlyWrong : ChangeSpec := { name := "textOnly", fn := fun _ => fun
  | [d] => { results := [.lit (.bool false)], args := [d] }
  | _ => none }
def TextOnlyWrongFalsely : Prop := textOnlyRow.holds Tryd.pinned (OpenSpec.ofChange textOnlyWrong)

/- THE SECOND FORM. 'bulk': how many values and letters a reading holds, each counted each time it is reached (what is shared counts as often as it is met; a slice's spare places count too). A statement '..UptoSaid' is the law's where the arguments, and the package variables that the reading takes, are together of bulk at most 1048576: NARROWER than '..Said'. Prove '..Said' where nothing that the law and all that it calls make is longer than what came in: it says more and counts as full. Else prove '..UptoSaid'. A law counts once. -/
mutual
def uptoBulk {H : Type} : DataW H → Nat
  | .lit (.string bytes) => bytes.length + 1
  | .lit _ => 1
  | .nil => 1
  | .ptr d => uptoBulk d + 1
  | .slice elems spare => uptoBulkAll elems + uptoBulkAll spare + 1
  | .agg parts => uptoBulkAll parts + 1
  | .iface _ d => uptoBulk d + 1
  | .map entries => uptoBulkEntries entries + 1
  | .held _ => 1
def uptoBulkAll {H : Type} : List (DataW H) → Nat
  | [] => 0
  | d :: r => uptoBulk d + uptoBulkAll r
def uptoBulkEntries {H : Type} : List (Lit × DataW H) → Nat
  | [] => 0
  | x :: r => uptoBulkEntry x + uptoBulkEntries r
def uptoBulkEntry {H : Type} : Lit × DataW H → Nat
  | (.string bytes, d) => bytes.length + uptoBulk d + 1
  | (_, d) => uptoBulk d + 1
 end
def uptoSmall : (H : Type) → List (DataW H) → Bool := fun _ ds => decide (uptoBulkAll ds ≤ 1048576)
def OpenSpec.upto (s : _root_.Go.ChangeSpec) : _root_.Go.OpenSpec := { _root_.Go.OpenSpec.ofChange s with cond := some uptoSmall }

/-- 'boarderlaw24.LeaseLines', WHERE WHAT IT READS IS OF BULK AT MOST 1048576: true; the input reads as it did. -/
def leaseLinesUptoRow : OpenClaim := { program := "ytdajdpgnhjlbaaadoor", sum := "3086b4e4a418dff8391f8d1ec94d1d829b375c29765ac128ec2c54b12cd50697", func := "boarder/boarderlaw24.LeaseLines", spec := "leaseLines", recurses := true, named := ["boarder/ltext.states", "boarder/key.digits"], apart := false, laid := [("boarder/key.digits", laid_boarder_key_digits), ("boarder/ltext.states", laid_boarder_ltext_states)], narrowed := true }
def LeaseLinesUptoSaid : Prop := leaseLinesUptoRow.holds Tryd.pinned (OpenSpec.upto leaseLinesSpec)

/-- 'boarderlaw24.LeaseReads', WHERE WHAT IT READS IS OF BULK AT MOST 1048576: true; the input reads as it did. -/
def leaseReadsUptoRow : OpenClaim := { program := "ytdajdpgnhjlbaaadoor", sum := "3086b4e4a418dff8391f8d1ec94d1d829b375c29765ac128ec2c54b12cd50697", func := "boarder/boarderlaw24.LeaseReads", spec := "leaseReads", recurses := true, named := ["boarder/ltext.states", "boarder/key.digits"], apart := false, laid := [("boarder/key.digits", laid_boarder_key_digits), ("boarder/ltext.states", laid_boarder_ltext_states)], narrowed := true }
def LeaseReadsUptoSaid : Prop := leaseReadsUptoRow.holds Tryd.pinned (OpenSpec.upto leaseReadsSpec)

/-- 'boarderlaw24.LeaseBack', WHERE WHAT IT READS IS OF BULK AT MOST 1048576: true; the input reads as it did. -/
def leaseBackUptoRow : OpenClaim := { program := "ytdajdpgnhjlbaaadoor", sum := "3086b4e4a418dff8391f8d1ec94d1d829b375c29765ac128ec2c54b12cd50697", func := "boarder/boarderlaw24.LeaseBack", spec := "leaseBack", recurses := true, named := ["boarder/ltext.states", "boarder/key.digits"], apart := false, laid := [("boarder/key.digits", laid_boarder_key_digits), ("boarder/ltext.states", laid_boarder_ltext_states)], narrowed := true }
def LeaseBackUptoSaid : Prop := leaseBackUptoRow.holds Tryd.pinned (OpenSpec.upto leaseBackSpec)

/-- 'boarderlaw24.LeaseTables', WHERE WHAT IT READS IS OF BULK AT MOST 1048576: true; the input reads as it did. -/
def leaseTablesUptoRow : OpenClaim := { program := "ytdajdpgnhjlbaaadoor", sum := "3086b4e4a418dff8391f8d1ec94d1d829b375c29765ac128ec2c54b12cd50697", func := "boarder/boarderlaw24.LeaseTables", spec := "leaseTables", recurses := true, named := ["boarder/ltext.states", "boarder/key.digits"], apart := false, laid := [("boarder/key.digits", laid_boarder_key_digits), ("boarder/ltext.states", laid_boarder_ltext_states)], narrowed := true }
def LeaseTablesUptoSaid : Prop := leaseTablesUptoRow.holds Tryd.pinned (OpenSpec.upto leaseTablesSpec)

/-- 'boarderlaw24.LeaseParses', WHERE WHAT IT READS IS OF BULK AT MOST 1048576: true; the input reads as it did. -/
def leaseParsesUptoRow : OpenClaim := { program := "ytdajdpgnhjlbaaadoor", sum := "3086b4e4a418dff8391f8d1ec94d1d829b375c29765ac128ec2c54b12cd50697", func := "boarder/boarderlaw24.LeaseParses", spec := "leaseParses", recurses := true, named := ["boarder/ltext.states", "boarder/key.digits"], apart := false, laid := [("boarder/key.digits", laid_boarder_key_digits), ("boarder/ltext.states", laid_boarder_ltext_states)], narrowed := true }
def LeaseParsesUptoSaid : Prop := leaseParsesUptoRow.holds Tryd.pinned (OpenSpec.upto leaseParsesSpec)

/-- 'boarderlaw24.LeaseRows', WHERE WHAT IT READS IS OF BULK AT MOST 1048576: true; the input reads as it did. -/
def leaseRowsUptoRow : OpenClaim := { program := "ytdajdpgnhjlbaaadoor", sum := "3086b4e4a418dff8391f8d1ec94d1d829b375c29765ac128ec2c54b12cd50697", func := "boarder/boarderlaw24.LeaseRows", spec := "leaseRows", recurses := true, named := ["boarder/ltext.states", "boarder/key.digits"], apart := false, laid := [("boarder/key.digits", laid_boarder_key_digits), ("boarder/ltext.states", laid_boarder_ltext_states)], narrowed := true }
def LeaseRowsUptoSaid : Prop := leaseRowsUptoRow.holds Tryd.pinned (OpenSpec.upto leaseRowsSpec)

/-- 'boarderlaw23.TextPrints', WHERE WHAT IT READS IS OF BULK AT MOST 1048576: true; the input reads as it did. -/
def textPrintsUptoRow : OpenClaim := { program := "ytdajdpgnhjlbaaadoor", sum := "3086b4e4a418dff8391f8d1ec94d1d829b375c29765ac128ec2c54b12cd50697", func := "boarder/boarderlaw23.TextPrints", spec := "textPrints", recurses := true, named := ["boarder/key.digits"], apart := false, laid := [("boarder/key.digits", laid_boarder_key_digits)], narrowed := true }
def TextPrintsUptoSaid : Prop := textPrintsUptoRow.holds Tryd.pinned (OpenSpec.upto textPrintsSpec)

/-- 'boarderlaw23.TextParses', WHERE WHAT IT READS IS OF BULK AT MOST 1048576: true; the input reads as it did. -/
def textParsesUptoRow : OpenClaim := { program := "ytdajdpgnhjlbaaadoor", sum := "3086b4e4a418dff8391f8d1ec94d1d829b375c29765ac128ec2c54b12cd50697", func := "boarder/boarderlaw23.TextParses", spec := "textParses", recurses := true, named := ["boarder/key.digits"], apart := false, laid := [("boarder/key.digits", laid_boarder_key_digits)], narrowed := true }
def TextParsesUptoSaid : Prop := textParsesUptoRow.holds Tryd.pinned (OpenSpec.upto textParsesSpec)

/-- 'boarderlaw23.TextOnly', WHERE WHAT IT READS IS OF BULK AT MOST 1048576: true; the input reads as it did. -/
def textOnlyUptoRow : OpenClaim := { program := "ytdajdpgnhjlbaaadoor", sum := "3086b4e4a418dff8391f8d1ec94d1d829b375c29765ac128ec2c54b12cd50697", func := "boarder/boarderlaw23.TextOnly", spec := "textOnly", recurses := true, named := ["boarder/key.digits"], apart := false, laid := [("boarder/key.digits", laid_boarder_key_digits)], narrowed := true }
def TextOnlyUptoSaid : Prop := textOnlyUptoRow.holds Tryd.pinned (OpenSpec.upto textOnlySpec)

end Rows
end Go.Proofs.YtdajdpgnhjlbaaaDoor
