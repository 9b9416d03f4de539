/-
  DERIVED. GIVEN WITH THE SEED: THE CARDS: each row of YtdajdpgnhjlbaaaDoorRows.lean that lists a variable, with what it lists TIED to the program's text (the seventh form; the later family's looks); each row that meets fmt, with fmt's text TOLD by the authors' own Lean function (tested against real Go, not proved from fmt's source: count such statements apart). THE CARD IS WHAT COUNTS. Prove the row's statement (the work); the ties are given (YtdajdpgnhjlbaaaDoorTie.lean); close each card by the builder's one call (the guide's Derived/Test/ToyasCard.lean, 'card_holds'). Laid BY PROGRAM, IN A SANDBOX (cutbox-door.mjs). By AI agents, Wed Nov 11 2026. No macro, syntax, notation, axiom, sorry.
-/
import Derived.Test.YtdajdpgnhjlbaaaDoorRows
import GoSem.ClaimSeven
namespace Go.Proofs.YtdajdpgnhjlbaaaDoor
namespace Rows

/-- THE TIED CARD OF 'boarderlaw24.LeaseLines'. -/
def leaseLinesCard : Claim7 := { stood := { row := leaseLinesRow, standIns := [], harness := (true, "8b27017c49dceba87f177b9ba9ad17c7aace15379c9b7ca8f456b32dd535803c"), looks := false }, kinds := [], alts := [], laidByText := true, laidKinds := [.data, .data], laidTests := true, laidLooks := .later }
def LeaseLinesCardSaid : Prop := Claim7.holds Tryd.pinned (.plain (OpenSpec.ofChange leaseLinesSpec)) leaseLinesCard

/-- THE TIED CARD OF 'boarderlaw24.LeaseReads'. -/
def leaseReadsCard : Claim7 := { stood := { row := leaseReadsRow, standIns := [], harness := (true, "8b27017c49dceba87f177b9ba9ad17c7aace15379c9b7ca8f456b32dd535803c"), looks := false }, kinds := [], alts := [], laidByText := true, laidKinds := [.data, .data], laidTests := true, laidLooks := .later }
def LeaseReadsCardSaid : Prop := Claim7.holds Tryd.pinned (.plain (OpenSpec.ofChange leaseReadsSpec)) leaseReadsCard

/-- THE TIED CARD OF 'boarderlaw24.LeaseBack'. -/
def leaseBackCard : Claim7 := { stood := { row := leaseBackRow, standIns := [], harness := (true, "8b27017c49dceba87f177b9ba9ad17c7aace15379c9b7ca8f456b32dd535803c"), looks := false }, kinds := [], alts := [], laidByText := true, laidKinds := [.data, .data], laidTests := true, laidLooks := .later }
def LeaseBackCardSaid : Prop := Claim7.holds Tryd.pinned (.plain (OpenSpec.ofChange leaseBackSpec)) leaseBackCard

/-- THE TIED CARD OF 'boarderlaw24.LeaseTables'. -/
def leaseTablesCard : Claim7 := { stood := { row := leaseTablesRow, standIns := [], harness := (true, "8b27017c49dceba87f177b9ba9ad17c7aace15379c9b7ca8f456b32dd535803c"), looks := false }, kinds := [], alts := [], laidByText := true, laidKinds := [.data, .data], laidTests := true, laidLooks := .later }
def LeaseTablesCardSaid : Prop := Claim7.holds Tryd.pinned (.plain (OpenSpec.ofChange leaseTablesSpec)) leaseTablesCard

/-- THE TIED CARD OF 'boarderlaw24.LeaseParses'. -/
def leaseParsesCard : Claim7 := { stood := { row := leaseParsesRow, standIns := [], harness := (true, "8b27017c49dceba87f177b9ba9ad17c7aace15379c9b7ca8f456b32dd535803c"), looks := false }, kinds := [], alts := [], laidByText := true, laidKinds := [.data, .data], laidTests := true, laidLooks := .later }
def LeaseParsesCardSaid : Prop := Claim7.holds Tryd.pinned (.plain (OpenSpec.ofChange leaseParsesSpec)) leaseParsesCard

/-- THE TIED CARD OF 'boarderlaw24.LeaseRows'. -/
def leaseRowsCard : Claim7 := { stood := { row := leaseRowsRow, standIns := [], harness := (true, "8b27017c49dceba87f177b9ba9ad17c7aace15379c9b7ca8f456b32dd535803c"), looks := false }, kinds := [], alts := [], laidByText := true, laidKinds := [.data, .data], laidTests := true, laidLooks := .later }
def LeaseRowsCardSaid : Prop := Claim7.holds Tryd.pinned (.plain (OpenSpec.ofChange leaseRowsSpec)) leaseRowsCard

/-- THE TIED CARD OF 'boarderlaw23.TextPrints'. -/
def textPrintsCard : Claim7 := { stood := { row := textPrintsRow, standIns := [], harness := (true, "8b27017c49dceba87f177b9ba9ad17c7aace15379c9b7ca8f456b32dd535803c"), looks := false }, kinds := [], alts := [], laidByText := true, laidKinds := [.data], laidTests := true, laidLooks := .later }
def TextPrintsCardSaid : Prop := Claim7.holds Tryd.pinned (.plain (OpenSpec.ofChange textPrintsSpec)) textPrintsCard

/-- THE TIED CARD OF 'boarderlaw23.TextParses'. -/
def textParsesCard : Claim7 := { stood := { row := textParsesRow, standIns := [], harness := (true, "8b27017c49dceba87f177b9ba9ad17c7aace15379c9b7ca8f456b32dd535803c"), looks := false }, kinds := [], alts := [], laidByText := true, laidKinds := [.data], laidTests := true, laidLooks := .later }
def TextParsesCardSaid : Prop := Claim7.holds Tryd.pinned (.plain (OpenSpec.ofChange textParsesSpec)) textParsesCard

/-- THE TIED CARD OF 'boarderlaw23.TextOnly'. -/
def textOnlyCard : Claim7 := { stood := { row := textOnlyRow, standIns := [], harness := (true, "8b27017c49dceba87f177b9ba9ad17c7aace15379c9b7ca8f456b32dd535803c"), looks := false }, kinds := [], alts := [], laidByText := true, laidKinds := [.data], laidTests := true, laidLooks := .later }
def TextOnlyCardSaid : Prop := Claim7.holds Tryd.pinned (.plain (OpenSpec.ofChange textOnlySpec)) textOnlyCard

/-- THE SECOND FORM's CARD OF 'boarderlaw24.LeaseLines'. -/
def leaseLinesUptoCard : Claim7 := { stood := { row := leaseLinesUptoRow, standIns := [], harness := (true, "8b27017c49dceba87f177b9ba9ad17c7aace15379c9b7ca8f456b32dd535803c"), looks := false }, kinds := [], alts := [], laidByText := true, laidKinds := [.data, .data], laidTests := true, laidLooks := .later }
def LeaseLinesUptoCardSaid : Prop := Claim7.holds Tryd.pinned (.plain (OpenSpec.upto leaseLinesSpec)) leaseLinesUptoCard

/-- THE SECOND FORM's CARD OF 'boarderlaw24.LeaseReads'. -/
def leaseReadsUptoCard : Claim7 := { stood := { row := leaseReadsUptoRow, standIns := [], harness := (true, "8b27017c49dceba87f177b9ba9ad17c7aace15379c9b7ca8f456b32dd535803c"), looks := false }, kinds := [], alts := [], laidByText := true, laidKinds := [.data, .data], laidTests := true, laidLooks := .later }
def LeaseReadsUptoCardSaid : Prop := Claim7.holds Tryd.pinned (.plain (OpenSpec.upto leaseReadsSpec)) leaseReadsUptoCard

/-- THE SECOND FORM's CARD OF 'boarderlaw24.LeaseBack'. -/
def leaseBackUptoCard : Claim7 := { stood := { row := leaseBackUptoRow, standIns := [], harness := (true, "8b27017c49dceba87f177b9ba9ad17c7aace15379c9b7ca8f456b32dd535803c"), looks := false }, kinds := [], alts := [], laidByText := true, laidKinds := [.data, .data], laidTests := true, laidLooks := .later }
def LeaseBackUptoCardSaid : Prop := Claim7.holds Tryd.pinned (.plain (OpenSpec.upto leaseBackSpec)) leaseBackUptoCard

/-- THE SECOND FORM's CARD OF 'boarderlaw24.LeaseTables'. -/
def leaseTablesUptoCard : Claim7 := { stood := { row := leaseTablesUptoRow, standIns := [], harness := (true, "8b27017c49dceba87f177b9ba9ad17c7aace15379c9b7ca8f456b32dd535803c"), looks := false }, kinds := [], alts := [], laidByText := true, laidKinds := [.data, .data], laidTests := true, laidLooks := .later }
def LeaseTablesUptoCardSaid : Prop := Claim7.holds Tryd.pinned (.plain (OpenSpec.upto leaseTablesSpec)) leaseTablesUptoCard

/-- THE SECOND FORM's CARD OF 'boarderlaw24.LeaseParses'. -/
def leaseParsesUptoCard : Claim7 := { stood := { row := leaseParsesUptoRow, standIns := [], harness := (true, "8b27017c49dceba87f177b9ba9ad17c7aace15379c9b7ca8f456b32dd535803c"), looks := false }, kinds := [], alts := [], laidByText := true, laidKinds := [.data, .data], laidTests := true, laidLooks := .later }
def LeaseParsesUptoCardSaid : Prop := Claim7.holds Tryd.pinned (.plain (OpenSpec.upto leaseParsesSpec)) leaseParsesUptoCard

/-- THE SECOND FORM's CARD OF 'boarderlaw24.LeaseRows'. -/
def leaseRowsUptoCard : Claim7 := { stood := { row := leaseRowsUptoRow, standIns := [], harness := (true, "8b27017c49dceba87f177b9ba9ad17c7aace15379c9b7ca8f456b32dd535803c"), looks := false }, kinds := [], alts := [], laidByText := true, laidKinds := [.data, .data], laidTests := true, laidLooks := .later }
def LeaseRowsUptoCardSaid : Prop := Claim7.holds Tryd.pinned (.plain (OpenSpec.upto leaseRowsSpec)) leaseRowsUptoCard

/-- THE SECOND FORM's CARD OF 'boarderlaw23.TextPrints'. -/
def textPrintsUptoCard : Claim7 := { stood := { row := textPrintsUptoRow, standIns := [], harness := (true, "8b27017c49dceba87f177b9ba9ad17c7aace15379c9b7ca8f456b32dd535803c"), looks := false }, kinds := [], alts := [], laidByText := true, laidKinds := [.data], laidTests := true, laidLooks := .later }
def TextPrintsUptoCardSaid : Prop := Claim7.holds Tryd.pinned (.plain (OpenSpec.upto textPrintsSpec)) textPrintsUptoCard

/-- THE SECOND FORM's CARD OF 'boarderlaw23.TextParses'. -/
def textParsesUptoCard : Claim7 := { stood := { row := textParsesUptoRow, standIns := [], harness := (true, "8b27017c49dceba87f177b9ba9ad17c7aace15379c9b7ca8f456b32dd535803c"), looks := false }, kinds := [], alts := [], laidByText := true, laidKinds := [.data], laidTests := true, laidLooks := .later }
def TextParsesUptoCardSaid : Prop := Claim7.holds Tryd.pinned (.plain (OpenSpec.upto textParsesSpec)) textParsesUptoCard

/-- THE SECOND FORM's CARD OF 'boarderlaw23.TextOnly'. -/
def textOnlyUptoCard : Claim7 := { stood := { row := textOnlyUptoRow, standIns := [], harness := (true, "8b27017c49dceba87f177b9ba9ad17c7aace15379c9b7ca8f456b32dd535803c"), looks := false }, kinds := [], alts := [], laidByText := true, laidKinds := [.data], laidTests := true, laidLooks := .later }
def TextOnlyUptoCardSaid : Prop := Claim7.holds Tryd.pinned (.plain (OpenSpec.upto textOnlySpec)) textOnlyUptoCard
end Rows
end Go.Proofs.YtdajdpgnhjlbaaaDoor
