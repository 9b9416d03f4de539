/- The law LeaseRows: the plain statement that it comes to, and the walk over that; no condition beyond the theorem's own. -/
import Derived.Test.YtdajdpgnhjlbaaaDoorLeaseK
import Derived.Test.YtdajdpgnhjlbaaaDoorPLeasex16
namespace Go.Proofs.YtdajdpgnhjlbaaaDoor.PLease
open Go.RowKit Go.Proofs.YtdajdpgnhjlbaaaDoorW.PrintWords Go.Proofs.YtdajdpgnhjlbaaaDoorW.PrintLast Go.Proofs.YtdajdpgnhjlbaaaDoorW.PrintMore
attribute [local go_sem] max2_int min2_int max_two min_two max_three min_three max_four min_four   -- for this text's walks alone
set_option linter.unusedVariables false
set_option linter.unusedSimpArgs false

/-- What is to be shown of boarderlaw24_LeaseRows, with no program in sight. -/
def boarderlaw24_LeaseRows.Pure : Prop := ∀ (l0 : List (S23)) (l1 : List (S23)), ((fun xs : List (S23) => xs.length ≤ maxLen ∧ ∀ x ∈ xs, ok23 x)) l0 → ((fun xs : List (S23) => xs.length ≤ maxLen ∧ ∀ x ∈ xs, ok23 x)) l1 → ∃ k, boarderlaw24_LeaseRows.f k l0 l1 = some true
theorem boarderlaw24_LeaseRows.walk (P : boarderlaw24_LeaseRows.Pure) (A0 : Option Addr) (c0 : Nat) (l0 : List (S23)) (A1 : Option Addr) (c1 : Nat) (l1 : List (S23)) (w : World) (ok_0 : ((fun xs : List (S23) => xs.length ≤ maxLen ∧ ∀ x ∈ xs, ok23 x)) l0) (ok_1 : ((fun xs : List (S23) => xs.length ≤ maxLen ∧ ∀ x ∈ xs, ok23 x)) l1) (hr0 : Kd.C k23 w A0 l0.length l0) (hc0 : l0.length ≤ c0) (hr1 : Kd.C k23 w A1 l1.length l1) (hc1 : l1.length ≤ c1) (hT : TabW w) :
    Calls Tryd.prog 8 #[.slice A0 l0.length c0, .slice A1 l1.length c1] w fun e w' => e = .returned (.bool true) ∧ Below w.heap.size w w' := by
  obtain ⟨k, h⟩ := P l0 l1 ok_0 ok_1
  refine (boarderlaw24_LeaseRows.calls k A0 c0 l0 A1 c1 l1 true w hr0 hc0 hr1 hc1 hT h).mono ?_
  rintro e w' ⟨rfl, hd⟩
  exact ⟨rfl, hd⟩
end Go.Proofs.YtdajdpgnhjlbaaaDoor.PLease
