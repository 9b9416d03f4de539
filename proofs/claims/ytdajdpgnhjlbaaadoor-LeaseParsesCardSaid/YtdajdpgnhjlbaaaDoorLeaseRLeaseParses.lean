/- The law LeaseParses: the plain statement that it comes to, and the walk over that; no condition beyond the theorem's own. -/
import Derived.Test.YtdajdpgnhjlbaaaDoorLeaseK
import Derived.Test.YtdajdpgnhjlbaaaDoorPLeasex14
namespace Go.Proofs.YtdajdpgnhjlbaaaDoor.PLease
open Go.RowKit Go.Proofs.YtdajdpgnhjlbaaaDoorW.PrintWords Go.Proofs.YtdajdpgnhjlbaaaDoorW.PrintLast Go.Proofs.YtdajdpgnhjlbaaaDoorW.PrintMore
attribute [local go_sem] max2_int min2_int max_two min_two max_three min_three max_four min_four   -- for this text's walks alone
set_option linter.unusedVariables false
set_option linter.unusedSimpArgs false

/-- What is to be shown of boarderlaw24_LeaseParses, with no program in sight. -/
def boarderlaw24_LeaseParses.Pure : Prop := ∀ (a0 : ByteArray), a0.size ≤ 140737488351232 → ∃ k, boarderlaw24_LeaseParses.f k a0 = some true
theorem boarderlaw24_LeaseParses.walk (P : boarderlaw24_LeaseParses.Pure) (a0 : ByteArray) (w : World) (w0 : a0.size ≤ 140737488351232) (hT : TabW w) :
    Calls Tryd.prog 7 #[.string a0] w fun e w' => e = .returned (.bool true) ∧ Below w.heap.size w w' := by
  obtain ⟨k, h⟩ := P a0 w0
  refine (boarderlaw24_LeaseParses.calls k a0 true w hT h).mono ?_
  rintro e w' ⟨rfl, hd⟩
  exact ⟨rfl, hd⟩
end Go.Proofs.YtdajdpgnhjlbaaaDoor.PLease
