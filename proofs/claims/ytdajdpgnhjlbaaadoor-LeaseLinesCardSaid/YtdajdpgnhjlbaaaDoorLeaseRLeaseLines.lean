/- The law LeaseLines: the plain statement that it comes to, and the walk over that; no condition beyond the theorem's own. -/
import Derived.Test.YtdajdpgnhjlbaaaDoorLeaseK
import Derived.Test.YtdajdpgnhjlbaaaDoorPLeasex13
namespace Go.Proofs.YtdajdpgnhjlbaaaDoor.PLease
open Go.RowKit Go.Proofs.YtdajdpgnhjlbaaaDoorW.PrintWords Go.Proofs.YtdajdpgnhjlbaaaDoorW.PrintLast Go.Proofs.YtdajdpgnhjlbaaaDoorW.PrintMore
attribute [local go_sem] max2_int min2_int max_two min_two max_three min_three max_four min_four   -- for this text's walks alone
set_option linter.unusedVariables false
set_option linter.unusedSimpArgs false

/-- What is to be shown of boarderlaw24_LeaseLines, with no program in sight. -/
def boarderlaw24_LeaseLines.Pure : Prop := ∀ (a0_0 : Int) (a0_1 : Int) (a0_2 : Int) (a0_3 : ByteArray), ok23 (⟨a0_0, a0_1, a0_2, a0_3⟩ : S23) → ∃ k, boarderlaw24_LeaseLines.f k a0_0 a0_1 a0_2 a0_3 = some true
theorem boarderlaw24_LeaseLines.walk (P : boarderlaw24_LeaseLines.Pure) (a0_0 : Int) (a0_1 : Int) (a0_2 : Int) (a0_3 : ByteArray) (w : World) (ok_0 : ok23 (⟨a0_0, a0_1, a0_2, a0_3⟩ : S23)) (hT : TabW w) :
    Calls Tryd.prog 3 #[.agg #[.int .i64 a0_0, .int .i64 a0_1, .int .i64 a0_2, .string a0_3]] w fun e w' => e = .returned (.bool true) ∧ Below w.heap.size w w' := by
  obtain ⟨k, h⟩ := P a0_0 a0_1 a0_2 a0_3 ok_0
  refine (boarderlaw24_LeaseLines.calls k a0_0 a0_1 a0_2 a0_3 true w hT h).mono ?_
  rintro e w' ⟨rfl, hd⟩
  exact ⟨rfl, hd⟩
end Go.Proofs.YtdajdpgnhjlbaaaDoor.PLease
