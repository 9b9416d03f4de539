/- The law LeaseBack: the plain statement that it comes to, and the walk over that; no condition beyond the theorem's own. -/
import Derived.Test.YtdajdpgnhjlbaaaDoorLeaseK
import Derived.Test.YtdajdpgnhjlbaaaDoorPLeasex12
namespace Go.Proofs.YtdajdpgnhjlbaaaDoor.PLease
open Go.RowKit Go.Proofs.YtdajdpgnhjlbaaaDoorW.PrintWords Go.Proofs.YtdajdpgnhjlbaaaDoorW.PrintLast Go.Proofs.YtdajdpgnhjlbaaaDoorW.PrintMore
attribute [local go_sem] max2_int min2_int max_two min_two max_three min_three max_four min_four   -- for this text's walks alone
set_option linter.unusedVariables false
set_option linter.unusedSimpArgs false

/-- What is to be shown of boarderlaw24_LeaseBack, with no program in sight. -/
def boarderlaw24_LeaseBack.Pure : Prop := ∀ (a0_0 : Int) (a0_1 : Int) (a0_2 : Int) (a0_3 : ByteArray) (a1 : ByteArray), ok23 (⟨a0_0, a0_1, a0_2, a0_3⟩ : S23) → a1.size ≤ 140737488351232 → ∃ k, boarderlaw24_LeaseBack.f k a0_0 a0_1 a0_2 a0_3 a1 = some true
theorem boarderlaw24_LeaseBack.walk (P : boarderlaw24_LeaseBack.Pure) (a0_0 : Int) (a0_1 : Int) (a0_2 : Int) (a0_3 : ByteArray) (a1 : ByteArray) (w : World) (ok_0 : ok23 (⟨a0_0, a0_1, a0_2, a0_3⟩ : S23)) (w1 : a1.size ≤ 140737488351232) (hT : TabW w) :
    Calls Tryd.prog 5 #[.agg #[.int .i64 a0_0, .int .i64 a0_1, .int .i64 a0_2, .string a0_3], .string a1] w fun e w' => e = .returned (.bool true) ∧ Below w.heap.size w w' := by
  obtain ⟨k, h⟩ := P a0_0 a0_1 a0_2 a0_3 a1 ok_0 w1
  refine (boarderlaw24_LeaseBack.calls k a0_0 a0_1 a0_2 a0_3 a1 true w hT h).mono ?_
  rintro e w' ⟨rfl, hd⟩
  exact ⟨rfl, hd⟩
end Go.Proofs.YtdajdpgnhjlbaaaDoor.PLease
