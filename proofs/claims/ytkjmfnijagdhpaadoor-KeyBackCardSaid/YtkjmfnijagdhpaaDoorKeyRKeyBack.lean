/- The law KeyBack: the plain statement that it comes to, and the walk over that; no condition beyond the theorem's own. -/
import Derived.Test.YtkjmfnijagdhpaaDoorKeyK
import Derived.Test.YtkjmfnijagdhpaaDoorPKeyx8
namespace Go.Proofs.YtkjmfnijagdhpaaDoor.PKey
open Go.RowKit Go.Proofs.YtkjmfnijagdhpaaDoorW.PrintWords Go.Proofs.YtkjmfnijagdhpaaDoorW.PrintLast Go.Proofs.YtkjmfnijagdhpaaDoorW.PrintMore
attribute [local go_sem] max2_int min2_int max_two min_two max_three min_three max_four min_four   -- for this text's walks alone
set_option linter.unusedVariables false
set_option linter.unusedSimpArgs false

/-- What is to be shown of boarderlaw07_KeyBack, with no program in sight. -/
def boarderlaw07_KeyBack.Pure : Prop := ∀ (a0 : ByteArray) (a1 : ByteArray), a0.size ≤ 140737488351232 → a1.size ≤ 140737488351232 → ∃ k, boarderlaw07_KeyBack.f k a0 a1 = some true
theorem boarderlaw07_KeyBack.walk (P : boarderlaw07_KeyBack.Pure) (a0 : ByteArray) (a1 : ByteArray) (w : World) (w0 : a0.size ≤ 140737488351232) (w1 : a1.size ≤ 140737488351232) (hT : TabW w) :
    Calls Tryd.prog 6 #[.string a0, .string a1] w fun e w' => e = .returned (.bool true) ∧ Below w.heap.size w w' := by
  obtain ⟨k, h⟩ := P a0 a1 w0 w1
  refine (boarderlaw07_KeyBack.calls k a0 a1 true w hT h).mono ?_
  rintro e w' ⟨rfl, hd⟩
  exact ⟨rfl, hd⟩
end Go.Proofs.YtkjmfnijagdhpaaDoor.PKey
