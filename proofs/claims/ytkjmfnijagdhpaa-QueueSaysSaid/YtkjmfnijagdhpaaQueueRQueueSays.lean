/- The law QueueSays: the plain statement that it comes to, and the walk over that; no condition beyond the theorem's own. -/
import Derived.Test.YtkjmfnijagdhpaaQueueK
import Derived.Test.YtkjmfnijagdhpaaPQueuex13
namespace Go.Proofs.Ytkjmfnijagdhpaa.PQueue
open Go.RowKit Go.Proofs.YtkjmfnijagdhpaaW.PrintWords Go.Proofs.YtkjmfnijagdhpaaW.PrintLast Go.Proofs.YtkjmfnijagdhpaaW.PrintMore
attribute [local go_sem] max2_int min2_int max_two min_two max_three min_three max_four min_four   -- for this text's walks alone
set_option linter.unusedVariables false
set_option linter.unusedSimpArgs false

/-- What is to be shown of boarderlaw25_QueueSays, with no program in sight. -/
def boarderlaw25_QueueSays.Pure : Prop := ∀ (l0 : List (S34)) (a1 : Int) (a2 : Int) (a3 : Int), ((fun xs : List (S34) => xs.length ≤ maxLen ∧ ∀ x ∈ xs, ok34 x)) l0 → (Lit.int .i64 a1).wf = true → (Lit.int .i64 a2).wf = true → (Lit.int .i64 a3).wf = true → ∃ k, boarderlaw25_QueueSays.f k l0 a1 a2 a3 = some true
theorem boarderlaw25_QueueSays.walk (P : boarderlaw25_QueueSays.Pure) (A0 : Option Addr) (c0 : Nat) (l0 : List (S34)) (a1 : Int) (a2 : Int) (a3 : Int) (w : World) (ok_0 : ((fun xs : List (S34) => xs.length ≤ maxLen ∧ ∀ x ∈ xs, ok34 x)) l0) (w1 : (Lit.int .i64 a1).wf = true) (w2 : (Lit.int .i64 a2).wf = true) (w3 : (Lit.int .i64 a3).wf = true) (hr0 : Kd.C k34 w A0 l0.length l0) (hc0 : l0.length ≤ c0) :
    Calls Try.prog 4 #[.slice A0 l0.length c0, .int .i64 a1, .int .i64 a2, .int .i64 a3] w fun e w' => e = .returned (.bool true) ∧ Below w.heap.size w w' := by
  obtain ⟨k, h⟩ := P l0 a1 a2 a3 ok_0 w1 w2 w3
  refine (boarderlaw25_QueueSays.calls k A0 c0 l0 a1 a2 a3 true w hr0 hc0 h).mono ?_
  rintro e w' ⟨rfl, hd⟩
  exact ⟨rfl, hd⟩
end Go.Proofs.Ytkjmfnijagdhpaa.PQueue
