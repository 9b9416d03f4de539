/- The law TableRows: the plain statement that it comes to, and the walk over that; no condition beyond the theorem's own. -/
import Derived.Test.YtlabpabnddfllaaTableK
import Derived.Test.YtlabpabnddfllaaPTablex12
namespace Go.Proofs.Ytlabpabnddfllaa.PTable
open Go.RowKit Go.Proofs.YtlabpabnddfllaaW.PrintWords Go.Proofs.YtlabpabnddfllaaW.PrintLast Go.Proofs.YtlabpabnddfllaaW.PrintMore
attribute [local go_sem] max2_int min2_int max_two min_two max_three min_three max_four min_four   -- for this text's walks alone
set_option linter.unusedVariables false
set_option linter.unusedSimpArgs false

/-- What is to be shown of boarderlaw12_TableRows, with no program in sight. -/
def boarderlaw12_TableRows.Pure : Prop := ∀ (l0 : List (S43)), ((fun xs : List (S43) => xs.length ≤ maxLen ∧ ∀ x ∈ xs, ok43 x)) l0 → ∃ k, boarderlaw12_TableRows.f k l0 = some true
theorem boarderlaw12_TableRows.walk (P : boarderlaw12_TableRows.Pure) (A0 : Option Addr) (c0 : Nat) (l0 : List (S43)) (w : World) (ok_0 : ((fun xs : List (S43) => xs.length ≤ maxLen ∧ ∀ x ∈ xs, ok43 x)) l0) (hr0 : Kd.C k43 w A0 l0.length l0) (hc0 : l0.length ≤ c0) :
    Calls Try.prog 11 #[.slice A0 l0.length c0] w fun e w' => e = .returned (.bool true) ∧ Below w.heap.size w w' := by
  obtain ⟨k, h⟩ := P l0 ok_0
  refine (boarderlaw12_TableRows.calls k A0 c0 l0 true w hr0 hc0 h).mono ?_
  rintro e w' ⟨rfl, hd⟩
  exact ⟨rfl, hd⟩
end Go.Proofs.Ytlabpabnddfllaa.PTable
