/- The law TableBack: the plain statement that it comes to, and the walk over that; no condition beyond the theorem's own. -/
import Derived.Test.YtlabpabnddfllaaTableK
import Derived.Test.YtlabpabnddfllaaPTablex10
namespace Go.Proofs.Ytlabpabnddfllaa.PTable
open Go.RowKit Go.Proofs.YtlabpabnddfllaaW.PrintWords Go.Proofs.YtlabpabnddfllaaW.PrintLast Go.Proofs.YtlabpabnddfllaaW.PrintMore
attribute [local go_sem] max2_int min2_int max_two min_two max_three min_three max_four min_four   -- for this text's walks alone
set_option linter.unusedVariables false
set_option linter.unusedSimpArgs false

/-- What is to be shown of boarderlaw12_TableBack, with no program in sight. -/
def boarderlaw12_TableBack.Pure : Prop := ∀ (l0 : List (S43)) (a1_0 : Int) (a1_1 : Int) (a1_2 : Int) (a1_3 : ByteArray) (a2 : Int), ((fun xs : List (S43) => xs.length ≤ maxLen ∧ ∀ x ∈ xs, ok43 x)) l0 → ok43 (⟨a1_0, a1_1, a1_2, a1_3⟩ : S43) → (Lit.int .i64 a2).wf = true → ∃ k, boarderlaw12_TableBack.f k l0 a1_0 a1_1 a1_2 a1_3 a2 = some true
theorem boarderlaw12_TableBack.walk (P : boarderlaw12_TableBack.Pure) (A0 : Option Addr) (c0 : Nat) (l0 : List (S43)) (a1_0 : Int) (a1_1 : Int) (a1_2 : Int) (a1_3 : ByteArray) (a2 : Int) (w : World) (ok_0 : ((fun xs : List (S43) => xs.length ≤ maxLen ∧ ∀ x ∈ xs, ok43 x)) l0) (ok_1 : ok43 (⟨a1_0, a1_1, a1_2, a1_3⟩ : S43)) (w2 : (Lit.int .i64 a2).wf = true) (hr0 : Kd.C k43 w A0 l0.length l0) (hc0 : l0.length ≤ c0) :
    Calls Try.prog 10 #[.slice A0 l0.length c0, .agg #[.int .i64 a1_0, .int .i64 a1_1, .int .i64 a1_2, .string a1_3], .int .i64 a2] w fun e w' => e = .returned (.bool true) ∧ Below w.heap.size w w' := by
  obtain ⟨k, h⟩ := P l0 a1_0 a1_1 a1_2 a1_3 a2 ok_0 ok_1 w2
  refine (boarderlaw12_TableBack.calls k A0 c0 l0 a1_0 a1_1 a1_2 a1_3 a2 true w hr0 hc0 h).mono ?_
  rintro e w' ⟨rfl, hd⟩
  exact ⟨rfl, hd⟩
end Go.Proofs.Ytlabpabnddfllaa.PTable
