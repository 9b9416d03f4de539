/- The law TableSays: the plain statement that it comes to, and the walk over that; no condition beyond the theorem's own. -/
import Derived.Test.YtlabpabnddfllaaTableK
import Derived.Test.YtlabpabnddfllaaPTablex13
namespace Go.Proofs.Ytlabpabnddfllaa.PTable
open Go.RowKit Go.Proofs.YtlabpabnddfllaaW.PrintWords Go.Proofs.YtlabpabnddfllaaW.PrintLast Go.Proofs.YtlabpabnddfllaaW.PrintMore
attribute [local go_sem] max2_int min2_int max_two min_two max_three min_three max_four min_four   -- for this text's walks alone
set_option linter.unusedVariables false
set_option linter.unusedSimpArgs false

/-- What is to be shown of boarderlaw12_TableSays, with no program in sight. -/
def boarderlaw12_TableSays.Pure : Prop := ∀ (l0 : List (S43)) (a1_0 : Int) (a1_1 : Int) (a1_2 : Int) (a1_3 : ByteArray) (a2 : Int) (a3 : ByteArray) (a4 : Int), ((fun xs : List (S43) => xs.length ≤ maxLen ∧ ∀ x ∈ xs, ok43 x)) l0 → ok43 (⟨a1_0, a1_1, a1_2, a1_3⟩ : S43) → (Lit.int .i64 a2).wf = true → a3.size ≤ 140737488351232 → (Lit.int .i64 a4).wf = true → ∃ k, boarderlaw12_TableSays.f k l0 a1_0 a1_1 a1_2 a1_3 a2 a3 a4 = some true
theorem boarderlaw12_TableSays.walk (P : boarderlaw12_TableSays.Pure) (A0 : Option Addr) (c0 : Nat) (l0 : List (S43)) (a1_0 : Int) (a1_1 : Int) (a1_2 : Int) (a1_3 : ByteArray) (a2 : Int) (a3 : ByteArray) (a4 : Int) (w : World) (ok_0 : ((fun xs : List (S43) => xs.length ≤ maxLen ∧ ∀ x ∈ xs, ok43 x)) l0) (ok_1 : ok43 (⟨a1_0, a1_1, a1_2, a1_3⟩ : S43)) (w2 : (Lit.int .i64 a2).wf = true) (w3 : a3.size ≤ 140737488351232) (w4 : (Lit.int .i64 a4).wf = true) (hr0 : Kd.C k43 w A0 l0.length l0) (hc0 : l0.length ≤ c0) :
    Calls Try.prog 13 #[.slice A0 l0.length c0, .agg #[.int .i64 a1_0, .int .i64 a1_1, .int .i64 a1_2, .string a1_3], .int .i64 a2, .string a3, .int .i64 a4] w fun e w' => e = .returned (.bool true) ∧ Below w.heap.size w w' := by
  obtain ⟨k, h⟩ := P l0 a1_0 a1_1 a1_2 a1_3 a2 a3 a4 ok_0 ok_1 w2 w3 w4
  refine (boarderlaw12_TableSays.calls k A0 c0 l0 a1_0 a1_1 a1_2 a1_3 a2 a3 a4 true w hr0 hc0 h).mono ?_
  rintro e w' ⟨rfl, hd⟩
  exact ⟨rfl, hd⟩
end Go.Proofs.Ytlabpabnddfllaa.PTable
