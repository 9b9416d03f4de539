/- The law ConfChecks: the plain statement that it comes to, and the walk over that; no condition beyond the theorem's own. -/
import Derived.Test.YtdcabfonjmeajaaConfK
import Derived.Test.YtdcabfonjmeajaaPConfx14
namespace Go.Proofs.Ytdcabfonjmeajaa.PConf
open Go.RowKit Go.Proofs.YtdcabfonjmeajaaW.PrintWords Go.Proofs.YtdcabfonjmeajaaW.PrintLast Go.Proofs.YtdcabfonjmeajaaW.PrintMore
attribute [local go_sem] max2_int min2_int max_two min_two max_three min_three max_four min_four   -- for this text's walks alone
set_option linter.unusedVariables false
set_option linter.unusedSimpArgs false

/-- What is to be shown of boarderlaw13_ConfChecks, with no program in sight. -/
def boarderlaw13_ConfChecks.Pure : Prop := ∀ (a0_0 : Int) (a0_1 : Int) (l0_2 : List (S41)), ok24 (⟨a0_0, a0_1, l0_2⟩ : S24) → ∃ k, boarderlaw13_ConfChecks.f k a0_0 a0_1 l0_2 = some true
theorem boarderlaw13_ConfChecks.walk (P : boarderlaw13_ConfChecks.Pure) (a0_0 : Int) (a0_1 : Int) (A0_2 : Option Addr) (c0_2 : Nat) (l0_2 : List (S41)) (w : World) (ok_0 : ok24 (⟨a0_0, a0_1, l0_2⟩ : S24)) (hr0_2 : Kd.C k41 w A0_2 l0_2.length l0_2) (hc0_2 : l0_2.length ≤ c0_2) :
    Calls Try.prog 3 #[.agg #[.int .i64 a0_0, .int .i64 a0_1, .slice A0_2 l0_2.length c0_2]] w fun e w' => e = .returned (.bool true) ∧ Below w.heap.size w w' := by
  obtain ⟨k, h⟩ := P a0_0 a0_1 l0_2 ok_0
  refine (boarderlaw13_ConfChecks.calls k a0_0 a0_1 A0_2 c0_2 l0_2 true w hr0_2 hc0_2 h).mono ?_
  rintro e w' ⟨rfl, hd⟩
  exact ⟨rfl, hd⟩
end Go.Proofs.Ytdcabfonjmeajaa.PConf
