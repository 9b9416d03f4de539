/- The law ConfKeeps: the plain statement that it comes to, and the walk over that; no condition beyond the theorem's own. -/
import Derived.Test.YtdcabfonjmeajaaConfK
import Derived.Test.YtdcabfonjmeajaaPConfx17
namespace Go.Proofs.Ytdcabfonjmeajaa.PConf
open Go.RowKit Go.Proofs.YtdcabfonjmeajaaW.PrintWords Go.Proofs.YtdcabfonjmeajaaW.PrintLast Go.Proofs.YtdcabfonjmeajaaW.PrintMore
attribute [local go_sem] max2_int min2_int max_two min_two max_three min_three max_four min_four   -- for this text's walks alone
set_option linter.unusedVariables false
set_option linter.unusedSimpArgs false

/-- What is to be shown of boarderlaw13_ConfKeeps, with no program in sight. -/
def boarderlaw13_ConfKeeps.Pure : Prop := ∀ (a0_0 : Int) (a0_1 : Int) (l0_2 : List (S41)) (a1 : Int) (a2 : Int) (a3 : ByteArray), ok24 (⟨a0_0, a0_1, l0_2⟩ : S24) → (Lit.int .i64 a1).wf = true → (Lit.int .i64 a2).wf = true → a3.size ≤ 140737488351232 → ∃ k, boarderlaw13_ConfKeeps.f k a0_0 a0_1 l0_2 a1 a2 a3 = some true
theorem boarderlaw13_ConfKeeps.walk (P : boarderlaw13_ConfKeeps.Pure) (a0_0 : Int) (a0_1 : Int) (A0_2 : Option Addr) (c0_2 : Nat) (l0_2 : List (S41)) (a1 : Int) (a2 : Int) (a3 : ByteArray) (w : World) (ok_0 : ok24 (⟨a0_0, a0_1, l0_2⟩ : S24)) (w1 : (Lit.int .i64 a1).wf = true) (w2 : (Lit.int .i64 a2).wf = true) (w3 : a3.size ≤ 140737488351232) (hr0_2 : Kd.C k41 w A0_2 l0_2.length l0_2) (hc0_2 : l0_2.length ≤ c0_2) :
    Calls Try.prog 4 #[.agg #[.int .i64 a0_0, .int .i64 a0_1, .slice A0_2 l0_2.length c0_2], .int .i64 a1, .int .i64 a2, .string a3] w fun e w' => e = .returned (.bool true) ∧ Below w.heap.size w w' := by
  obtain ⟨k, h⟩ := P a0_0 a0_1 l0_2 a1 a2 a3 ok_0 w1 w2 w3
  refine (boarderlaw13_ConfKeeps.calls k a0_0 a0_1 A0_2 c0_2 l0_2 a1 a2 a3 true w hr0_2 hc0_2 h).mono ?_
  rintro e w' ⟨rfl, hd⟩
  exact ⟨rfl, hd⟩
end Go.Proofs.Ytdcabfonjmeajaa.PConf
