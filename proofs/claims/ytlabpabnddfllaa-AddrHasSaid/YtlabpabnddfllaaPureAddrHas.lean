/- The law AddrHas holds of the printed functions: a prefix has just the addresses from its base to its last one; no condition beyond the law's own. -/
import Derived.Test.YtlabpabnddfllaaPAddrx5
import Derived.Test.YtlabpabnddfllaaAddrS1
set_option linter.unusedVariables false
set_option linter.unusedSimpArgs false
namespace Go.Proofs.Ytlabpabnddfllaa.Pure
open Go.RowKit Go.Proofs.Ytlabpabnddfllaa.PAddr Go.Proofs.YtlabpabnddfllaaW.PrintWords Go.Proofs.YtlabpabnddfllaaW.PrintLast Go.Proofs.YtlabpabnddfllaaW.PrintMore

theorem AddrHas : boarderlaw01_AddrHas.Pure := by
  intro b n a hb hn ha
  refine ⟨400, ?_⟩
  unfold boarderlaw01_AddrHas.f
  rw [addr_Has_s, addr_Last_s, boarderref01_Has_s b n a _ (by omega), boarderlaw01_knows_s _ (by omega)]
  simp only [Option.bind_some]
  by_cases hf : Com.fairB b n = true
  · rw [if_pos hf]
    unfold Com.hasB
    rw [hf, Bool.true_and]
    by_cases h1 : b ≤ a
    · by_cases h2 : a < b + Com.sz n
      · simp [h1, h2, show a ≤ b + (Com.sz n : Int) - 1 from by omega]
      · simp [h1, h2, show ¬ a ≤ b + (Com.sz n : Int) - 1 from by omega]
    · simp [h1]
  · rw [if_neg hf]
    unfold Com.hasB
    rw [Bool.eq_false_iff.2 hf]
    simp

end Go.Proofs.Ytlabpabnddfllaa.Pure
