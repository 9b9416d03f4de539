/- The law AddrParses holds of the printed functions: every text is read as the document says, or the error is told; no condition beyond the law's own. -/
import Derived.Test.YtlabpabnddfllaaPAddrx3
import Derived.Test.YtlabpabnddfllaaAddrS1
set_option linter.unusedVariables false
set_option linter.unusedSimpArgs false
namespace Go.Proofs.Ytlabpabnddfllaa.Pure
open Go.RowKit Go.Proofs.Ytlabpabnddfllaa.PAddr Go.Proofs.YtlabpabnddfllaaW.PrintWords Go.Proofs.YtlabpabnddfllaaW.PrintLast Go.Proofs.YtlabpabnddfllaaW.PrintMore

theorem AddrParses : boarderlaw01_AddrParses.Pure := by
  intro s hs
  refine ⟨2 * s.size + 301, ?_⟩
  unfold boarderlaw01_AddrParses.f
  rw [boarderlaw01_knows_s _ (by omega), addr_Parse_s, boarderref01_Parse_s s hs _ (by omega)]
  by_cases h : (s.size : Int) > 1000
  · rw [if_pos h]; rfl
  · rw [if_neg h]
    simp only [Option.bind_some]
    rcases Com.addrGo_start s.toList with ⟨e, _⟩ | ⟨r, hr, e, _⟩
    · rw [e]; simp
    · rw [e]; simp

end Go.Proofs.Ytlabpabnddfllaa.Pure
