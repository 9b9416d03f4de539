/- The law AddrTexts holds of the printed functions: for every number the program's text of an address is the document's, or the error is told; no condition beyond the law's own. -/
import Derived.Test.YtlabpabnddfllaaPAddrx2
import Derived.Test.YtlabpabnddfllaaAddrS1
set_option linter.unusedVariables false
set_option linter.unusedSimpArgs false
namespace Go.Proofs.Ytlabpabnddfllaa.Pure
open Go.RowKit Go.Proofs.Ytlabpabnddfllaa.PAddr Go.Proofs.YtlabpabnddfllaaW.PrintWords Go.Proofs.YtlabpabnddfllaaW.PrintLast Go.Proofs.YtlabpabnddfllaaW.PrintMore

theorem AddrTexts : boarderlaw01_AddrTexts.Pure := by
  intro a ha
  refine ⟨300, ?_⟩
  unfold boarderlaw01_AddrTexts.f
  rw [addr_Right_s, boarderref01_Right_s, boarderlaw01_knows_s 300 (by omega)]
  by_cases h : 0 ≤ a ∧ a ≤ 4294967295
  · obtain ⟨x, rfl⟩ := Int.eq_ofNat_of_zero_le h.1
    obtain ⟨t, ht, ht2⟩ := boarderref01_Text_s x (by omega) 300 (by omega)
    rw [addr_Text_s x (by omega) 300 (by omega), ht, decide_eq_true h]
    simp [Com.strOfNums_toList, ht2, Com.textB]
  · rw [addr_Text_no a h, decide_eq_false h]
    simp [ByteArray.toList_eq]

end Go.Proofs.Ytlabpabnddfllaa.Pure
