/- The law AddrBack holds of the printed functions: an address's text is read as it, and what is read has that text alone; no condition beyond the law's own. -/
import Derived.Test.YtlabpabnddfllaaPAddrx3
import Derived.Test.YtlabpabnddfllaaAddrS1
set_option linter.unusedVariables false
set_option linter.unusedSimpArgs false
namespace Go.Proofs.Ytlabpabnddfllaa.Pure
open Go.RowKit Go.Proofs.Ytlabpabnddfllaa.PAddr Go.Proofs.YtlabpabnddfllaaW.PrintWords Go.Proofs.YtlabpabnddfllaaW.PrintLast Go.Proofs.YtlabpabnddfllaaW.PrintMore

theorem AddrBack : boarderlaw01_AddrBack.Pure := by
  intro a s ha hs
  have hj : boarderlaw01_AddrBack.j0 301 s = some true := by
    rw [boarderlaw01_AddrBack.j0, boarderlaw01_knows_s _ (by omega), addr_Parse_s]
    by_cases h : (s.size : Int) > 1000
    · rw [if_pos h]; rfl
    · rw [if_neg h]
      simp only [Option.bind_some]
      rcases Com.addrGo_start s.toList with ⟨e, _⟩ | ⟨r, hr, e, ht⟩
      · rw [e]; simp
      · rw [e, if_pos rfl, addr_Text_s r hr 300 (by omega)]
        simp [Com.strOfNums_toList, ht, Com.textB]
  refine ⟨301, ?_⟩
  unfold boarderlaw01_AddrBack.f
  by_cases h : 0 ≤ a ∧ a ≤ 4294967295
  · obtain ⟨x, rfl⟩ := Int.eq_ofNat_of_zero_le h.1
    rw [addr_Text_s x (by omega) 301 (by omega)]
    simp only [Option.bind_some]
    rw [if_pos trivial, addr_Parse_s, Com.strOfNums_toList]
    simp only [Option.bind_some]
    rw [show Com.addrGo (Com.bys (Com.textI x)) 0 0 0 0 = ((x : Int), 0) from Com.addrGo_text x (by omega), if_pos rfl, if_pos rfl]
    exact hj
  · rw [addr_Text_no a h]
    simp only [Option.bind_some]
    rw [if_neg (by omega)]
    exact hj

end Go.Proofs.Ytlabpabnddfllaa.Pure
