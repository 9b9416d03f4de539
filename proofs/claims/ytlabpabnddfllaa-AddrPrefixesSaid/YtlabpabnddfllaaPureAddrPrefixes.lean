/- The law AddrPrefixes holds of the printed functions: which prefixes are right, their masks and last addresses are the document's; no condition beyond the law's own. -/
import Derived.Test.YtlabpabnddfllaaPAddrx4
import Derived.Test.YtlabpabnddfllaaAddrS1
set_option linter.unusedVariables false
set_option linter.unusedSimpArgs false
namespace Go.Proofs.Ytlabpabnddfllaa.Pure
open Go.RowKit Go.Proofs.Ytlabpabnddfllaa.PAddr Go.Proofs.YtlabpabnddfllaaW.PrintWords Go.Proofs.YtlabpabnddfllaaW.PrintLast Go.Proofs.YtlabpabnddfllaaW.PrintMore

theorem AddrPrefixes : boarderlaw01_AddrPrefixes.Pure := by
  intro b n hb hn
  refine ⟨400, ?_⟩
  have K : ∀ k, 300 ≤ k → boarderlaw01_knows.f k = some true := boarderlaw01_knows_s
  unfold boarderlaw01_AddrPrefixes.f
  rw [addr_Fair_s, boarderref01_Fair_s b n _ (by omega), addr_Mask_s, addr_Last_s]
  simp only [Option.bind_some]
  have hout : ¬ (0 ≤ n ∧ n ≤ 32) → Com.fairB b n = false := fun h => Bool.eq_false_iff.2 fun hf => h ⟨((Com.fairB_iff b n).1 hf).1, ((Com.fairB_iff b n).1 hf).2.1⟩
  by_cases h : 0 ≤ n ∧ n ≤ 32
  · have hj : boarderlaw01_AddrPrefixes.j0 400 b n (4294967296 - (Com.sz n : Int)) 0 (if Com.fairB b n = true then (b + (Com.sz n : Int) - 1, (0 : Int)) else (0, 1)).1 (if Com.fairB b n = true then (b + (Com.sz n : Int) - 1, (0 : Int)) else (0, 1)).2 false = some true := by
      rw [show (400 : Nat) = 399 + 1 from rfl, boarderlaw01_AddrPrefixes.j0, if_neg (by simp), boarderref01_Mask_s n h.1 h.2 399 (by omega)]
      simp only [Option.bind_some]
      rw [if_pos trivial, show (399 : Nat) = 398 + 1 from rfl, boarderlaw01_AddrPrefixes.j1, if_neg (by simp), boarderref01_Fair_s b n 398 (by omega), K 398 (by omega)]
      simp only [Option.bind_some]
      by_cases hf : Com.fairB b n = true
      · rw [if_pos hf, if_pos hf, boarderref01_Last_s b n hf 398 (by omega)]
        simp
      · rw [if_neg hf, if_neg hf]
        simp
    have hj2 : boarderlaw01_AddrPrefixes.j2 400 b n (4294967296 - (Com.sz n : Int)) 0 (if Com.fairB b n = true then (b + (Com.sz n : Int) - 1, (0 : Int)) else (0, 1)).1 (if Com.fairB b n = true then (b + (Com.sz n : Int) - 1, (0 : Int)) else (0, 1)).2 false = some true := by
      rw [show (400 : Nat) = 399 + 1 from rfl, boarderlaw01_AddrPrefixes.j2, if_neg (by simp), boarderref01_Mask_s n h.1 h.2 399 (by omega)]
      simp only [Option.bind_some]
      rw [if_pos trivial, show (399 : Nat) = 398 + 1 from rfl, boarderlaw01_AddrPrefixes.j3, if_neg (by simp), boarderref01_Fair_s b n 398 (by omega), K 398 (by omega)]
      simp only [Option.bind_some]
      by_cases hf : Com.fairB b n = true
      · rw [if_pos hf, if_pos hf, boarderref01_Last_s b n hf 398 (by omega)]
        simp
      · rw [if_neg hf, if_neg hf]
        simp
    rw [if_pos h]
    cases hq : Com.fairB b n <;> rw [hq] at hj hj2 <;> simp at hj hj2 ⊢ <;> rw [if_neg (by omega), decide_eq_false (by omega)] <;> first | exact hj | exact hj2
  · rw [if_neg h, hout h]
    have hj : boarderlaw01_AddrPrefixes.j2 400 b n 0 1 0 1 true = some true := by
      rw [show (400 : Nat) = 399 + 1 from rfl, boarderlaw01_AddrPrefixes.j2, if_pos rfl, K 399 (by omega)]
      simp
    by_cases h0 : n < 0
    · simp [h0, hj]
    · simp [h0, show n > 32 from by omega, hj]

end Go.Proofs.Ytlabpabnddfllaa.Pure
