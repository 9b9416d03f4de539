/- The law AddrMeet holds of the printed functions: which prefixes meet is what the document says, and of two that meet one has all of the other; no condition beyond the law's own. -/
import Derived.Test.YtlabpabnddfllaaPAddrx5
import Derived.Test.YtlabpabnddfllaaAddrS1
set_option linter.unusedVariables false
set_option linter.unusedSimpArgs false
namespace Go.Proofs.Ytlabpabnddfllaa.Pure
open Go.RowKit Go.Proofs.Ytlabpabnddfllaa.PAddr Go.Proofs.YtlabpabnddfllaaW.PrintWords Go.Proofs.YtlabpabnddfllaaW.PrintLast Go.Proofs.YtlabpabnddfllaaW.PrintMore

theorem meetB_comm (b n c m : Int) : meetB b n c m = meetB c m b n := by
  unfold meetB
  cases Com.fairB b n <;> cases Com.fairB c m <;> cases decide (b ≤ c ∧ c < b + Com.sz n) <;> cases decide (c ≤ b ∧ b < c + Com.sz m) <;> rfl
theorem AddrMeet : boarderlaw01_AddrMeet.Pure := by
  intro b n c m hb hn hc hm
  refine ⟨400, ?_⟩
  unfold boarderlaw01_AddrMeet.f
  rw [addr_Meet_s, addr_Meet_s, boarderref01_Meet_s b n c m _ (by omega), meetB_comm c m b n]
  simp only [Option.bind_some]
  have hj : boarderlaw01_AddrMeet.j0 400 b n c m (meetB b n c m) false = some true := by
    rw [show (400 : Nat) = 399 + 1 from rfl, boarderlaw01_AddrMeet.j0, if_neg (by simp), boarderlaw01_knows_s _ (by omega)]
    by_cases h : meetB b n c m = true
    · rw [if_pos h, addr_Last_s, addr_Last_s]
      unfold meetB at h
      rw [Bool.and_eq_true, Bool.and_eq_true] at h
      obtain ⟨f1, f2, h3⟩ := h
      rw [if_pos f1, if_pos f2]
      simp only [Option.bind_some]
      rw [addr_Has_s, addr_Has_s, addr_Has_s, addr_Has_s]
      simp only [Option.bind_some]
      have p1 := Com.sz_pos n
      have p2 := Com.sz_pos m
      rw [Bool.or_eq_true, decide_eq_true_iff, decide_eq_true_iff] at h3
      by_cases hnm : n ≤ m
      · have t := Com.fair_two b n c m f1 f2 hnm
        rw [if_pos hnm]
        have x1 : Com.hasB b n c = true := by unfold Com.hasB; rw [f1, Bool.true_and, decide_eq_true_iff]; omega
        have x2 : Com.hasB b n (c + (Com.sz m : Int) - 1) = true := by unfold Com.hasB; rw [f1, Bool.true_and, decide_eq_true_iff]; omega
        rw [x1, x2]; rfl
      · have t := Com.fair_two c m b n f2 f1 (by omega)
        rw [if_neg hnm]
        have x1 : Com.hasB c m b = true := by unfold Com.hasB; rw [f2, Bool.true_and, decide_eq_true_iff]; omega
        have x2 : Com.hasB c m (b + (Com.sz n : Int) - 1) = true := by unfold Com.hasB; rw [f2, Bool.true_and, decide_eq_true_iff]; omega
        rw [x1, x2]; rfl
    · rw [if_neg h]; rfl
  cases h : meetB b n c m <;> rw [h] at hj <;> simp [hj]

end Go.Proofs.Ytlabpabnddfllaa.Pure
