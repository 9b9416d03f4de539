/- Lean functions for Go functions of the given program, and proofs that the code computes them, each under its theorem's own conditions. Written by a program of this session. -/
import Derived.Test.YtdajdpgnhjlbaaaDoorPLeasex0
namespace Go.Proofs.YtdajdpgnhjlbaaaDoor.PLease
open Go.RowKit Go.Proofs.YtdajdpgnhjlbaaaDoorW.PrintWords Go.Proofs.YtdajdpgnhjlbaaaDoorW.PrintLast Go.Proofs.YtdajdpgnhjlbaaaDoorW.PrintMore
attribute [local go_sem] max2_int min2_int max_two min_two max_three min_three max_four min_four   -- for this text's walks alone
set_option linter.unusedVariables false
set_option linter.unusedSimpArgs false

/-! ### boarderlaw12_Great: function 18 -/
def boarderlaw12_Great.l0 : Nat → List (S23) → Int → Option (Bool)
  | 0, _, _ => none
  | k + 1, x0, x3 => if x3 < (x0.length : Int) then (if 0 ≤ x3 then (if (((rd_T23 x0 x3).f3).size : Int) > 1000 then (some true) else (boarderlaw12_Great.l0 k x0 (wrap64 (x3 + 1)))) else (none)) else (some (decide ((x0.length : Int) > 200)))
def boarderlaw12_Great.f (k : Nat) (l0 : List (S23)) : Option (Bool) := boarderlaw12_Great.l0 k l0 0
set_option maxHeartbeats 8000000 in
set_option maxRecDepth 100000 in
theorem boarderlaw12_Great.calls (k : Nat) (A0 : Option Addr) (c0 : Nat) (l0 : List (S23)) (r : Bool) (w : World) (hr0 : Kd.C k23 w A0 l0.length l0) (hc0 : l0.length ≤ c0) (h : boarderlaw12_Great.f k l0 = some r) :
    Calls Tryd.prog 18 #[.slice A0 l0.length c0] w fun e w' => e = .returned (.bool r) ∧ Drawn0 w w' := by
 have HR0 := Aside0.mk hr0
 have HC0 := Aside0.mk hc0
 clear hr0 hc0
 have H : (boarderlaw12_Great.l0 k l0 0) = some r := h
 clear h
 have H' := Aside0.mk H
 clear H
 go_enter Tryd.func18, Tryd.ntmps18
 go_wp2
 go_loopg [3] k (fun kq v3 w' => ∃ (x3_1 : Int), v3 = .int .i64 x3_1 ∧ Aside0 (boarderlaw12_Great.l0 kq l0 x3_1 = some r) ∧ Aside0 (kq ≤ k) ∧ Drawn0 w w')
 case atStart => exact ⟨(0), sqI, H', ⟨Nat.le_refl _⟩, sqD⟩
 clear H'
 try clear c1
 obtain ⟨x3_1, rfl, HA, HK1, ⟨m1, rfl⟩⟩ := hrel
 cases gk with
 | zero => exact absurd HA.out (by simp [boarderlaw12_Great.l0])
 | succ k1 => ?_
 have H := HA.out
 clear HA
 simp only [boarderlaw12_Great.l0] at H
 by_cases c2 : x3_1 < (l0.length : Int)
 rotate_left
 · rw [if_neg c2] at H
   have c2b0 : decide (x3_1 < (l0.length : Int)) = false := decide_eq_false c2
   clear c2
   obtain rfl := Option.some.inj H
   go_wp2
   go_ret
   exact ⟨sqI, sqD⟩
 rw [if_pos c2] at H
 have c2b0 : decide (x3_1 < (l0.length : Int)) = true := decide_eq_true c2
 clear c2
 by_cases c3 : 0 ≤ x3_1
 rotate_left
 · rw [if_neg c3] at H
   exact absurd H (by simp)
 rw [if_pos c3] at H
 have c3b0 : decide (0 ≤ x3_1) = true := decide_eq_true c3
 clear c3
 by_cases c4 : (((rd_T23 l0 x3_1).f3).size : Int) > 1000
 · rw [if_pos c4] at H
   have c4b0 : decide (1000 < (((rd_T23 l0 x3_1).f3).size : Int)) = true := decide_eq_true c4
   have c4b1 : decide (1000 < ((rd_T23 l0 x3_1).f3).size) = true := decide_eq_true (by omega)
   clear c4
   obtain rfl := Option.some.inj H
   have p372 : 0 ≤ (x3_1 : Int) := of_decide_eq_true sqH
   have q372 : x3_1 < (l0.length : Int) := of_decide_eq_true sqH
   obtain ⟨ad372, e372, hx372_0, hx372_1, hx372_2, hx372_3⟩ := at_T23 HR0.out x3_1 p372 q372
   cases e372
   replace p372 := eq_true p372
   replace q372 := eq_true q372
   go_wp2
   go_ret
   exact ⟨sqI, sqD⟩
 rw [if_neg c4] at H
 have c4b0 : decide (1000 < (((rd_T23 l0 x3_1).f3).size : Int)) = false := decide_eq_false c4
 have c4b1 : decide (1000 < ((rd_T23 l0 x3_1).f3).size) = false := decide_eq_false (by omega)
 clear c4
 have H' := Aside0.mk H
 clear H
 have p372 : 0 ≤ (x3_1 : Int) := of_decide_eq_true sqH
 have q372 : x3_1 < (l0.length : Int) := of_decide_eq_true sqH
 obtain ⟨ad372, e372, hx372_0, hx372_1, hx372_2, hx372_3⟩ := at_T23 HR0.out x3_1 p372 q372
 cases e372
 replace p372 := eq_true p372
 replace q372 := eq_true q372
 go_wp2
 go_roundg k1
 case measure => have := HK1.out; omega
 case rel => exact ⟨(wrap64 (x3_1 + 1)), sqI, H', ⟨by have := HK1.out; omega⟩, sqD⟩

end Go.Proofs.YtdajdpgnhjlbaaaDoor.PLease
