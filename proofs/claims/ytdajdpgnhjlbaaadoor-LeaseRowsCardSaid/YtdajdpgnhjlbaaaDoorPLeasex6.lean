/- Lean functions for Go functions of the given program, and proofs that the code computes them, each under its theorem's own conditions. Written by a program of this session. -/
import Derived.Test.YtdajdpgnhjlbaaaDoorPLeasex0
namespace Go.Proofs.YtdajdpgnhjlbaaaDoor.PLease
open Go.RowKit Go.Proofs.YtdajdpgnhjlbaaaDoorW.PrintWords Go.Proofs.YtdajdpgnhjlbaaaDoorW.PrintLast Go.Proofs.YtdajdpgnhjlbaaaDoorW.PrintMore
attribute [local go_sem] max2_int min2_int max_two min_two max_three min_three max_four min_four   -- for this text's walks alone
set_option linter.unusedVariables false
set_option linter.unusedSimpArgs false

/-! ### boarderref01_Right: function 37 -/
def boarderref01_Right.f (a0 : Int) : Option (Bool) := if a0 ≥ 0 then (some (decide (a0 < 4294967296))) else (some false)
set_option maxHeartbeats 8000000 in
set_option maxRecDepth 100000 in
theorem boarderref01_Right.calls (a0 : Int) (r : Bool) (w : World) (h : boarderref01_Right.f a0 = some r) :
    Calls Tryd.prog 37 #[.int .i64 a0] w fun e w' => e = .returned (.bool r) ∧ Drawn0 w w' := by
 have H : (if a0 ≥ 0 then (some (decide (a0 < 4294967296))) else (some false)) = some r := h
 clear h
 by_cases c2 : a0 ≥ 0
 · rw [if_pos c2] at H
   have c2b0 : decide (0 ≤ a0) = true := decide_eq_true c2
   clear c2
   obtain rfl := Option.some.inj H
   go_enter Tryd.func37, Tryd.ntmps37
   go_wp2
   go_ret
   exact ⟨sqI, sqD⟩
 rw [if_neg c2] at H
 have c2b0 : decide (0 ≤ a0) = false := decide_eq_false c2
 clear c2
 obtain rfl := Option.some.inj H
 go_enter Tryd.func37, Tryd.ntmps37
 go_wp2
 go_ret
 exact ⟨sqI, sqD⟩

/-! ### boarderref07_Right: function 38 -/
def boarderref07_Right.f (a0 : ByteArray) : Option (Bool) := if (a0.size : Int) < 3 then (some false) else (if 0 < (a0.size : Int) then (if (bt a0 0) = 105 then (if (a0.size : Int) ≤ 256 then (some true) else (if (bt a0 0) = 104 then (some (decide ((a0.size : Int) ≤ 18))) else (some false))) else (if (bt a0 0) = 104 then (some (decide ((a0.size : Int) ≤ 18))) else (some false))) else (none))
set_option maxHeartbeats 8000000 in
set_option maxRecDepth 100000 in
theorem boarderref07_Right.calls (a0 : ByteArray) (r : Bool) (w : World) (h : boarderref07_Right.f a0 = some r) :
    Calls Tryd.prog 38 #[.string a0] w fun e w' => e = .returned (.bool r) ∧ Drawn0 w w' := by
 have H : (if (a0.size : Int) < 3 then (some false) else (if 0 < (a0.size : Int) then (if (bt a0 0) = 105 then (if (a0.size : Int) ≤ 256 then (some true) else (if (bt a0 0) = 104 then (some (decide ((a0.size : Int) ≤ 18))) else (some false))) else (if (bt a0 0) = 104 then (some (decide ((a0.size : Int) ≤ 18))) else (some false))) else (none))) = some r := h
 clear h
 by_cases c2 : (a0.size : Int) < 3
 · rw [if_pos c2] at H
   have c2b0 : decide ((a0.size : Int) < 3) = true := decide_eq_true c2
   have c2b1 : decide (a0.size < 3) = true := decide_eq_true (by omega)
   clear c2
   obtain rfl := Option.some.inj H
   go_enter Tryd.func38, Tryd.ntmps38
   go_wp2
   go_ret
   exact ⟨sqI, sqD⟩
 rw [if_neg c2] at H
 have c2b0 : decide ((a0.size : Int) < 3) = false := decide_eq_false c2
 have c2b1 : decide (a0.size < 3) = false := decide_eq_false (by omega)
 clear c2
 by_cases c3 : 0 < (a0.size : Int)
 rotate_left
 · rw [if_neg c3] at H
   exact absurd H (by simp)
 rw [if_pos c3] at H
 have c3b0 : decide (0 < (a0.size : Int)) = true := decide_eq_true c3
 have c3b1 : decide (0 < a0.size) = true := decide_eq_true (by omega)
 clear c3
 by_cases c5 : (bt a0 0) = 105
 rotate_left
 · rw [if_neg c5] at H
   have c5b0 : ((bt a0 0) == 105) = false := beq_eq_false_iff_ne.mpr c5
   have c5b1 : ((bt a0 0) != 105) = true := bne_iff_ne.mpr c5
   by_cases c10 : (bt a0 0) = 104
   rotate_left
   · rw [if_neg c10] at H
     have c10b0 : ((bt a0 0) == 104) = false := beq_eq_false_iff_ne.mpr c10
     have c10b1 : ((bt a0 0) != 104) = true := bne_iff_ne.mpr c10
     obtain rfl := Option.some.inj H
     have p4 : 0 ≤ (0 : Int) := (by omega)
     have q4 : 0 < a0.size := (by have : (0 : Int) < (a0.size : Int) := of_decide_eq_true sqH; omega)
     have hx4 : ∀ h : 0 < a0.size, ((a0[0]'h).toNat : Int) = bt a0 0 := bt_at a0 0
     clear p4
     have qi4 : (0 < (a0.size : Int)) = True := eq_true (of_decide_eq_true sqH)
     replace q4 := eq_true q4
     have p9 : 0 ≤ (0 : Int) := (by omega)
     have q9 : 0 < a0.size := (by have : (0 : Int) < (a0.size : Int) := of_decide_eq_true sqH; omega)
     have hx9 : ∀ h : 0 < a0.size, ((a0[0]'h).toNat : Int) = bt a0 0 := bt_at a0 0
     clear p9
     have qi9 : (0 < (a0.size : Int)) = True := eq_true (of_decide_eq_true sqH)
     replace q9 := eq_true q9
     go_enter Tryd.func38, Tryd.ntmps38
     go_wp2
     go_ret
     exact ⟨sqI, sqD⟩
   rw [if_pos c10] at H
   have c10b0 : ((bt a0 0) == 104) = true := beq_iff_eq.mpr c10
   have c10b1 : ((bt a0 0) != 104) = false := bne_eq_false_iff_eq.mpr c10
   clear c10
   obtain rfl := Option.some.inj H
   have p4 : 0 ≤ (0 : Int) := (by omega)
   have q4 : 0 < a0.size := (by have : (0 : Int) < (a0.size : Int) := of_decide_eq_true sqH; omega)
   have hx4 : ∀ h : 0 < a0.size, ((a0[0]'h).toNat : Int) = bt a0 0 := bt_at a0 0
   clear p4
   have qi4 : (0 < (a0.size : Int)) = True := eq_true (of_decide_eq_true sqH)
   replace q4 := eq_true q4
   have p9 : 0 ≤ (0 : Int) := (by omega)
   have q9 : 0 < a0.size := (by have : (0 : Int) < (a0.size : Int) := of_decide_eq_true sqH; omega)
   have hx9 : ∀ h : 0 < a0.size, ((a0[0]'h).toNat : Int) = bt a0 0 := bt_at a0 0
   clear p9
   have qi9 : (0 < (a0.size : Int)) = True := eq_true (of_decide_eq_true sqH)
   replace q9 := eq_true q9
   go_enter Tryd.func38, Tryd.ntmps38
   go_wp2
   go_ret
   exact ⟨sqI, sqD⟩
 rw [if_pos c5] at H
 have c5b0 : ((bt a0 0) == 105) = true := beq_iff_eq.mpr c5
 have c5b1 : ((bt a0 0) != 105) = false := bne_eq_false_iff_eq.mpr c5
 clear c5
 by_cases c6 : (a0.size : Int) ≤ 256
 · rw [if_pos c6] at H
   have c6b0 : decide ((a0.size : Int) ≤ 256) = true := decide_eq_true c6
   have c6b1 : decide (a0.size ≤ 256) = true := decide_eq_true (by omega)
   clear c6
   obtain rfl := Option.some.inj H
   have p4 : 0 ≤ (0 : Int) := (by omega)
   have q4 : 0 < a0.size := (by have : (0 : Int) < (a0.size : Int) := of_decide_eq_true sqH; omega)
   have hx4 : ∀ h : 0 < a0.size, ((a0[0]'h).toNat : Int) = bt a0 0 := bt_at a0 0
   clear p4
   have qi4 : (0 < (a0.size : Int)) = True := eq_true (of_decide_eq_true sqH)
   replace q4 := eq_true q4
   go_enter Tryd.func38, Tryd.ntmps38
   go_wp2
   go_ret
   exact ⟨sqI, sqD⟩
 rw [if_neg c6] at H
 have c6b0 : decide ((a0.size : Int) ≤ 256) = false := decide_eq_false c6
 have c6b1 : decide (a0.size ≤ 256) = false := decide_eq_false (by omega)
 clear c6
 by_cases c8 : (bt a0 0) = 104
 rotate_left
 · rw [if_neg c8] at H
   have c8b0 : ((bt a0 0) == 104) = false := beq_eq_false_iff_ne.mpr c8
   have c8b1 : ((bt a0 0) != 104) = true := bne_iff_ne.mpr c8
   obtain rfl := Option.some.inj H
   have p4 : 0 ≤ (0 : Int) := (by omega)
   have q4 : 0 < a0.size := (by have : (0 : Int) < (a0.size : Int) := of_decide_eq_true sqH; omega)
   have hx4 : ∀ h : 0 < a0.size, ((a0[0]'h).toNat : Int) = bt a0 0 := bt_at a0 0
   clear p4
   have qi4 : (0 < (a0.size : Int)) = True := eq_true (of_decide_eq_true sqH)
   replace q4 := eq_true q4
   have p7 : 0 ≤ (0 : Int) := (by omega)
   have q7 : 0 < a0.size := (by have : (0 : Int) < (a0.size : Int) := of_decide_eq_true sqH; omega)
   have hx7 : ∀ h : 0 < a0.size, ((a0[0]'h).toNat : Int) = bt a0 0 := bt_at a0 0
   clear p7
   have qi7 : (0 < (a0.size : Int)) = True := eq_true (of_decide_eq_true sqH)
   replace q7 := eq_true q7
   go_enter Tryd.func38, Tryd.ntmps38
   go_wp2
   go_ret
   exact ⟨sqI, sqD⟩
 rw [if_pos c8] at H
 have c8b0 : ((bt a0 0) == 104) = true := beq_iff_eq.mpr c8
 have c8b1 : ((bt a0 0) != 104) = false := bne_eq_false_iff_eq.mpr c8
 clear c8
 obtain rfl := Option.some.inj H
 have p4 : 0 ≤ (0 : Int) := (by omega)
 have q4 : 0 < a0.size := (by have : (0 : Int) < (a0.size : Int) := of_decide_eq_true sqH; omega)
 have hx4 : ∀ h : 0 < a0.size, ((a0[0]'h).toNat : Int) = bt a0 0 := bt_at a0 0
 clear p4
 have qi4 : (0 < (a0.size : Int)) = True := eq_true (of_decide_eq_true sqH)
 replace q4 := eq_true q4
 have p7 : 0 ≤ (0 : Int) := (by omega)
 have q7 : 0 < a0.size := (by have : (0 : Int) < (a0.size : Int) := of_decide_eq_true sqH; omega)
 have hx7 : ∀ h : 0 < a0.size, ((a0[0]'h).toNat : Int) = bt a0 0 := bt_at a0 0
 clear p7
 have qi7 : (0 < (a0.size : Int)) = True := eq_true (of_decide_eq_true sqH)
 replace q7 := eq_true q7
 go_enter Tryd.func38, Tryd.ntmps38
 go_wp2
 go_ret
 exact ⟨sqI, sqD⟩

/-! ### boarderref09_Right: function 14 -/
def boarderref09_Right.f (a0_0 : Int) (a0_1 : Int) (a0_2 : Int) (a0_3 : ByteArray) : Option (Bool) := (boarderref01_Right.f a0_0).bind fun t264 => (if t264 = true then ((boarderref07_Right.f a0_3).bind fun t265 => (if t265 = true then (if a0_1 = 1 then (if a0_2 ≥ 0 then (some (decide (a0_2 ≤ 1125899906842624))) else (some false)) else (if a0_1 = 2 then (if a0_2 ≥ 0 then (some (decide (a0_2 ≤ 1125899906842624))) else (some false)) else (if a0_1 = 3 then (if a0_2 ≥ 0 then (some (decide (a0_2 ≤ 1125899906842624))) else (some false)) else (some false)))) else (some false))) else (some false))
set_option maxHeartbeats 8000000 in
set_option maxRecDepth 100000 in
theorem boarderref09_Right.calls (a0_0 : Int) (a0_1 : Int) (a0_2 : Int) (a0_3 : ByteArray) (r : Bool) (w : World) (h : boarderref09_Right.f a0_0 a0_1 a0_2 a0_3 = some r) :
    Calls Tryd.prog 14 #[.agg #[.int .i64 a0_0, .int .i64 a0_1, .int .i64 a0_2, .string a0_3]] w fun e w' => e = .returned (.bool r) ∧ Below w.heap.size w w' := by
 have hu23 := Tryd.underlying23
 have HB := Aside0.mk (Below.refl w.heap.size w)
 have H : ((boarderref01_Right.f a0_0).bind fun t264 => (if t264 = true then ((boarderref07_Right.f a0_3).bind fun t265 => (if t265 = true then (if a0_1 = 1 then (if a0_2 ≥ 0 then (some (decide (a0_2 ≤ 1125899906842624))) else (some false)) else (if a0_1 = 2 then (if a0_2 ≥ 0 then (some (decide (a0_2 ≤ 1125899906842624))) else (some false)) else (if a0_1 = 3 then (if a0_2 ≥ 0 then (some (decide (a0_2 ≤ 1125899906842624))) else (some false)) else (some false)))) else (some false))) else (some false))) = some r := h
 clear h
 replace H := Option.bind_eq_some_iff.mp H
 obtain ⟨t264, A20, H⟩ := H
 replace H : (if t264 = true then ((boarderref07_Right.f a0_3).bind fun t265 => (if t265 = true then (if a0_1 = 1 then (if a0_2 ≥ 0 then (some (decide (a0_2 ≤ 1125899906842624))) else (some false)) else (if a0_1 = 2 then (if a0_2 ≥ 0 then (some (decide (a0_2 ≤ 1125899906842624))) else (some false)) else (if a0_1 = 3 then (if a0_2 ≥ 0 then (some (decide (a0_2 ≤ 1125899906842624))) else (some false)) else (some false)))) else (some false))) else (some false)) = some r := H
 have A2 := Aside0.mk A20
 clear A20
 by_cases c3 : t264 = true
 rotate_left
 · replace c3 := Bool.eq_false_iff.mpr c3
   subst c3
   have H1 : (some false) = some r := by rw [if_neg (show ¬ (false = true) by decide)] at H; exact H
   clear H
   have H := H1
   clear H1
   obtain rfl := Option.some.inj H
   go_enter Tryd.func14, Tryd.ntmps14
   go_wp2_with (first | ((with_reducible refine gate_dst (N := 1) rfl ?_); refine box_event rfl (N := 1) rfl (cs := #[.int .i64 a0_0, .int .i64 a0_1, .int .i64 a0_2, .string a0_3]) (t := 23) sqs ?_; intro gb263 hg w28 hbox hb; have BK263 := sqM (hbox); have GW263 := sqM (sqZ hg (sqB HB.out)); have GE263 := sqM (sqZ hg (sqB HB.out)); replace HB := sqM (below_step (sqB HB.out) hb); clear hb hbox hg; obtain ⟨hcz29_0, hcz29_1, hcz29_2, hcz29_3, hfz29_0, hfz29_1, hfz29_2, hfz29_3⟩ := sqF4 BK263.out) | ((with_reducible refine gate_callee (f := 37) rfl ?_); refine goesL_ (some 5) rfl rfl Tryd.func37 (by kernel_rfl) rfl #[.int .i64 a0_0] rfl sqA ?_; (with_reducible refine (boarderref01_Right.calls _ _ _ A2.out).mono ?_); rintro e w' ⟨rfl, ⟨nd, rfl⟩⟩; refine ⟨_, rfl, ?_⟩))
   go_ret
   exact ⟨sqE, sqB1 HB.out GE263.out⟩
 subst c3
 have H1 : ((boarderref07_Right.f a0_3).bind fun t265 => (if t265 = true then (if a0_1 = 1 then (if a0_2 ≥ 0 then (some (decide (a0_2 ≤ 1125899906842624))) else (some false)) else (if a0_1 = 2 then (if a0_2 ≥ 0 then (some (decide (a0_2 ≤ 1125899906842624))) else (some false)) else (if a0_1 = 3 then (if a0_2 ≥ 0 then (some (decide (a0_2 ≤ 1125899906842624))) else (some false)) else (some false)))) else (some false))) = some r := by rw [if_pos rfl] at H; exact H
 clear H
 have H := H1
 clear H1
 replace H := Option.bind_eq_some_iff.mp H
 obtain ⟨t265, A40, H⟩ := H
 replace H : (if t265 = true then (if a0_1 = 1 then (if a0_2 ≥ 0 then (some (decide (a0_2 ≤ 1125899906842624))) else (some false)) else (if a0_1 = 2 then (if a0_2 ≥ 0 then (some (decide (a0_2 ≤ 1125899906842624))) else (some false)) else (if a0_1 = 3 then (if a0_2 ≥ 0 then (some (decide (a0_2 ≤ 1125899906842624))) else (some false)) else (some false)))) else (some false)) = some r := H
 have A4 := Aside0.mk A40
 clear A40
 by_cases c5 : t265 = true
 rotate_left
 · replace c5 := Bool.eq_false_iff.mpr c5
   subst c5
   have H1 : (some false) = some r := by rw [if_neg (show ¬ (false = true) by decide)] at H; exact H
   clear H
   have H := H1
   clear H1
   obtain rfl := Option.some.inj H
   go_enter Tryd.func14, Tryd.ntmps14
   go_wp2_with (first | ((with_reducible refine gate_dst (N := 1) rfl ?_); refine box_event rfl (N := 1) rfl (cs := #[.int .i64 a0_0, .int .i64 a0_1, .int .i64 a0_2, .string a0_3]) (t := 23) sqs ?_; intro gb263 hg w26 hbox hb; have BK263 := sqM (hbox); have GW263 := sqM (sqZ hg (sqB HB.out)); have GE263 := sqM (sqZ hg (sqB HB.out)); replace HB := sqM (below_step (sqB HB.out) hb); clear hb hbox hg; obtain ⟨hcz27_0, hcz27_1, hcz27_2, hcz27_3, hfz27_0, hfz27_1, hfz27_2, hfz27_3⟩ := sqF4 BK263.out) | ((with_reducible refine gate_callee (f := 37) rfl ?_); refine goesL_ (some 5) rfl rfl Tryd.func37 (by kernel_rfl) rfl #[.int .i64 a0_0] rfl sqA ?_; (with_reducible refine (boarderref01_Right.calls _ _ _ A2.out).mono ?_); rintro e w' ⟨rfl, ⟨nd, rfl⟩⟩; refine ⟨_, rfl, ?_⟩) | (go_at_call 38; (with_reducible refine (boarderref07_Right.calls _ _ _ A4.out).mono ?_); rintro e w' ⟨rfl, ⟨nd, rfl⟩⟩))
   go_ret
   exact ⟨sqE, sqB1 HB.out GE263.out⟩
 subst c5
 have H1 : (if a0_1 = 1 then (if a0_2 ≥ 0 then (some (decide (a0_2 ≤ 1125899906842624))) else (some false)) else (if a0_1 = 2 then (if a0_2 ≥ 0 then (some (decide (a0_2 ≤ 1125899906842624))) else (some false)) else (if a0_1 = 3 then (if a0_2 ≥ 0 then (some (decide (a0_2 ≤ 1125899906842624))) else (some false)) else (some false)))) = some r := by rw [if_pos rfl] at H; exact H
 clear H
 have H := H1
 clear H1
 by_cases c6 : a0_1 = 1
 · rw [if_pos c6] at H
   have c6b0 : (a0_1 == 1) = true := beq_iff_eq.mpr c6
   have c6b1 : (a0_1 != 1) = false := bne_eq_false_iff_eq.mpr c6
   clear c6
   by_cases c7 : a0_2 ≥ 0
   · rw [if_pos c7] at H
     have c7b0 : decide (0 ≤ a0_2) = true := decide_eq_true c7
     clear c7
     obtain rfl := Option.some.inj H
     go_enter Tryd.func14, Tryd.ntmps14
     go_wp2_with (first | ((with_reducible refine gate_dst (N := 1) rfl ?_); refine box_event rfl (N := 1) rfl (cs := #[.int .i64 a0_0, .int .i64 a0_1, .int .i64 a0_2, .string a0_3]) (t := 23) sqs ?_; intro gb263 hg w8 hbox hb; have BK263 := sqM (hbox); have GW263 := sqM (sqZ hg (sqB HB.out)); have GE263 := sqM (sqZ hg (sqB HB.out)); replace HB := sqM (below_step (sqB HB.out) hb); clear hb hbox hg; obtain ⟨hcz9_0, hcz9_1, hcz9_2, hcz9_3, hfz9_0, hfz9_1, hfz9_2, hfz9_3⟩ := sqF4 BK263.out) | ((with_reducible refine gate_callee (f := 37) rfl ?_); refine goesL_ (some 5) rfl rfl Tryd.func37 (by kernel_rfl) rfl #[.int .i64 a0_0] rfl sqA ?_; (with_reducible refine (boarderref01_Right.calls _ _ _ A2.out).mono ?_); rintro e w' ⟨rfl, ⟨nd, rfl⟩⟩; refine ⟨_, rfl, ?_⟩) | (go_at_call 38; (with_reducible refine (boarderref07_Right.calls _ _ _ A4.out).mono ?_); rintro e w' ⟨rfl, ⟨nd, rfl⟩⟩))
     go_ret
     exact ⟨sqE, sqB1 HB.out GE263.out⟩
   rw [if_neg c7] at H
   have c7b0 : decide (0 ≤ a0_2) = false := decide_eq_false c7
   clear c7
   obtain rfl := Option.some.inj H
   go_enter Tryd.func14, Tryd.ntmps14
   go_wp2_with (first | ((with_reducible refine gate_dst (N := 1) rfl ?_); refine box_event rfl (N := 1) rfl (cs := #[.int .i64 a0_0, .int .i64 a0_1, .int .i64 a0_2, .string a0_3]) (t := 23) sqs ?_; intro gb263 hg w10 hbox hb; have BK263 := sqM (hbox); have GW263 := sqM (sqZ hg (sqB HB.out)); have GE263 := sqM (sqZ hg (sqB HB.out)); replace HB := sqM (below_step (sqB HB.out) hb); clear hb hbox hg; obtain ⟨hcz11_0, hcz11_1, hcz11_2, hcz11_3, hfz11_0, hfz11_1, hfz11_2, hfz11_3⟩ := sqF4 BK263.out) | ((with_reducible refine gate_callee (f := 37) rfl ?_); refine goesL_ (some 5) rfl rfl Tryd.func37 (by kernel_rfl) rfl #[.int .i64 a0_0] rfl sqA ?_; (with_reducible refine (boarderref01_Right.calls _ _ _ A2.out).mono ?_); rintro e w' ⟨rfl, ⟨nd, rfl⟩⟩; refine ⟨_, rfl, ?_⟩) | (go_at_call 38; (with_reducible refine (boarderref07_Right.calls _ _ _ A4.out).mono ?_); rintro e w' ⟨rfl, ⟨nd, rfl⟩⟩))
   go_ret
   exact ⟨sqE, sqB1 HB.out GE263.out⟩
 rw [if_neg c6] at H
 have c6b0 : (a0_1 == 1) = false := beq_eq_false_iff_ne.mpr c6
 have c6b1 : (a0_1 != 1) = true := bne_iff_ne.mpr c6
 by_cases c12 : a0_1 = 2
 · rw [if_pos c12] at H
   have c12b0 : (a0_1 == 2) = true := beq_iff_eq.mpr c12
   have c12b1 : (a0_1 != 2) = false := bne_eq_false_iff_eq.mpr c12
   clear c12
   by_cases c13 : a0_2 ≥ 0
   · rw [if_pos c13] at H
     have c13b0 : decide (0 ≤ a0_2) = true := decide_eq_true c13
     clear c13
     obtain rfl := Option.some.inj H
     go_enter Tryd.func14, Tryd.ntmps14
     go_wp2_with (first | ((with_reducible refine gate_dst (N := 1) rfl ?_); refine box_event rfl (N := 1) rfl (cs := #[.int .i64 a0_0, .int .i64 a0_1, .int .i64 a0_2, .string a0_3]) (t := 23) sqs ?_; intro gb263 hg w14 hbox hb; have BK263 := sqM (hbox); have GW263 := sqM (sqZ hg (sqB HB.out)); have GE263 := sqM (sqZ hg (sqB HB.out)); replace HB := sqM (below_step (sqB HB.out) hb); clear hb hbox hg; obtain ⟨hcz15_0, hcz15_1, hcz15_2, hcz15_3, hfz15_0, hfz15_1, hfz15_2, hfz15_3⟩ := sqF4 BK263.out) | ((with_reducible refine gate_callee (f := 37) rfl ?_); refine goesL_ (some 5) rfl rfl Tryd.func37 (by kernel_rfl) rfl #[.int .i64 a0_0] rfl sqA ?_; (with_reducible refine (boarderref01_Right.calls _ _ _ A2.out).mono ?_); rintro e w' ⟨rfl, ⟨nd, rfl⟩⟩; refine ⟨_, rfl, ?_⟩) | (go_at_call 38; (with_reducible refine (boarderref07_Right.calls _ _ _ A4.out).mono ?_); rintro e w' ⟨rfl, ⟨nd, rfl⟩⟩))
     go_ret
     exact ⟨sqE, sqB1 HB.out GE263.out⟩
   rw [if_neg c13] at H
   have c13b0 : decide (0 ≤ a0_2) = false := decide_eq_false c13
   clear c13
   obtain rfl := Option.some.inj H
   go_enter Tryd.func14, Tryd.ntmps14
   go_wp2_with (first | ((with_reducible refine gate_dst (N := 1) rfl ?_); refine box_event rfl (N := 1) rfl (cs := #[.int .i64 a0_0, .int .i64 a0_1, .int .i64 a0_2, .string a0_3]) (t := 23) sqs ?_; intro gb263 hg w16 hbox hb; have BK263 := sqM (hbox); have GW263 := sqM (sqZ hg (sqB HB.out)); have GE263 := sqM (sqZ hg (sqB HB.out)); replace HB := sqM (below_step (sqB HB.out) hb); clear hb hbox hg; obtain ⟨hcz17_0, hcz17_1, hcz17_2, hcz17_3, hfz17_0, hfz17_1, hfz17_2, hfz17_3⟩ := sqF4 BK263.out) | ((with_reducible refine gate_callee (f := 37) rfl ?_); refine goesL_ (some 5) rfl rfl Tryd.func37 (by kernel_rfl) rfl #[.int .i64 a0_0] rfl sqA ?_; (with_reducible refine (boarderref01_Right.calls _ _ _ A2.out).mono ?_); rintro e w' ⟨rfl, ⟨nd, rfl⟩⟩; refine ⟨_, rfl, ?_⟩) | (go_at_call 38; (with_reducible refine (boarderref07_Right.calls _ _ _ A4.out).mono ?_); rintro e w' ⟨rfl, ⟨nd, rfl⟩⟩))
   go_ret
   exact ⟨sqE, sqB1 HB.out GE263.out⟩
 rw [if_neg c12] at H
 have c12b0 : (a0_1 == 2) = false := beq_eq_false_iff_ne.mpr c12
 have c12b1 : (a0_1 != 2) = true := bne_iff_ne.mpr c12
 by_cases c18 : a0_1 = 3
 rotate_left
 · rw [if_neg c18] at H
   have c18b0 : (a0_1 == 3) = false := beq_eq_false_iff_ne.mpr c18
   have c18b1 : (a0_1 != 3) = true := bne_iff_ne.mpr c18
   obtain rfl := Option.some.inj H
   go_enter Tryd.func14, Tryd.ntmps14
   go_wp2_with (first | ((with_reducible refine gate_dst (N := 1) rfl ?_); refine box_event rfl (N := 1) rfl (cs := #[.int .i64 a0_0, .int .i64 a0_1, .int .i64 a0_2, .string a0_3]) (t := 23) sqs ?_; intro gb263 hg w24 hbox hb; have BK263 := sqM (hbox); have GW263 := sqM (sqZ hg (sqB HB.out)); have GE263 := sqM (sqZ hg (sqB HB.out)); replace HB := sqM (below_step (sqB HB.out) hb); clear hb hbox hg; obtain ⟨hcz25_0, hcz25_1, hcz25_2, hcz25_3, hfz25_0, hfz25_1, hfz25_2, hfz25_3⟩ := sqF4 BK263.out) | ((with_reducible refine gate_callee (f := 37) rfl ?_); refine goesL_ (some 5) rfl rfl Tryd.func37 (by kernel_rfl) rfl #[.int .i64 a0_0] rfl sqA ?_; (with_reducible refine (boarderref01_Right.calls _ _ _ A2.out).mono ?_); rintro e w' ⟨rfl, ⟨nd, rfl⟩⟩; refine ⟨_, rfl, ?_⟩) | (go_at_call 38; (with_reducible refine (boarderref07_Right.calls _ _ _ A4.out).mono ?_); rintro e w' ⟨rfl, ⟨nd, rfl⟩⟩))
   go_ret
   exact ⟨sqE, sqB1 HB.out GE263.out⟩
 rw [if_pos c18] at H
 have c18b0 : (a0_1 == 3) = true := beq_iff_eq.mpr c18
 have c18b1 : (a0_1 != 3) = false := bne_eq_false_iff_eq.mpr c18
 clear c18
 by_cases c19 : a0_2 ≥ 0
 · rw [if_pos c19] at H
   have c19b0 : decide (0 ≤ a0_2) = true := decide_eq_true c19
   clear c19
   obtain rfl := Option.some.inj H
   go_enter Tryd.func14, Tryd.ntmps14
   go_wp2_with (first | ((with_reducible refine gate_dst (N := 1) rfl ?_); refine box_event rfl (N := 1) rfl (cs := #[.int .i64 a0_0, .int .i64 a0_1, .int .i64 a0_2, .string a0_3]) (t := 23) sqs ?_; intro gb263 hg w20 hbox hb; have BK263 := sqM (hbox); have GW263 := sqM (sqZ hg (sqB HB.out)); have GE263 := sqM (sqZ hg (sqB HB.out)); replace HB := sqM (below_step (sqB HB.out) hb); clear hb hbox hg; obtain ⟨hcz21_0, hcz21_1, hcz21_2, hcz21_3, hfz21_0, hfz21_1, hfz21_2, hfz21_3⟩ := sqF4 BK263.out) | ((with_reducible refine gate_callee (f := 37) rfl ?_); refine goesL_ (some 5) rfl rfl Tryd.func37 (by kernel_rfl) rfl #[.int .i64 a0_0] rfl sqA ?_; (with_reducible refine (boarderref01_Right.calls _ _ _ A2.out).mono ?_); rintro e w' ⟨rfl, ⟨nd, rfl⟩⟩; refine ⟨_, rfl, ?_⟩) | (go_at_call 38; (with_reducible refine (boarderref07_Right.calls _ _ _ A4.out).mono ?_); rintro e w' ⟨rfl, ⟨nd, rfl⟩⟩))
   go_ret
   exact ⟨sqE, sqB1 HB.out GE263.out⟩
 rw [if_neg c19] at H
 have c19b0 : decide (0 ≤ a0_2) = false := decide_eq_false c19
 clear c19
 obtain rfl := Option.some.inj H
 go_enter Tryd.func14, Tryd.ntmps14
 go_wp2_with (first | ((with_reducible refine gate_dst (N := 1) rfl ?_); refine box_event rfl (N := 1) rfl (cs := #[.int .i64 a0_0, .int .i64 a0_1, .int .i64 a0_2, .string a0_3]) (t := 23) sqs ?_; intro gb263 hg w22 hbox hb; have BK263 := sqM (hbox); have GW263 := sqM (sqZ hg (sqB HB.out)); have GE263 := sqM (sqZ hg (sqB HB.out)); replace HB := sqM (below_step (sqB HB.out) hb); clear hb hbox hg; obtain ⟨hcz23_0, hcz23_1, hcz23_2, hcz23_3, hfz23_0, hfz23_1, hfz23_2, hfz23_3⟩ := sqF4 BK263.out) | ((with_reducible refine gate_callee (f := 37) rfl ?_); refine goesL_ (some 5) rfl rfl Tryd.func37 (by kernel_rfl) rfl #[.int .i64 a0_0] rfl sqA ?_; (with_reducible refine (boarderref01_Right.calls _ _ _ A2.out).mono ?_); rintro e w' ⟨rfl, ⟨nd, rfl⟩⟩; refine ⟨_, rfl, ?_⟩) | (go_at_call 38; (with_reducible refine (boarderref07_Right.calls _ _ _ A4.out).mono ?_); rintro e w' ⟨rfl, ⟨nd, rfl⟩⟩))
 go_ret
 exact ⟨sqE, sqB1 HB.out GE263.out⟩

end Go.Proofs.YtdajdpgnhjlbaaaDoor.PLease
