/- Lean functions for Go functions of the given program, and proofs that the code computes them, each under its theorem's own conditions. Written by a program of this session. -/
import Derived.Test.YtdajdpgnhjlbaaaDoorPLeasex0
namespace Go.Proofs.YtdajdpgnhjlbaaaDoor.PLease
open Go.RowKit Go.Proofs.YtdajdpgnhjlbaaaDoorW.PrintWords Go.Proofs.YtdajdpgnhjlbaaaDoorW.PrintLast Go.Proofs.YtdajdpgnhjlbaaaDoorW.PrintMore
attribute [local go_sem] max2_int min2_int max_two min_two max_three min_three max_four min_four   -- for this text's walks alone
set_option linter.unusedVariables false
set_option linter.unusedSimpArgs false

/-! ### addr_Right: function 67 -/
def addr_Right.f (a0 : Int) : Option (Bool) := if a0 ≥ 0 then (some (decide (a0 ≤ 4294967295))) else (some false)
set_option maxHeartbeats 8000000 in
set_option maxRecDepth 100000 in
theorem addr_Right.calls (a0 : Int) (r : Bool) (w : World) (h : addr_Right.f a0 = some r) :
    Calls Tryd.prog 67 #[.int .i64 a0] w fun e w' => e = .returned (.bool r) ∧ Drawn0 w w' := by
 have H : (if a0 ≥ 0 then (some (decide (a0 ≤ 4294967295))) else (some false)) = some r := h
 clear h
 by_cases c2 : a0 ≥ 0
 · rw [if_pos c2] at H
   have c2b0 : decide (0 ≤ a0) = true := decide_eq_true c2
   clear c2
   obtain rfl := Option.some.inj H
   go_enter Tryd.func67, Tryd.ntmps67
   go_wp2
   go_ret
   exact ⟨sqI, sqD⟩
 rw [if_neg c2] at H
 have c2b0 : decide (0 ≤ a0) = false := decide_eq_false c2
 clear c2
 obtain rfl := Option.some.inj H
 go_enter Tryd.func67, Tryd.ntmps67
 go_wp2
 go_ret
 exact ⟨sqI, sqD⟩

/-! ### key_Right: function 68 -/
def key_Right.f (a0 : ByteArray) : Option (Bool) := if (a0.size : Int) = 0 then (some false) else (if 0 < (a0.size : Int) then (if (bt a0 0) = 105 then (if (wrap64 ((a0.size : Int) - 1)) ≥ 2 then (some (decide ((wrap64 ((a0.size : Int) - 1)) ≤ 255))) else (some false)) else (if (bt a0 0) = 104 then (if (wrap64 ((a0.size : Int) - 1)) ≥ 2 then (some (decide ((wrap64 ((a0.size : Int) - 1)) ≤ 17))) else (some false)) else (some false))) else (none))
set_option maxHeartbeats 8000000 in
set_option maxRecDepth 100000 in
theorem key_Right.calls (a0 : ByteArray) (r : Bool) (w : World) (h : key_Right.f a0 = some r) :
    Calls Tryd.prog 68 #[.string a0] w fun e w' => e = .returned (.bool r) ∧ Drawn0 w w' := by
 have H : (if (a0.size : Int) = 0 then (some false) else (if 0 < (a0.size : Int) then (if (bt a0 0) = 105 then (if (wrap64 ((a0.size : Int) - 1)) ≥ 2 then (some (decide ((wrap64 ((a0.size : Int) - 1)) ≤ 255))) else (some false)) else (if (bt a0 0) = 104 then (if (wrap64 ((a0.size : Int) - 1)) ≥ 2 then (some (decide ((wrap64 ((a0.size : Int) - 1)) ≤ 17))) else (some false)) else (some false))) else (none))) = some r := h
 clear h
 by_cases c2 : (a0.size : Int) = 0
 · rw [if_pos c2] at H
   have c2b0 : ((a0.size : Int) == 0) = true := beq_iff_eq.mpr c2
   have c2b1 : ((a0.size : Int) != 0) = false := bne_eq_false_iff_eq.mpr c2
   clear c2
   obtain rfl := Option.some.inj H
   go_enter Tryd.func68, Tryd.ntmps68
   go_wp2
   go_ret
   exact ⟨sqI, sqD⟩
 rw [if_neg c2] at H
 have c2b0 : ((a0.size : Int) == 0) = false := beq_eq_false_iff_ne.mpr c2
 have c2b1 : ((a0.size : Int) != 0) = true := bne_iff_ne.mpr c2
 by_cases c3 : 0 < (a0.size : Int)
 rotate_left
 · rw [if_neg c3] at H
   exact absurd H (by simp)
 rw [if_pos c3] at H
 have c3b0 : decide (0 < (a0.size : Int)) = true := decide_eq_true c3
 have c3b1 : decide (0 < a0.size) = true := decide_eq_true (by omega)
 clear c3
 by_cases c5 : (bt a0 0) = 105
 · rw [if_pos c5] at H
   have c5b0 : ((bt a0 0) == 105) = true := beq_iff_eq.mpr c5
   have c5b1 : ((bt a0 0) != 105) = false := bne_eq_false_iff_eq.mpr c5
   clear c5
   by_cases c6 : (wrap64 ((a0.size : Int) - 1)) ≥ 2
   · rw [if_pos c6] at H
     have c6b0 : decide (2 ≤ (wrap64 ((a0.size : Int) - 1))) = true := decide_eq_true c6
     clear c6
     obtain rfl := Option.some.inj H
     have p4 : 0 ≤ (0 : Int) := (by omega)
     have q4 : 0 < a0.size := (by have : (0 : Int) < (a0.size : Int) := of_decide_eq_true sqH; omega)
     have hx4 : ∀ h : 0 < a0.size, ((a0[0]'h).toNat : Int) = bt a0 0 := bt_at a0 0
     clear p4
     have qi4 : (0 < (a0.size : Int)) = True := eq_true (of_decide_eq_true sqH)
     replace q4 := eq_true q4
     go_enter Tryd.func68, Tryd.ntmps68
     go_wp2
     go_ret
     exact ⟨sqI, sqD⟩
   rw [if_neg c6] at H
   have c6b0 : decide (2 ≤ (wrap64 ((a0.size : Int) - 1))) = false := decide_eq_false c6
   clear c6
   obtain rfl := Option.some.inj H
   have p4 : 0 ≤ (0 : Int) := (by omega)
   have q4 : 0 < a0.size := (by have : (0 : Int) < (a0.size : Int) := of_decide_eq_true sqH; omega)
   have hx4 : ∀ h : 0 < a0.size, ((a0[0]'h).toNat : Int) = bt a0 0 := bt_at a0 0
   clear p4
   have qi4 : (0 < (a0.size : Int)) = True := eq_true (of_decide_eq_true sqH)
   replace q4 := eq_true q4
   go_enter Tryd.func68, Tryd.ntmps68
   go_wp2
   go_ret
   exact ⟨sqI, sqD⟩
 rw [if_neg c5] at H
 have c5b0 : ((bt a0 0) == 105) = false := beq_eq_false_iff_ne.mpr c5
 have c5b1 : ((bt a0 0) != 105) = true := bne_iff_ne.mpr c5
 by_cases c7 : (bt a0 0) = 104
 rotate_left
 · rw [if_neg c7] at H
   have c7b0 : ((bt a0 0) == 104) = false := beq_eq_false_iff_ne.mpr c7
   have c7b1 : ((bt a0 0) != 104) = true := bne_iff_ne.mpr c7
   obtain rfl := Option.some.inj H
   have p4 : 0 ≤ (0 : Int) := (by omega)
   have q4 : 0 < a0.size := (by have : (0 : Int) < (a0.size : Int) := of_decide_eq_true sqH; omega)
   have hx4 : ∀ h : 0 < a0.size, ((a0[0]'h).toNat : Int) = bt a0 0 := bt_at a0 0
   clear p4
   have qi4 : (0 < (a0.size : Int)) = True := eq_true (of_decide_eq_true sqH)
   replace q4 := eq_true q4
   go_enter Tryd.func68, Tryd.ntmps68
   go_wp2
   go_ret
   exact ⟨sqI, sqD⟩
 rw [if_pos c7] at H
 have c7b0 : ((bt a0 0) == 104) = true := beq_iff_eq.mpr c7
 have c7b1 : ((bt a0 0) != 104) = false := bne_eq_false_iff_eq.mpr c7
 clear c7
 by_cases c8 : (wrap64 ((a0.size : Int) - 1)) ≥ 2
 · rw [if_pos c8] at H
   have c8b0 : decide (2 ≤ (wrap64 ((a0.size : Int) - 1))) = true := decide_eq_true c8
   clear c8
   obtain rfl := Option.some.inj H
   have p4 : 0 ≤ (0 : Int) := (by omega)
   have q4 : 0 < a0.size := (by have : (0 : Int) < (a0.size : Int) := of_decide_eq_true sqH; omega)
   have hx4 : ∀ h : 0 < a0.size, ((a0[0]'h).toNat : Int) = bt a0 0 := bt_at a0 0
   clear p4
   have qi4 : (0 < (a0.size : Int)) = True := eq_true (of_decide_eq_true sqH)
   replace q4 := eq_true q4
   go_enter Tryd.func68, Tryd.ntmps68
   go_wp2
   go_ret
   exact ⟨sqI, sqD⟩
 rw [if_neg c8] at H
 have c8b0 : decide (2 ≤ (wrap64 ((a0.size : Int) - 1))) = false := decide_eq_false c8
 clear c8
 obtain rfl := Option.some.inj H
 have p4 : 0 ≤ (0 : Int) := (by omega)
 have q4 : 0 < a0.size := (by have : (0 : Int) < (a0.size : Int) := of_decide_eq_true sqH; omega)
 have hx4 : ∀ h : 0 < a0.size, ((a0[0]'h).toNat : Int) = bt a0 0 := bt_at a0 0
 clear p4
 have qi4 : (0 < (a0.size : Int)) = True := eq_true (of_decide_eq_true sqH)
 replace q4 := eq_true q4
 go_enter Tryd.func68, Tryd.ntmps68
 go_wp2
 go_ret
 exact ⟨sqI, sqD⟩

/-! ### record_Right: function 33 -/
def record_Right.f (a0_0 : Int) (a0_1 : Int) (a0_2 : Int) (a0_3 : ByteArray) : Option (Bool) := (addr_Right.f a0_0).bind fun t102 => (if t102 = true then (if a0_1 ≥ 1 then (if a0_1 ≤ 3 then (if a0_2 ≥ 0 then (if a0_2 ≤ 1125899906842624 then ((key_Right.f a0_3).bind fun t103 => (some t103)) else (some false)) else (some false)) else (some false)) else (some false)) else (some false))
set_option maxHeartbeats 8000000 in
set_option maxRecDepth 100000 in
theorem record_Right.calls (a0_0 : Int) (a0_1 : Int) (a0_2 : Int) (a0_3 : ByteArray) (r : Bool) (w : World) (h : record_Right.f a0_0 a0_1 a0_2 a0_3 = some r) :
    Calls Tryd.prog 33 #[.agg #[.int .i64 a0_0, .int .i64 a0_1, .int .i64 a0_2, .string a0_3]] w fun e w' => e = .returned (.bool r) ∧ Below w.heap.size w w' := by
 have hu23 := Tryd.underlying23
 have HB := Aside0.mk (Below.refl w.heap.size w)
 have H : ((addr_Right.f a0_0).bind fun t102 => (if t102 = true then (if a0_1 ≥ 1 then (if a0_1 ≤ 3 then (if a0_2 ≥ 0 then (if a0_2 ≤ 1125899906842624 then ((key_Right.f a0_3).bind fun t103 => (some t103)) else (some false)) else (some false)) else (some false)) else (some false)) else (some false))) = some r := h
 clear h
 replace H := Option.bind_eq_some_iff.mp H
 obtain ⟨t102, A20, H⟩ := H
 replace H : (if t102 = true then (if a0_1 ≥ 1 then (if a0_1 ≤ 3 then (if a0_2 ≥ 0 then (if a0_2 ≤ 1125899906842624 then ((key_Right.f a0_3).bind fun t103 => (some t103)) else (some false)) else (some false)) else (some false)) else (some false)) else (some false)) = some r := H
 have A2 := Aside0.mk A20
 clear A20
 by_cases c3 : t102 = true
 rotate_left
 · replace c3 := Bool.eq_false_iff.mpr c3
   subst c3
   have H1 : (some false) = some r := by rw [if_neg (show ¬ (false = true) by decide)] at H; exact H
   clear H
   have H := H1
   clear H1
   obtain rfl := Option.some.inj H
   go_enter Tryd.func33, Tryd.ntmps33
   go_wp2_with (first | ((with_reducible refine gate_dst (N := 1) rfl ?_); refine box_event rfl (N := 1) rfl (cs := #[.int .i64 a0_0, .int .i64 a0_1, .int .i64 a0_2, .string a0_3]) (t := 23) sqs ?_; intro gb101 hg w19 hbox hb; have BK101 := sqM (hbox); have GW101 := sqM (sqZ hg (sqB HB.out)); have GE101 := sqM (sqZ hg (sqB HB.out)); replace HB := sqM (below_step (sqB HB.out) hb); clear hb hbox hg; obtain ⟨hcz20_0, hcz20_1, hcz20_2, hcz20_3, hfz20_0, hfz20_1, hfz20_2, hfz20_3⟩ := sqF4 BK101.out) | ((with_reducible refine gate_callee (f := 67) rfl ?_); refine goesL_ (some 5) rfl rfl Tryd.func67 (by kernel_rfl) rfl #[.int .i64 a0_0] rfl sqA ?_; (with_reducible refine (addr_Right.calls _ _ _ A2.out).mono ?_); rintro e w' ⟨rfl, ⟨nd, rfl⟩⟩; refine ⟨_, rfl, ?_⟩))
   go_ret
   exact ⟨sqE, sqB1 HB.out GE101.out⟩
 subst c3
 have H1 : (if a0_1 ≥ 1 then (if a0_1 ≤ 3 then (if a0_2 ≥ 0 then (if a0_2 ≤ 1125899906842624 then ((key_Right.f a0_3).bind fun t103 => (some t103)) else (some false)) else (some false)) else (some false)) else (some false)) = some r := by rw [if_pos rfl] at H; exact H
 clear H
 have H := H1
 clear H1
 by_cases c4 : a0_1 ≥ 1
 rotate_left
 · rw [if_neg c4] at H
   have c4b0 : decide (1 ≤ a0_1) = false := decide_eq_false c4
   clear c4
   obtain rfl := Option.some.inj H
   go_enter Tryd.func33, Tryd.ntmps33
   go_wp2_with (first | ((with_reducible refine gate_dst (N := 1) rfl ?_); refine box_event rfl (N := 1) rfl (cs := #[.int .i64 a0_0, .int .i64 a0_1, .int .i64 a0_2, .string a0_3]) (t := 23) sqs ?_; intro gb101 hg w17 hbox hb; have BK101 := sqM (hbox); have GW101 := sqM (sqZ hg (sqB HB.out)); have GE101 := sqM (sqZ hg (sqB HB.out)); replace HB := sqM (below_step (sqB HB.out) hb); clear hb hbox hg; obtain ⟨hcz18_0, hcz18_1, hcz18_2, hcz18_3, hfz18_0, hfz18_1, hfz18_2, hfz18_3⟩ := sqF4 BK101.out) | ((with_reducible refine gate_callee (f := 67) rfl ?_); refine goesL_ (some 5) rfl rfl Tryd.func67 (by kernel_rfl) rfl #[.int .i64 a0_0] rfl sqA ?_; (with_reducible refine (addr_Right.calls _ _ _ A2.out).mono ?_); rintro e w' ⟨rfl, ⟨nd, rfl⟩⟩; refine ⟨_, rfl, ?_⟩))
   go_ret
   exact ⟨sqE, sqB1 HB.out GE101.out⟩
 rw [if_pos c4] at H
 have c4b0 : decide (1 ≤ a0_1) = true := decide_eq_true c4
 clear c4
 by_cases c5 : a0_1 ≤ 3
 rotate_left
 · rw [if_neg c5] at H
   have c5b0 : decide (a0_1 ≤ 3) = false := decide_eq_false c5
   clear c5
   obtain rfl := Option.some.inj H
   go_enter Tryd.func33, Tryd.ntmps33
   go_wp2_with (first | ((with_reducible refine gate_dst (N := 1) rfl ?_); refine box_event rfl (N := 1) rfl (cs := #[.int .i64 a0_0, .int .i64 a0_1, .int .i64 a0_2, .string a0_3]) (t := 23) sqs ?_; intro gb101 hg w15 hbox hb; have BK101 := sqM (hbox); have GW101 := sqM (sqZ hg (sqB HB.out)); have GE101 := sqM (sqZ hg (sqB HB.out)); replace HB := sqM (below_step (sqB HB.out) hb); clear hb hbox hg; obtain ⟨hcz16_0, hcz16_1, hcz16_2, hcz16_3, hfz16_0, hfz16_1, hfz16_2, hfz16_3⟩ := sqF4 BK101.out) | ((with_reducible refine gate_callee (f := 67) rfl ?_); refine goesL_ (some 5) rfl rfl Tryd.func67 (by kernel_rfl) rfl #[.int .i64 a0_0] rfl sqA ?_; (with_reducible refine (addr_Right.calls _ _ _ A2.out).mono ?_); rintro e w' ⟨rfl, ⟨nd, rfl⟩⟩; refine ⟨_, rfl, ?_⟩))
   go_ret
   exact ⟨sqE, sqB1 HB.out GE101.out⟩
 rw [if_pos c5] at H
 have c5b0 : decide (a0_1 ≤ 3) = true := decide_eq_true c5
 clear c5
 by_cases c6 : a0_2 ≥ 0
 rotate_left
 · rw [if_neg c6] at H
   have c6b0 : decide (0 ≤ a0_2) = false := decide_eq_false c6
   clear c6
   obtain rfl := Option.some.inj H
   go_enter Tryd.func33, Tryd.ntmps33
   go_wp2_with (first | ((with_reducible refine gate_dst (N := 1) rfl ?_); refine box_event rfl (N := 1) rfl (cs := #[.int .i64 a0_0, .int .i64 a0_1, .int .i64 a0_2, .string a0_3]) (t := 23) sqs ?_; intro gb101 hg w13 hbox hb; have BK101 := sqM (hbox); have GW101 := sqM (sqZ hg (sqB HB.out)); have GE101 := sqM (sqZ hg (sqB HB.out)); replace HB := sqM (below_step (sqB HB.out) hb); clear hb hbox hg; obtain ⟨hcz14_0, hcz14_1, hcz14_2, hcz14_3, hfz14_0, hfz14_1, hfz14_2, hfz14_3⟩ := sqF4 BK101.out) | ((with_reducible refine gate_callee (f := 67) rfl ?_); refine goesL_ (some 5) rfl rfl Tryd.func67 (by kernel_rfl) rfl #[.int .i64 a0_0] rfl sqA ?_; (with_reducible refine (addr_Right.calls _ _ _ A2.out).mono ?_); rintro e w' ⟨rfl, ⟨nd, rfl⟩⟩; refine ⟨_, rfl, ?_⟩))
   go_ret
   exact ⟨sqE, sqB1 HB.out GE101.out⟩
 rw [if_pos c6] at H
 have c6b0 : decide (0 ≤ a0_2) = true := decide_eq_true c6
 clear c6
 by_cases c7 : a0_2 ≤ 1125899906842624
 rotate_left
 · rw [if_neg c7] at H
   have c7b0 : decide (a0_2 ≤ 1125899906842624) = false := decide_eq_false c7
   clear c7
   obtain rfl := Option.some.inj H
   go_enter Tryd.func33, Tryd.ntmps33
   go_wp2_with (first | ((with_reducible refine gate_dst (N := 1) rfl ?_); refine box_event rfl (N := 1) rfl (cs := #[.int .i64 a0_0, .int .i64 a0_1, .int .i64 a0_2, .string a0_3]) (t := 23) sqs ?_; intro gb101 hg w11 hbox hb; have BK101 := sqM (hbox); have GW101 := sqM (sqZ hg (sqB HB.out)); have GE101 := sqM (sqZ hg (sqB HB.out)); replace HB := sqM (below_step (sqB HB.out) hb); clear hb hbox hg; obtain ⟨hcz12_0, hcz12_1, hcz12_2, hcz12_3, hfz12_0, hfz12_1, hfz12_2, hfz12_3⟩ := sqF4 BK101.out) | ((with_reducible refine gate_callee (f := 67) rfl ?_); refine goesL_ (some 5) rfl rfl Tryd.func67 (by kernel_rfl) rfl #[.int .i64 a0_0] rfl sqA ?_; (with_reducible refine (addr_Right.calls _ _ _ A2.out).mono ?_); rintro e w' ⟨rfl, ⟨nd, rfl⟩⟩; refine ⟨_, rfl, ?_⟩))
   go_ret
   exact ⟨sqE, sqB1 HB.out GE101.out⟩
 rw [if_pos c7] at H
 have c7b0 : decide (a0_2 ≤ 1125899906842624) = true := decide_eq_true c7
 clear c7
 replace H := Option.bind_eq_some_iff.mp H
 obtain ⟨t103, A80, H⟩ := H
 replace H : (some t103) = some r := H
 have A8 := Aside0.mk A80
 clear A80
 obtain rfl := Option.some.inj H
 go_enter Tryd.func33, Tryd.ntmps33
 go_wp2_with (first | ((with_reducible refine gate_dst (N := 1) rfl ?_); refine box_event rfl (N := 1) rfl (cs := #[.int .i64 a0_0, .int .i64 a0_1, .int .i64 a0_2, .string a0_3]) (t := 23) sqs ?_; intro gb101 hg w9 hbox hb; have BK101 := sqM (hbox); have GW101 := sqM (sqZ hg (sqB HB.out)); have GE101 := sqM (sqZ hg (sqB HB.out)); replace HB := sqM (below_step (sqB HB.out) hb); clear hb hbox hg; obtain ⟨hcz10_0, hcz10_1, hcz10_2, hcz10_3, hfz10_0, hfz10_1, hfz10_2, hfz10_3⟩ := sqF4 BK101.out) | ((with_reducible refine gate_callee (f := 67) rfl ?_); refine goesL_ (some 5) rfl rfl Tryd.func67 (by kernel_rfl) rfl #[.int .i64 a0_0] rfl sqA ?_; (with_reducible refine (addr_Right.calls _ _ _ A2.out).mono ?_); rintro e w' ⟨rfl, ⟨nd, rfl⟩⟩; refine ⟨_, rfl, ?_⟩) | (go_at_call 68; (with_reducible refine (key_Right.calls _ _ _ A8.out).mono ?_); rintro e w' ⟨rfl, ⟨nd, rfl⟩⟩))
 go_ret
 exact ⟨sqE, sqB1 HB.out GE101.out⟩

/-! ### addr_digits: function 69 -/
def addr_digits.f : Nat → List Int → Int → Option (List Int)
  | 0, _, _ => none
  | k + 1, l0, a1 => if a1 ≥ 10 then ((addr_digits.f k l0 (wrap64 (Int.tdiv a1 10))).bind fun t104 => (if t104.length < 140737488355328 then (some (t104 ++ [(wrap64 (48 + (Int.tmod a1 10))) % 256])) else (none))) else (if l0.length < 140737488355328 then (some (l0 ++ [(wrap64 (48 + (Int.tmod a1 10))) % 256])) else (none))
theorem addr_digits.mono_l : ∀ k, (∀ y0 y1, LeO (addr_digits.f k y0 y1) (addr_digits.f (k + 1) y0 y1))
  | 0 => fun _ _ r h => by simp [addr_digits.f] at h
  | k + 1 => by
    have ih0 := addr_digits.mono_l k
    · intro y0 y1
      unfold addr_digits.f
      repeat' first
      | (with_reducible exact ih0 _ _)
      | (with_reducible exact LeO.refl _)
      | (with_reducible exact LeO.none _)
      | (with_reducible refine LeO.ite ?_ ?_)
      | (with_reducible refine LeO.bind ?_ (fun _ => ?_))
theorem addr_digits.mono : ∀ a0 a1 k, LeO (addr_digits.f k a0 a1) (addr_digits.f (k + 1) a0 a1) := by
 intro a0 a1 k
 have ih0 := addr_digits.mono_l k
 exact ih0 a0 a1
set_option maxHeartbeats 8000000 in
set_option maxRecDepth 100000 in
theorem addr_digits.calls (k : Nat) : ∀ (P0_ : Nat → Prop) (u9000_ : Value) (l0 : List Int) (a1 : Int) (r : List Int) (w0 w : World) (hB : Below w0.heap.size w0 w) (ho0 : Kd.R (Kd.int .u8) 5 w w0.heap.size P0_ u9000_ l0) (h : addr_digits.f k l0 a1 = some r),
    Calls Tryd.prog 69 #[u9000_, .int .i64 a1] w fun e w' => ∃ v0_ : Value, e = .returned (v0_) ∧ Kd.R (Kd.int .u8) 5 w' w0.heap.size (fun k_ => (P0_ k_ ∨ w.heap.size ≤ k_)) v0_ r ∧ Below w0.heap.size w0 w' ∧ Kept w w' (fun k_ => P0_ k_) := by
 induction k using Nat.strongRecOn with
 | _ k ih =>
 intro P0_ u9000_ l0 a1 r w0 w hB ho0 h
 cases k with
 | zero => exact absurd h (by simp [addr_digits.f])
 | succ k =>
 simp only [addr_digits.f] at h
 have HO0 := sqM (show Kd.R (Kd.int .u8) 5 w w0.heap.size (fun k_ => (P0_ k_ ∨ w.heap.size ≤ k_)) u9000_ l0 from Kd.R_mono ho0 (fun k_ hk => (.inl hk)))
 have HK := Aside0.mk (Kept.refl w (fun k_ => P0_ k_))
 have HW0 := Aside0.mk hB.size
 have HB := Aside0.mk hB
 clear hB
 have H : (if a1 ≥ 10 then ((addr_digits.f k l0 (wrap64 (Int.tdiv a1 10))).bind fun t104 => (if t104.length < 140737488355328 then (some (t104 ++ [(wrap64 (48 + (Int.tmod a1 10))) % 256])) else (none))) else (if l0.length < 140737488355328 then (some (l0 ++ [(wrap64 (48 + (Int.tmod a1 10))) % 256])) else (none))) = some r := h
 clear h
 by_cases c3 : a1 ≥ 10
 rotate_left
 · rw [if_neg c3] at H
   have c3b0 : decide (10 ≤ a1) = false := decide_eq_false c3
   clear c3
   by_cases c9 : l0.length < 140737488355328
   rotate_left
   · rw [if_neg c9] at H
     exact absurd H (by simp)
   rw [if_pos c9] at H
   have LMc9 := Aside0.mk c9
   clear c9
   obtain ⟨y110, hy110⟩ : ∃ y_ : List Int, y_ = (l0 ++ [(wrap64 (48 + (Int.tmod a1 10))) % 256]) := ⟨_, rfl⟩
   replace H : (some y110) = some r := by first | (rw [hy110]; with_reducible exact H) | (have H2_ := (Option.bind_some _ _).symm.trans H; rw [hy110]; with_reducible exact H2_) | (have H2_ := (Option.bind_some _ _).symm.trans H; with_reducible exact H2_) | with_reducible exact H | (rw [hy110]; exact H) | exact H
   have Ny110 := Aside0.mk hy110
   clear hy110
   obtain rfl := Option.some.inj H
   go_enter Tryd.func69, Tryd.ntmps69
   go_wp2_with (first | ((with_reducible refine gate_builtin (b := .append) (xs := #[.tmp 11, .tmp 16]) rfl ?_); at_builtin; refine Kd.R_append (Kd.int .u8) (w0 := w0) w0.heap.size rfl (.tmp 11) (.tmp 16) 59 5 (.int .u8 0) 1 rfl Tryd.underlying59 info5 rfl (by decide) (by omega) u9000_ l0 ((wrap64 (48 + (Int.tmod a1 10))) % 256) [.int .u8 ((wrap64 (48 + (Int.tmod a1 10))) % 256)] (fun k_ => (P0_ k_ ∨ w.heap.size ≤ k_)) (fun _ => False) rfl rfl ?aP (fun _ hk => hk.elim) ?aF ?aO ?aB ?aS ?aL ?_; (case aP => exact rfl); (case aB => exact (sqB HB.out)); (case aF => exact (fun k_ hk => (.inr (Nat.le_trans (by first | exact HK.out.1 | exact (show Kept w _ (fun k_ => P0_ k_) from by repeat (first | (with_reducible first | exact HK.out | apply Kept.alloc | apply Kept.drewN | apply Kept.drew) | exact HK.out)).1) hk)))); (case aO => exact (sqR HO0.out)); (case aS => exact (below_size (sqB HB.out))); (case aL => have := LMc9.out; omega); intro v111 w10 ho hb hg hat; rw [← Ny110.out] at ho; have HO112 := sqM (ho); replace HB := sqM (hb); replace HK := sqM (Kept.of_grown (S := (fun k_ => P0_ k_)) hg (by repeat (first | (with_reducible first | exact HK.out | apply Kept.alloc | apply Kept.drewN | apply Kept.drew) | exact HK.out)) (fun k_ e_ => (HO0.out.1 k_ e_))); clear HO0; clear ho hb hg hat))
   go_ret
   exact ⟨_, sqE, by refine sqR ?_; exact HO112.out, sqB HB.out, by repeat (first | (with_reducible first | exact HK.out | apply Kept.alloc | apply Kept.drewN | apply Kept.drew) | exact HK.out)⟩
 rw [if_pos c3] at H
 have c3b0 : decide (10 ≤ a1) = true := decide_eq_true c3
 clear c3
 replace H := Option.bind_eq_some_iff.mp H
 obtain ⟨t104, A40, H⟩ := H
 replace H : (if t104.length < 140737488355328 then (some (t104 ++ [(wrap64 (48 + (Int.tmod a1 10))) % 256])) else (none)) = some r := H
 have A4 := Aside0.mk A40
 clear A40
 by_cases c5 : t104.length < 140737488355328
 rotate_left
 · rw [if_neg c5] at H
   exact absurd H (by simp)
 rw [if_pos c5] at H
 have LMc5 := Aside0.mk c5
 clear c5
 obtain ⟨y107, hy107⟩ : ∃ y_ : List Int, y_ = (t104 ++ [(wrap64 (48 + (Int.tmod a1 10))) % 256]) := ⟨_, rfl⟩
 replace H : (some y107) = some r := by first | (rw [hy107]; with_reducible exact H) | (have H2_ := (Option.bind_some _ _).symm.trans H; rw [hy107]; with_reducible exact H2_) | (have H2_ := (Option.bind_some _ _).symm.trans H; with_reducible exact H2_) | with_reducible exact H | (rw [hy107]; exact H) | exact H
 have Ny107 := Aside0.mk hy107
 clear hy107
 obtain rfl := Option.some.inj H
 obtain ⟨Ao6, co6, eo6⟩ := Kd.R_slice HO0.out
 subst eo6
 go_enter Tryd.func69, Tryd.ntmps69
 go_wp2_with (first | ((with_reducible refine gate_callee (f := 69) rfl ?_); refine goesL_ (some 10) rfl rfl Tryd.func69 (by kernel_rfl) rfl #[.slice Ao6 l0.length co6, .int .i64 (wrap64 (Int.tdiv a1 10))] rfl sqA ?_; (with_reducible refine (ih k (by omega) (fun k_ => some k_ = (.slice Ao6 l0.length co6 : Value).ownBlock) (.slice Ao6 l0.length co6) l0 (wrap64 (Int.tdiv a1 10)) t104 w0 _ ?side1 ?side2 A4.out).mono ?_); (case side1 => exact sqB HB.out); (case side2 => exact Kd.R_tight rfl HO0.out); rintro e w7 ⟨v105, rfl, ho0, hb, hkp⟩; refine ⟨_, rfl, ?_⟩; have HO106 := sqM (Kd.R_mono (ok' := fun k_ => (P0_ k_ ∨ w.heap.size ≤ k_)) ho0 (fun k_ hk_ => Or.elim hk_ (fun hs_ => (HO0.out.1 k_ (hs_).symm)) (fun hn_ => (.inr (Nat.le_trans (by first | exact HK.out.1 | exact (show Kept w _ (fun k_ => P0_ k_) from by repeat (first | (with_reducible first | exact HK.out | apply Kept.alloc | apply Kept.drewN | apply Kept.drew) | exact HK.out)).1) hn_))))); replace HK := sqM (Kept.then_ (S := (fun k_ => P0_ k_)) (by repeat (first | (with_reducible first | exact HK.out | apply Kept.alloc | apply Kept.drewN | apply Kept.drew) | exact HK.out)) hkp (fun k_ hs_ => (fun e_ => (HO0.out.1 k_ e_.symm)) hs_)); replace HB := sqM (hb); clear HO0; (try clear hb); (try clear hkp); (try clear ho0)) | ((with_reducible refine gate_builtin (b := .append) (xs := #[.tmp 11, .tmp 16]) rfl ?_); at_builtin; refine Kd.R_append (Kd.int .u8) (w0 := w0) w0.heap.size rfl (.tmp 11) (.tmp 16) 59 5 (.int .u8 0) 1 rfl Tryd.underlying59 info5 rfl (by decide) (by omega) v105 t104 ((wrap64 (48 + (Int.tmod a1 10))) % 256) [.int .u8 ((wrap64 (48 + (Int.tmod a1 10))) % 256)] (fun k_ => (P0_ k_ ∨ w.heap.size ≤ k_)) (fun _ => False) rfl rfl ?aP (fun _ hk => hk.elim) ?aF ?aO ?aB ?aS ?aL ?_; (case aP => exact rfl); (case aB => exact (sqB HB.out)); (case aF => exact (fun k_ hk => (.inr (Nat.le_trans (by first | exact HK.out.1 | exact (show Kept w _ (fun k_ => P0_ k_) from by repeat (first | (with_reducible first | exact HK.out | apply Kept.alloc | apply Kept.drewN | apply Kept.drew) | exact HK.out)).1) hk)))); (case aO => exact (sqR HO106.out)); (case aS => exact (below_size (sqB HB.out))); (case aL => have := LMc5.out; omega); intro v108 w8 ho hb hg hat; rw [← Ny107.out] at ho; have HO109 := sqM (ho); replace HB := sqM (hb); replace HK := sqM (Kept.of_grown (S := (fun k_ => P0_ k_)) hg (by repeat (first | (with_reducible first | exact HK.out | apply Kept.alloc | apply Kept.drewN | apply Kept.drew) | exact HK.out)) (fun k_ e_ => (HO106.out.1 k_ e_))); clear HO106; clear ho hb hg hat))
 go_ret
 exact ⟨_, sqE, by refine sqR ?_; exact HO109.out, sqB HB.out, by repeat (first | (with_reducible first | exact HK.out | apply Kept.alloc | apply Kept.drewN | apply Kept.drew) | exact HK.out)⟩

/-! ### addr_Text: function 34 -/
def addr_Text.l0 : Nat → Int → List Int → Int → Option (ByteArray × Int)
  | 0, _, _, _ => none
  | k + 1, x0, x4, x5 => if x5 ≥ 0 then (if (x4.length : Int) > 0 then (if x4.length < 140737488355328 then (if 0 ≤ x5 then ((addr_digits.f k (x4 ++ [46]) (Go.bits .and .i64 (shr .i64 x0 x5) 255)).bind fun t117 => (addr_Text.l0 k x0 t117 (wrap64 (x5 - 8)))) else (none)) else (none)) else (if 0 ≤ x5 then ((addr_digits.f k x4 (Go.bits .and .i64 (shr .i64 x0 x5) 255)).bind fun t120 => (addr_Text.l0 k x0 t120 (wrap64 (x5 - 8)))) else (none))) else (some (strOfNums x4, 0))
def addr_Text.f (k : Nat) (a0 : Int) : Option (ByteArray × Int) := (addr_Right.f a0).bind fun t113 => (if t113 = true then (addr_Text.l0 k a0 ([] : List Int) 24) else (some ((⟨#[]⟩ : ByteArray), 1)))
theorem addr_Text.mono_l : ∀ k, (∀ y0 y1 y2, LeO (addr_Text.l0 k y0 y1 y2) (addr_Text.l0 (k + 1) y0 y1 y2))
  | 0 => fun _ _ _ r h => by simp [addr_Text.l0] at h
  | k + 1 => by
    have ih0 := addr_Text.mono_l k
    · intro y0 y1 y2
      unfold addr_Text.l0
      repeat' first
      | (with_reducible exact ih0 _ _ _)
      | (with_reducible exact addr_digits.mono _ _ _)
      | (with_reducible exact LeO.refl _)
      | (with_reducible exact LeO.none _)
      | (with_reducible refine LeO.ite ?_ ?_)
      | (with_reducible refine LeO.bind ?_ (fun _ => ?_))
theorem addr_Text.mono : ∀ a0 k, LeO (addr_Text.f k a0) (addr_Text.f (k + 1) a0) := by
 intro a0 k
 have ih0 := addr_Text.mono_l k
 unfold addr_Text.f
 repeat' first
  | (with_reducible exact ih0 _ _ _)
  | (with_reducible exact addr_digits.mono _ _ _)
  | (with_reducible exact LeO.refl _)
  | (with_reducible exact LeO.none _)
  | (with_reducible refine LeO.ite ?_ ?_)
  | (with_reducible refine LeO.bind ?_ (fun _ => ?_))
set_option maxHeartbeats 8000000 in
set_option maxRecDepth 100000 in
theorem addr_Text.calls (k : Nat) (a0 : Int) (r1 : ByteArray) (r2 : Int) (w : World) (h : addr_Text.f k a0 = some (r1, r2)) :
    Calls Tryd.prog 34 #[.int .i64 a0] w fun e w' => e = .returned (.tuple #[.string r1, .int .i64 r2]) ∧ Below w.heap.size w w' := by
 have HB := Aside0.mk (Below.refl w.heap.size w)
 have H : ((addr_Right.f a0).bind fun t113 => (if t113 = true then (addr_Text.l0 k a0 ([] : List Int) 24) else (some ((⟨#[]⟩ : ByteArray), 1)))) = some (r1, r2) := h
 clear h
 replace H := Option.bind_eq_some_iff.mp H
 obtain ⟨t113, A20, H⟩ := H
 replace H : (if t113 = true then (addr_Text.l0 k a0 ([] : List Int) 24) else (some ((⟨#[]⟩ : ByteArray), 1))) = some (r1, r2) := H
 have A2 := Aside0.mk A20
 clear A20
 by_cases c3 : t113 = true
 rotate_left
 · replace c3 := Bool.eq_false_iff.mpr c3
   subst c3
   have H1 : (some ((⟨#[]⟩ : ByteArray), 1)) = some (r1, r2) := by rw [if_neg (show ¬ (false = true) by decide)] at H; exact H
   clear H
   have H := H1
   clear H1
   simp only [Option.some.injEq, Prod.mk.injEq] at H
   obtain ⟨rfl, rfl⟩ := H
   go_enter Tryd.func34, Tryd.ntmps34
   go_wp2_with (first | ((with_reducible refine gate_callee (f := 67) rfl ?_); refine goesL_ (some 7) rfl rfl Tryd.func67 (by kernel_rfl) rfl #[.int .i64 a0] rfl sqA ?_; (with_reducible refine (addr_Right.calls _ _ _ A2.out).mono ?_); rintro e w' ⟨rfl, ⟨nd, rfl⟩⟩; refine ⟨_, rfl, ?_⟩))
   go_ret2
   exact ⟨sqE, sqB HB.out⟩
 subst c3
 have H1 : (addr_Text.l0 k a0 ([] : List Int) 24) = some (r1, r2) := by rw [if_pos rfl] at H; exact H
 clear H
 have H := H1
 clear H1
 have H' := Aside0.mk H
 clear H
 go_enter Tryd.func34, Tryd.ntmps34
 go_wp2_with (first | ((with_reducible refine gate_callee (f := 67) rfl ?_); refine goesL_ (some 7) rfl rfl Tryd.func67 (by kernel_rfl) rfl #[.int .i64 a0] rfl sqA ?_; (with_reducible refine (addr_Right.calls _ _ _ A2.out).mono ?_); rintro e w' ⟨rfl, ⟨nd, rfl⟩⟩; refine ⟨_, rfl, ?_⟩))
 go_loopg [4, 5] k (fun kq v4 v5 w' => ∃ (x4_1 : List Int) (x5_1 : Int), v5 = .int .i64 x5_1 ∧ Aside0 (addr_Text.l0 kq a0 x4_1 x5_1 = some (r1, r2)) ∧ Aside0 (kq ≤ k) ∧ Aside0 (Kd.R (Kd.int .u8) 5 w' w.heap.size (fun _ => True) v4 x4_1) ∧ Aside0 (Below w.heap.size w w'))
 case atStart => exact ⟨(([] : List Int)), (24), sqI, H', ⟨Nat.le_refl _⟩, ⟨by first | exact Kd.R_nil _ _ _ _ _ | exact Kd.N_nil _ _ _ _ _ | exact Kd.V_nil _ _ _ _ _ | exact Kd.Q_nil _ _ _ _ _ | exact Kd.S_nil _ _ _ _ _⟩, ⟨sqB HB.out⟩⟩
 clear H'
 try clear p2
 try clear c3
 obtain ⟨x4_1, x5_1, rfl, HA, HK1, HO_4, HB⟩ := hrel
 cases gk with
 | zero => exact absurd HA.out (by simp [addr_Text.l0])
 | succ k1 => ?_
 have H := HA.out
 clear HA
 simp only [addr_Text.l0] at H
 by_cases c4 : x5_1 ≥ 0
 rotate_left
 · rw [if_neg c4] at H
   have c4b0 : decide (0 ≤ x5_1) = false := decide_eq_false c4
   clear c4
   simp only [Option.some.injEq, Prod.mk.injEq] at H
   obtain ⟨rfl, rfl⟩ := H
   have hcv19 := own_string (P := Tryd.prog) Tryd.underlying59 Tryd.underlying5 Tryd.underlying9 (Kd.own_of_R HO_4.out)
   have hcw20 := fun n_ => own_string (P := Tryd.prog) Tryd.underlying59 Tryd.underlying5 Tryd.underlying9 (Kd.own_of_R (Kd.R_drewN HO_4.out n_))
   go_wp2
   go_ret2
   exact ⟨sqE, sqB HB.out⟩
 rw [if_pos c4] at H
 have c4b0 : decide (0 ≤ x5_1) = true := decide_eq_true c4
 clear c4
 by_cases c5 : (x4_1.length : Int) > 0
 rotate_left
 · rw [if_neg c5] at H
   have c5b0 : decide (0 < (x4_1.length : Int)) = false := decide_eq_false c5
   have c5b1 : decide (0 < x4_1.length) = false := decide_eq_false (by omega)
   clear c5
   by_cases c14 : 0 ≤ x5_1
   rotate_left
   · rw [if_neg c14] at H
     exact absurd H (by simp)
   rw [if_pos c14] at H
   have c14b0 := eq_true c14
   have c14b1 : decide (0 ≤ x5_1) = true := decide_eq_true c14
   clear c14
   obtain ⟨ji15, hji15⟩ : ∃ j_ : Int, (shr .i64 a0 x5_1) = j_ := ⟨_, rfl⟩
   replace H : ((addr_digits.f k1 x4_1 (Go.bits .and .i64 (ji15) 255)).bind fun t120 => (addr_Text.l0 k1 a0 t120 (wrap64 (x5_1 - 8)))) = some (r1, r2) := by first | (rw [hji15] at H; exact H) | (simp only [hji15] at H ⊢; exact H)
   have hji15_ : (a0 / 2 ^ min x5_1.toNat 64) = ji15 := hji15
   have hji15z : x5_1 ≤ 64 → (a0 / 2 ^ x5_1.toNat) = ji15 := shr_small hji15
   replace H := Option.bind_eq_some_iff.mp H
   obtain ⟨t120, A160, H⟩ := H
   replace H : (addr_Text.l0 k1 a0 t120 (wrap64 (x5_1 - 8))) = some (r1, r2) := H
   have A16 := Aside0.mk A160
   clear A160
   have H' := Aside0.mk H
   clear H
   obtain ⟨Ao17, co17, eo17⟩ := Kd.R_slice HO_4.out
   subst eo17
   go_wp2_with (first | ((with_reducible refine gate_callee (f := 69) rfl ?_); refine goesL_ (some 24) rfl rfl Tryd.func69 (by kernel_rfl) rfl #[.slice Ao17 x4_1.length co17, .int .i64 (Go.bits .and .i64 (ji15) 255)] rfl (by (try simp only [List.map_toArray, List.map_cons, List.map_nil]); first | done | (simp only [hji15]; rfl) | rfl | (simp only [List.length_drop, List.length_take]; rfl)) ?_; (with_reducible refine (addr_digits.calls k1 (fun k_ => some k_ = (.slice Ao17 x4_1.length co17 : Value).ownBlock) (.slice Ao17 x4_1.length co17) x4_1 (Go.bits .and .i64 (ji15) 255) t120 w _ ?side1 ?side2 A16.out).mono ?_); (case side1 => exact sqB HB.out); (case side2 => exact Kd.R_tight rfl HO_4.out); rintro e w18 ⟨v121, rfl, ho0, hb, hkp⟩; refine ⟨_, rfl, ?_⟩; have HO122 := sqM (Kd.R_mono (ok' := fun k_ => True) ho0 (fun k_ hk_ => trivial)); replace HB := sqM (hb); clear HO_4; (try clear hb); (try clear hkp); (try clear ho0)))
   go_roundg k1
   case measure => have := HK1.out; omega
   case rel => exact ⟨(t120), (wrap64 (x5_1 - 8)), sqI, H', ⟨by have := HK1.out; omega⟩, ⟨sqR HO122.out⟩, ⟨sqB HB.out⟩⟩
 rw [if_pos c5] at H
 have c5b0 : decide (0 < (x4_1.length : Int)) = true := decide_eq_true c5
 have c5b1 : decide (0 < x4_1.length) = true := decide_eq_true (by omega)
 clear c5
 by_cases c6 : x4_1.length < 140737488355328
 rotate_left
 · rw [if_neg c6] at H
   exact absurd H (by simp)
 rw [if_pos c6] at H
 have LMc6 := Aside0.mk c6
 clear c6
 obtain ⟨y114, hy114⟩ : ∃ y_ : List Int, y_ = (x4_1 ++ [46]) := ⟨_, rfl⟩
 replace H : (if 0 ≤ x5_1 then ((addr_digits.f k1 y114 (Go.bits .and .i64 (shr .i64 a0 x5_1) 255)).bind fun t117 => (addr_Text.l0 k1 a0 t117 (wrap64 (x5_1 - 8)))) else (none)) = some (r1, r2) := by first | (rw [hy114]; with_reducible exact H) | (have H2_ := (Option.bind_some _ _).symm.trans H; rw [hy114]; with_reducible exact H2_) | (have H2_ := (Option.bind_some _ _).symm.trans H; with_reducible exact H2_) | with_reducible exact H | (rw [hy114]; exact H) | exact H
 have Ny114 := Aside0.mk hy114
 clear hy114
 by_cases c7 : 0 ≤ x5_1
 rotate_left
 · rw [if_neg c7] at H
   exact absurd H (by simp)
 rw [if_pos c7] at H
 have c7b0 := eq_true c7
 have c7b1 : decide (0 ≤ x5_1) = true := decide_eq_true c7
 clear c7
 obtain ⟨ji8, hji8⟩ : ∃ j_ : Int, (shr .i64 a0 x5_1) = j_ := ⟨_, rfl⟩
 replace H : ((addr_digits.f k1 y114 (Go.bits .and .i64 (ji8) 255)).bind fun t117 => (addr_Text.l0 k1 a0 t117 (wrap64 (x5_1 - 8)))) = some (r1, r2) := by first | (rw [hji8] at H; exact H) | (simp only [hji8] at H ⊢; exact H)
 have hji8_ : (a0 / 2 ^ min x5_1.toNat 64) = ji8 := hji8
 have hji8z : x5_1 ≤ 64 → (a0 / 2 ^ x5_1.toNat) = ji8 := shr_small hji8
 replace H := Option.bind_eq_some_iff.mp H
 obtain ⟨t117, A90, H⟩ := H
 replace H : (addr_Text.l0 k1 a0 t117 (wrap64 (x5_1 - 8))) = some (r1, r2) := H
 have A9 := Aside0.mk A90
 clear A90
 have H' := Aside0.mk H
 clear H
 obtain ⟨Ao10, co10, eo10⟩ := Kd.R_slice HO_4.out
 subst eo10
 go_wp2_with (first | ((with_reducible refine gate_builtin (b := .append) (xs := #[.tmp 16, .tmp 17]) rfl ?_); at_builtin; refine Kd.R_append (Kd.int .u8) (w0 := w) w.heap.size rfl (.tmp 16) (.tmp 17) 59 5 (.int .u8 0) 1 rfl Tryd.underlying59 info5 rfl (by decide) (by omega) (.slice Ao10 x4_1.length co10) x4_1 46 [.int .u8 46] (fun _ => True) (fun _ => False) rfl rfl ?aP (fun _ hk => hk.elim) ?aF ?aO ?aB ?aS ?aL ?_; (case aP => exact rfl); (case aB => exact (sqB HB.out)); (case aF => exact (fun _ _ => trivial)); (case aO => exact (sqR HO_4.out)); (case aS => exact (below_size (sqB HB.out))); (case aL => have := LMc6.out; omega); intro v115 w11 ho hb hg hat; rw [← Ny114.out] at ho; have HO116 := sqM (ho); replace HB := sqM (hb); clear HO_4; clear ho hb hg hat; obtain ⟨Ao12, co12, eo12⟩ := Kd.R_slice HO116.out; subst eo12) | ((with_reducible refine gate_callee (f := 69) rfl ?_); refine goesL_ (some 24) rfl rfl Tryd.func69 (by kernel_rfl) rfl #[.slice Ao12 y114.length co12, .int .i64 (Go.bits .and .i64 (ji8) 255)] rfl (by (try simp only [List.map_toArray, List.map_cons, List.map_nil]); first | done | (simp only [hji8]; rfl) | rfl | (simp only [List.length_drop, List.length_take]; rfl)) ?_; (with_reducible refine (addr_digits.calls k1 (fun k_ => some k_ = (.slice Ao12 y114.length co12 : Value).ownBlock) (.slice Ao12 y114.length co12) y114 (Go.bits .and .i64 (ji8) 255) t117 w _ ?side1 ?side2 A9.out).mono ?_); (case side1 => exact sqB HB.out); (case side2 => exact Kd.R_tight rfl HO116.out); rintro e w13 ⟨v118, rfl, ho0, hb, hkp⟩; refine ⟨_, rfl, ?_⟩; have HO119 := sqM (Kd.R_mono (ok' := fun k_ => True) ho0 (fun k_ hk_ => trivial)); replace HB := sqM (hb); clear HO116; (try clear hb); (try clear hkp); (try clear ho0)))
 go_roundg k1
 case measure => have := HK1.out; omega
 case rel => exact ⟨(t117), (wrap64 (x5_1 - 8)), sqI, H', ⟨by have := HK1.out; omega⟩, ⟨sqR HO119.out⟩, ⟨sqB HB.out⟩⟩

/-! ### key_Text: function 35 -/
def key_Text.l0 : Nat → List Int → List Int → Int → Int → Option (ByteArray × Int)
  | 0, _, _, _, _ => none
  | k + 1, x4, x15, x16, x17 => if x17 < x16 then (if 0 ≤ x17 then (if x17 < (x15.length : Int) then (if 0 ≤ ((Int.tdiv (rd x15 x17) 16) % 256) then (if ((Int.tdiv (rd x15 x17) 16) % 256) < 16 then (if 0 ≤ (Int.tmod (rd x15 x17) 16) then (if (Int.tmod (rd x15 x17) 16) < 16 then ((some (([rd tab1 ((Int.tdiv (rd x15 x17) 16) % 256), rd tab1 (Int.tmod (rd x15 x17) 16)] : List Int) : List Int)).bind fun y133 => (if x4.length + y133.length < 140737488355328 then (key_Text.l0 k (x4 ++ y133) x15 x16 (wrap64 (x17 + 1))) else (none))) else (none)) else (none)) else (none)) else (none)) else (none)) else (none)) else (some (strOfNums x4, 0))
def key_Text.f (k : Nat) (a0 : ByteArray) : Option (ByteArray × Int) := (key_Right.f a0).bind fun t123 => (if t123 = true then (if 0 < (a0.size : Int) then (if 1 ≤ (a0.size : Int) then (if ((a0.extract 1 a0.size).size : Int) ≤ 281474976710656 then ((some (bytesOf (a0.extract 1 a0.size) : List Int)).bind fun y127 => (key_Text.l0 k (([bt a0 0, 45] : List Int)) y127 (y127.length : Int) 0)) else (none)) else (none)) else (none)) else (some ((⟨#[]⟩ : ByteArray), 1)))
theorem key_Text.mono_l : ∀ k, (∀ y0 y1 y2 y3, LeO (key_Text.l0 k y0 y1 y2 y3) (key_Text.l0 (k + 1) y0 y1 y2 y3))
  | 0 => fun _ _ _ _ r h => by simp [key_Text.l0] at h
  | k + 1 => by
    have ih0 := key_Text.mono_l k
    · intro y0 y1 y2 y3
      unfold key_Text.l0
      repeat' first
      | (with_reducible exact ih0 _ _ _ _)
      | (with_reducible exact LeO.refl _)
      | (with_reducible exact LeO.none _)
      | (with_reducible refine LeO.ite ?_ ?_)
      | (with_reducible refine LeO.bind ?_ (fun _ => ?_))
theorem key_Text.mono : ∀ a0 k, LeO (key_Text.f k a0) (key_Text.f (k + 1) a0) := by
 intro a0 k
 have ih0 := key_Text.mono_l k
 unfold key_Text.f
 repeat' first
  | (with_reducible exact ih0 _ _ _ _)
  | (with_reducible exact LeO.refl _)
  | (with_reducible exact LeO.none _)
  | (with_reducible refine LeO.ite ?_ ?_)
  | (with_reducible refine LeO.bind ?_ (fun _ => ?_))
def key_Text.T7 : Bool × List (List Nat × List Nat) := (true, [([], []), ([], []), ([1], [1]), ([2], [2]), ([3], [3]), ([], []), ([5], [5]), ([6], [6]), ([7], [7]), ([4, 8], [4, 8]), ([0, 9], [0, 9]), ([10, 10, 0, 1, 2, 3, 4, 5, 6, 7, 8, 9, 10], [0, 10])])
def key_Text.B7 : List Nat := [0, 0, 2, 6, 14, 0, 32, 96, 224, 510, 1023, 2047]
theorem key_Text.tab7 : rtab .any (opsOf Tryd.f35 7) = key_Text.T7 := by kernel_rfl
theorem key_Text.bits7 : waitsOk key_Text.T7.2 key_Text.B7 = true := by kernel_rfl
set_option maxHeartbeats 8000000 in
set_option maxRecDepth 100000 in
theorem key_Text.calls (k : Nat) (a0 : ByteArray) (r1 : ByteArray) (r2 : Int) (w : World) (hT : TabW w) (h : key_Text.f k a0 = some (r1, r2)) :
    Calls Tryd.prog 35 #[.string a0] w fun e w' => e = .returned (.tuple #[.string r1, .int .i64 r2]) ∧ Below w.heap.size w w' := by
 have HT := Aside0.mk hT
 clear hT
 have HRT1 := Aside0.mk HT.out.t1
 have HRT0 := Aside0.mk HT.out.t0
 have HB := Aside0.mk (Below.refl w.heap.size w)
 have H : ((key_Right.f a0).bind fun t123 => (if t123 = true then (if 0 < (a0.size : Int) then (if 1 ≤ (a0.size : Int) then (if ((a0.extract 1 a0.size).size : Int) ≤ 281474976710656 then ((some (bytesOf (a0.extract 1 a0.size) : List Int)).bind fun y127 => (key_Text.l0 k (([bt a0 0, 45] : List Int)) y127 (y127.length : Int) 0)) else (none)) else (none)) else (none)) else (some ((⟨#[]⟩ : ByteArray), 1)))) = some (r1, r2) := h
 clear h
 replace H := Option.bind_eq_some_iff.mp H
 obtain ⟨t123, A20, H⟩ := H
 replace H : (if t123 = true then (if 0 < (a0.size : Int) then (if 1 ≤ (a0.size : Int) then (if ((a0.extract 1 a0.size).size : Int) ≤ 281474976710656 then ((some (bytesOf (a0.extract 1 a0.size) : List Int)).bind fun y127 => (key_Text.l0 k (([bt a0 0, 45] : List Int)) y127 (y127.length : Int) 0)) else (none)) else (none)) else (none)) else (some ((⟨#[]⟩ : ByteArray), 1))) = some (r1, r2) := H
 have A2 := Aside0.mk A20
 clear A20
 by_cases c3 : t123 = true
 rotate_left
 · replace c3 := Bool.eq_false_iff.mpr c3
   subst c3
   have H1 : (some ((⟨#[]⟩ : ByteArray), 1)) = some (r1, r2) := by rw [if_neg (show ¬ (false = true) by decide)] at H; exact H
   clear H
   have H := H1
   clear H1
   simp only [Option.some.injEq, Prod.mk.injEq] at H
   obtain ⟨rfl, rfl⟩ := H
   go_enter Tryd.func35, Tryd.ntmps35
   go_wp2_with (first | ((with_reducible refine gate_callee (f := 68) rfl ?_); refine goesL_ (some 8) rfl rfl Tryd.func68 (by kernel_rfl) rfl #[.string a0] rfl sqA ?_; (with_reducible refine (key_Right.calls _ _ _ A2.out).mono ?_); rintro e w' ⟨rfl, ⟨nd, rfl⟩⟩; refine ⟨_, rfl, ?_⟩))
   go_ret2
   exact ⟨sqE, sqB HB.out⟩
 subst c3
 have H1 : (if 0 < (a0.size : Int) then (if 1 ≤ (a0.size : Int) then (if ((a0.extract 1 a0.size).size : Int) ≤ 281474976710656 then ((some (bytesOf (a0.extract 1 a0.size) : List Int)).bind fun y127 => (key_Text.l0 k (([bt a0 0, 45] : List Int)) y127 (y127.length : Int) 0)) else (none)) else (none)) else (none)) = some (r1, r2) := by rw [if_pos rfl] at H; exact H
 clear H
 have H := H1
 clear H1
 by_cases c4 : 0 < (a0.size : Int)
 rotate_left
 · rw [if_neg c4] at H
   exact absurd H (by simp)
 rw [if_pos c4] at H
 have c4b0 : decide (0 < (a0.size : Int)) = true := decide_eq_true c4
 have c4b1 : decide (0 < a0.size) = true := decide_eq_true (by omega)
 clear c4
 obtain ⟨y124, hy124⟩ : ∃ y_ : List Int, y_ = (([bt a0 0, 45] : List Int)) := ⟨_, rfl⟩
 replace H : (if 1 ≤ (a0.size : Int) then (if ((a0.extract 1 a0.size).size : Int) ≤ 281474976710656 then ((some (bytesOf (a0.extract 1 a0.size) : List Int)).bind fun y127 => (key_Text.l0 k y124 y127 (y127.length : Int) 0)) else (none)) else (none)) = some (r1, r2) := by first | (rw [hy124]; with_reducible exact H) | (have H2_ := (Option.bind_some _ _).symm.trans H; rw [hy124]; with_reducible exact H2_) | (have H2_ := (Option.bind_some _ _).symm.trans H; with_reducible exact H2_) | with_reducible exact H | (rw [hy124]; exact H) | exact H
 have Ny124 := Aside0.mk hy124
 clear hy124
 by_cases c6 : 1 ≤ (a0.size : Int)
 rotate_left
 · rw [if_neg c6] at H
   exact absurd H (by simp)
 rw [if_pos c6] at H
 have c6b0 := eq_true c6
 have c6b1 : decide (1 ≤ (a0.size : Int)) = true := decide_eq_true c6
 clear c6
 by_cases c7 : ((a0.extract 1 a0.size).size : Int) ≤ 281474976710656
 rotate_left
 · rw [if_neg c7] at H
   exact absurd H (by simp)
 rw [if_pos c7] at H
 have c7b0 := eq_true c7
 have c7b1 : decide (((a0.extract 1 a0.size).size : Int) ≤ 281474976710656) = true := decide_eq_true c7
 clear c7
 obtain ⟨y127, hy127⟩ : ∃ y_ : List Int, y_ = (bytesOf (a0.extract 1 a0.size)) := ⟨_, rfl⟩
 replace H : (key_Text.l0 k y124 y127 (y127.length : Int) 0) = some (r1, r2) := by first | (rw [hy127]; with_reducible exact H) | (have H2_ := (Option.bind_some _ _).symm.trans H; rw [hy127]; with_reducible exact H2_) | (have H2_ := (Option.bind_some _ _).symm.trans H; with_reducible exact H2_) | with_reducible exact H | (rw [hy127]; exact H) | exact H
 have Ny127 := Aside0.mk hy127
 clear hy127
 have H' := Aside0.mk H
 clear H
 go_enter Tryd.func35, Tryd.ntmps35
 go_wp2_with (first | ((with_reducible refine gate_callee (f := 68) rfl ?_); refine goesL_ (some 8) rfl rfl Tryd.func68 (by kernel_rfl) rfl #[.string a0] rfl sqA ?_; (with_reducible refine (key_Right.calls _ _ _ A2.out).mono ?_); rintro e w' ⟨rfl, ⟨nd, rfl⟩⟩; refine ⟨_, rfl, ?_⟩; have p5 : 0 ≤ (0 : Int) := (by omega); have q5 : 0 < a0.size := (by have : (0 : Int) < (a0.size : Int) := of_decide_eq_true sqH; omega); have hx5 : ∀ h : 0 < a0.size, ((a0[0]'h).toNat : Int) = bt a0 0 := bt_at a0 0; clear p5; have qi5 : (0 < (a0.size : Int)) = True := eq_true (of_decide_eq_true sqH); replace q5 := eq_true q5) | ((with_reducible refine gate_dst (N := 12) rfl ?_); refine Kd.R_lit (Kd.int .u8) _ 5 ?hg (N := 12) ?hd (xs := ([bt a0 0, 45] : List Int)) (inner := [.int .u8 (bt a0 0), .int .u8 45]) (ok := fun _ => True) (okp := fun _ => True) ?hr ?hp (fun _ hk => hk) trivial (Below.refl _ _) (Nat.le_refl _) (by simp) ?_; (case hd => rfl); (case hg => rfl); (case hr => first | (go_simp; done) | (go_simp; rfl)); (case hp => exact (Reps.one (show Kd.M (Kd.int .u8) _ _ _ (bt a0 0) [.int .u8 (bt a0 0)] from rfl) (Reps.one (show Kd.M (Kd.int .u8) _ _ _ 45 [.int .u8 45] from rfl) (Reps.none _ _)))); intro v125 w8 ho9 hb hg_ hnew_; clear hg_ hnew_; (first | rw [← Ny124.out] at ho9 | (simp only [Int.reduceToNat] at ho9; rw [← Ny124.out] at ho9)); have HO126 := sqM (Kd.R_lower ho9 (below_size (sqB HB.out))); replace HB := sqM (below_step (sqB HB.out) hb); clear hb ho9) | ((with_reducible refine gate_dst (N := 15) rfl ?_); refine Kd.V_bytes _ 5 rfl (N := 15) rfl 9 59 _ rfl Tryd.underlying9 Tryd.underlying59 Tryd.underlying5 (a0.extract 1 a0.size) rfl (by have h_ : ((a0.extract 1 a0.size).size : Int) ≤ (281474976710656 : Int) := of_decide_eq_true sqH; omega) (ok := (fun k_ => some k_ ≠ (v125 : Value).ownBlock)) (okp := (fun k_ => some k_ ≠ (v125 : Value).ownBlock)) (fun _ hk => hk) ((show ∀ k_, w8.heap.size ≤ k_ → (fun k_ => some k_ ≠ (v125 : Value).ownBlock) k_ from fun k_ hk => Kd.fresh' (Kd.R_lt (sqR HO126.out)) k_ hk) _ (Nat.le_refl _)) (Below.refl _ _) (Nat.le_refl _) ?_; intro v128 w10 ho11 hb hg_ hnew_; clear hg_ hnew_; (first | rw [← Ny127.out] at ho11 | (simp only [Int.reduceToNat] at ho11; rw [← Ny127.out] at ho11)); have HO129 := sqM (Kd.V_lower ho11 (below_size (sqB HB.out))); replace HO126 := sqM (Kd.R_below (sqR HO126.out) hb); replace HB := sqM (below_step (sqB HB.out) hb); clear hb ho11; obtain ⟨Ao12, co12, eo12⟩ := Kd.V_slice HO129.out; subst eo12))
 go_loopg [4, 17] k (fun kq v4 v17 w' => ∃ (x4_1 : List Int) (x17_1 : Int), v17 = .int .i64 x17_1 ∧ Aside0 (key_Text.l0 kq x4_1 y127 (y127.length : Int) x17_1 = some (r1, r2)) ∧ Aside0 (kq ≤ k) ∧ Aside0 (Kd.R (Kd.int .u8) 5 w' w.heap.size (fun _ => True) v4 x4_1) ∧ Aside0 (Kd.V (Kd.int .u8) 5 w' w.heap.size (fun k_ => some k_ ≠ (v4 : Value).ownBlock) (.slice Ao12 y127.length co12) y127) ∧ Aside0 (Below w.heap.size w w'))
 case atStart => exact ⟨(y124), (0), sqI, H', ⟨Nat.le_refl _⟩, ⟨sqR HO126.out⟩, ⟨sqV HO129.out⟩, ⟨sqB HB.out⟩⟩
 clear H'
 try clear p2
 try clear c3
 try clear c4
 try clear c4b0
 try clear c4b1
 try clear p5
 try clear q5
 try clear hx5
 try clear qi5
 try clear c6
 try clear c6b0
 try clear c6b1
 try clear c7
 try clear c7b0
 try clear c7b1
 try clear p5
 try clear q5
 obtain ⟨x4_1, x17_1, rfl, HA, HK1, HO_4, HO_15, HB⟩ := hrel
 cases gk with
 | zero => exact absurd HA.out (by simp [key_Text.l0])
 | succ k1 => ?_
 have H := HA.out
 clear HA
 simp only [key_Text.l0] at H
 by_cases c13 : x17_1 < (y127.length : Int)
 rotate_left
 · rw [if_neg c13] at H
   have c13b0 : decide (x17_1 < (y127.length : Int)) = false := decide_eq_false c13
   clear c13
   simp only [Option.some.injEq, Prod.mk.injEq] at H
   obtain ⟨rfl, rfl⟩ := H
   have hcv28 := own_string (P := Tryd.prog) Tryd.underlying59 Tryd.underlying5 Tryd.underlying9 (Kd.own_of_R HO_4.out)
   have hcw29 := fun n_ => own_string (P := Tryd.prog) Tryd.underlying59 Tryd.underlying5 Tryd.underlying9 (Kd.own_of_R (Kd.R_drewN HO_4.out n_))
   go_wp2
   go_ret2
   exact ⟨sqE, sqB HB.out⟩
 rw [if_pos c13] at H
 have c13b0 : decide (x17_1 < (y127.length : Int)) = true := decide_eq_true c13
 clear c13
 by_cases c14 : 0 ≤ x17_1
 rotate_left
 · rw [if_neg c14] at H
   exact absurd H (by simp)
 rw [if_pos c14] at H
 have c14b0 : decide (0 ≤ x17_1) = true := decide_eq_true c14
 clear c14
 by_cases c15 : x17_1 < (y127.length : Int)
 rotate_left
 · rw [if_neg c15] at H
   exact absurd H (by simp)
 rw [if_pos c15] at H
 have c15b0 : decide (x17_1 < (y127.length : Int)) = true := decide_eq_true c15
 clear c15
 obtain ⟨ji16, hji16⟩ : ∃ j_ : Int, ((Int.tdiv (rd y127 x17_1) 16) % 256) = j_ := ⟨_, rfl⟩
 have hw_ji16 : IntKind.u8.wrap ((Int.tdiv (rd y127 x17_1) 16)) = ji16 := (IntKind.wrap_u8 _).trans hji16
 replace H : (if 0 ≤ (ji16) then (if (ji16) < 16 then (if 0 ≤ (Int.tmod (rd y127 x17_1) 16) then (if (Int.tmod (rd y127 x17_1) 16) < 16 then ((some (([rd tab1 (ji16), rd tab1 (Int.tmod (rd y127 x17_1) 16)] : List Int) : List Int)).bind fun y133 => (if x4_1.length + y133.length < 140737488355328 then (key_Text.l0 k1 (x4_1 ++ y133) y127 (y127.length : Int) (wrap64 (x17_1 + 1))) else (none))) else (none)) else (none)) else (none)) else (none)) = some (r1, r2) := by first | (rw [hji16] at H; exact H) | (simp only [hji16] at H ⊢; exact H)
 by_cases c17 : 0 ≤ (ji16)
 rotate_left
 · rw [if_neg c17] at H
   exact absurd H (by simp)
 rw [if_pos c17] at H
 have c17b0 : decide (0 ≤ (ji16)) = true := decide_eq_true c17
 clear c17
 by_cases c18 : (ji16) < 16
 rotate_left
 · rw [if_neg c18] at H
   exact absurd H (by simp)
 rw [if_pos c18] at H
 have c18b0 : decide ((ji16) < 16) = true := decide_eq_true c18
 clear c18
 obtain ⟨ji19, hji19⟩ : ∃ j_ : Int, (Int.tmod (rd y127 x17_1) 16) = j_ := ⟨_, rfl⟩
 replace H : (if 0 ≤ (ji19) then (if (ji19) < 16 then ((some (([rd tab1 (ji16), rd tab1 (ji19)] : List Int) : List Int)).bind fun y133 => (if x4_1.length + y133.length < 140737488355328 then (key_Text.l0 k1 (x4_1 ++ y133) y127 (y127.length : Int) (wrap64 (x17_1 + 1))) else (none))) else (none)) else (none)) = some (r1, r2) := by first | (rw [hji19] at H; exact H) | (simp only [hji19] at H ⊢; exact H)
 by_cases c20 : 0 ≤ (ji19)
 rotate_left
 · rw [if_neg c20] at H
   exact absurd H (by simp)
 rw [if_pos c20] at H
 have c20b0 : decide (0 ≤ (ji19)) = true := decide_eq_true c20
 clear c20
 by_cases c21 : (ji19) < 16
 rotate_left
 · rw [if_neg c21] at H
   exact absurd H (by simp)
 rw [if_pos c21] at H
 have c21b0 : decide ((ji19) < 16) = true := decide_eq_true c21
 clear c21
 obtain ⟨y133, hy133⟩ : ∃ y_ : List Int, y_ = (([rd tab1 (ji16), rd tab1 (ji19)] : List Int)) := ⟨_, rfl⟩
 replace H : (if x4_1.length + y133.length < 140737488355328 then (key_Text.l0 k1 (x4_1 ++ y133) y127 (y127.length : Int) (wrap64 (x17_1 + 1))) else (none)) = some (r1, r2) := by first | (rw [hy133]; with_reducible exact H) | (have H2_ := (Option.bind_some _ _).symm.trans H; rw [hy133]; with_reducible exact H2_) | (have H2_ := (Option.bind_some _ _).symm.trans H; with_reducible exact H2_) | with_reducible exact H | (rw [hy133]; exact H) | exact H
 have Ny133 := Aside0.mk hy133
 clear hy133
 by_cases c22 : x4_1.length + y133.length < 140737488355328
 rotate_left
 · rw [if_neg c22] at H
   exact absurd H (by simp)
 rw [if_pos c22] at H
 have LMc22 := Aside0.mk c22
 clear c22
 obtain ⟨y136, hy136⟩ : ∃ y_ : List Int, y_ = (x4_1 ++ y133) := ⟨_, rfl⟩
 replace H : (key_Text.l0 k1 y136 y127 (y127.length : Int) (wrap64 (x17_1 + 1))) = some (r1, r2) := by first | (rw [hy136]; with_reducible exact H) | (have H2_ := (Option.bind_some _ _).symm.trans H; rw [hy136]; with_reducible exact H2_) | (have H2_ := (Option.bind_some _ _).symm.trans H; with_reducible exact H2_) | with_reducible exact H | (rw [hy136]; exact H) | exact H
 have Ny136 := Aside0.mk hy136
 clear hy136
 have H' := Aside0.mk H
 clear H
 have p130 : 0 ≤ (x17_1 : Int) := of_decide_eq_true sqH
 have q130 : x17_1 < (y127.length : Int) := of_decide_eq_true sqH
 obtain ⟨ad130, e130, hx130_0⟩ := Kd.at_int (Kd.V_reads' HO_15.out).2.2 x17_1 p130 q130
 cases e130
 replace p130 := eq_true p130
 replace q130 := eq_true q130
 try go_wp2
 replace HO_4 := sqM (Kd.R_drew HO_4.out)
 replace HO_15 := sqM (Kd.V_drew HO_15.out)
 replace HB := sqM (below_drew1 HB.out)
 have p131 : 0 ≤ ((ji16) : Int) := of_decide_eq_true sqH
 have qt131 : (((ji16) : Int) < (16 : Int)) = True := eq_true (of_decide_eq_true sqH)
 have q131 : (ji16) < (tab1.length : Int) := (show (ji16) < (16 : Int) from of_decide_eq_true sqH)
 obtain ⟨ad131, e131, hx131_0⟩ := Kd.at_int HRT1.out (ji16) p131 q131
 have hw131_0 := hx131_0
 obtain rfl : (⟨1, 0, none⟩ : Addr) = ad131 := (by injection e131)
 (first | simp only [add_plain] at hx131_0 | simp only [add_at] at hx131_0 | simp only [Addr.add, Nat.zero_add] at hx131_0 | skip)
 replace hx131_0 := sqx HB.out hx131_0
 replace p131 := eq_true p131
 replace q131 := eq_true q131
 simp only [add_plain] at hw131_0
 have p132 : 0 ≤ ((ji19) : Int) := of_decide_eq_true sqH
 have qt132 : (((ji19) : Int) < (16 : Int)) = True := eq_true (of_decide_eq_true sqH)
 have q132 : (ji19) < (tab1.length : Int) := (show (ji19) < (16 : Int) from of_decide_eq_true sqH)
 obtain ⟨ad132, e132, hx132_0⟩ := Kd.at_int HRT1.out (ji19) p132 q132
 have hw132_0 := hx132_0
 obtain rfl : (⟨1, 0, none⟩ : Addr) = ad132 := (by injection e132)
 (first | simp only [add_plain] at hx132_0 | simp only [add_at] at hx132_0 | simp only [Addr.add, Nat.zero_add] at hx132_0 | skip)
 replace hx132_0 := sqx HB.out hx132_0
 replace p132 := eq_true p132
 replace q132 := eq_true q132
 simp only [add_plain] at hw132_0
 refine start_ (n := 12) (S := fun w' => w'.cell? ⟨1, ((ji16)).toNat, none⟩ = some (.int .u8 (rd tab1 (ji16))) ∧ w'.cell? ⟨1, ((ji19)).toNat, none⟩ = some (.int .u8 (rd tab1 (ji19)))) (ds := []) #[false, false, false, false, false, false, false, false, false, false, false, false] (by kernel_rfl) rfl rfl ⟨((HB.out.cell (World.block_lt_of_cell? w _ hw131_0)).trans hw131_0), ((HB.out.cell (World.block_lt_of_cell? w _ hw132_0)).trans hw132_0)⟩ (fun hHeld => ?_); refine with_tabW key_Text.tab7 key_Text.bits7 (fun HT_ HW_ => ?_)
 generalize wr.drew = w23 at HO_4 HO_15 HB hx131_0 hx132_0 hHeld ⊢
 refine pure_ (i := 0) (N := some 21) (v := ?_) (a' := ?_) #[true, false, false, false, false, false, false, false, false, false, false, false] rfl rfl (any_of HT_.out (by kernel_rfl)) (fun _ _ _ h => h) (Or.inl ⟨by rfl, ?_⟩) ?_ ?_
 rotate_left
 · intro w'
   go_simp
   with_reducible rfl
 rotate_left
 · simp only [Act.put, List.setIfInBounds_toArray, List.set_cons_zero, List.set_cons_succ, i64_w, i32_w]
   rfl
 refine pure_ (i := 1) (N := some 22) (v := ?_) (a' := ?_) #[true, true, false, false, false, false, false, false, false, false, false, false] rfl rfl (any_of HT_.out (by kernel_rfl)) (fun _ _ _ h => h) (Or.inl ⟨by rfl, ?_⟩) ?_ ?_
 rotate_left
 · intro w'
   go_simp
   with_reducible rfl
 rotate_left
 · simp only [Act.put, List.setIfInBounds_toArray, List.set_cons_zero, List.set_cons_succ, i64_w, i32_w]
   rfl
 refine pure_ (i := 2) (N := some 23) (v := ?_) (a' := ?_) #[true, true, true, false, false, false, false, false, false, false, false, false] rfl rfl (any_of HT_.out (by kernel_rfl)) (fun _ _ _ h => h) (Or.inl ⟨by rfl, ?_⟩) ?_ ?_
 rotate_left
 · intro w'
   go_simp
   with_reducible rfl
 rotate_left
 · simp only [Act.put, List.setIfInBounds_toArray, List.set_cons_zero, List.set_cons_succ, i64_w, i32_w]
   rfl
 refine pure_ (i := 3) (N := some 24) (v := ?_) (a' := ?_) #[true, true, true, true, false, false, false, false, false, false, false, false] rfl rfl (any_of HT_.out (by kernel_rfl)) (fun _ _ _ h => h) (Or.inl ⟨by rfl, ?_⟩) ?_ ?_
 rotate_left
 · intro w'
   go_simp
   with_reducible rfl
 rotate_left
 · simp only [Act.put, List.setIfInBounds_toArray, List.set_cons_zero, List.set_cons_succ, i64_w, i32_w]
   rfl
 refine pure_ (i := 5) (N := some 26) (v := ?_) (a' := ?_) #[true, true, true, true, false, true, false, false, false, false, false, false] rfl rfl (any_of HT_.out (by kernel_rfl)) (fun _ _ _ h => h) (Or.inl ⟨by rfl, ?_⟩) ?_ ?_
 rotate_left
 · intro w'
   go_simp
   with_reducible rfl
 rotate_left
 · simp only [Act.put, List.setIfInBounds_toArray, List.set_cons_zero, List.set_cons_succ, i64_w, i32_w]
   rfl
 refine pure_ (i := 6) (N := some 27) (v := ?_) (a' := ?_) #[true, true, true, true, false, true, true, false, false, false, false, false] rfl rfl (any_of HT_.out (by kernel_rfl)) (fun _ _ _ h => h) (Or.inl ⟨by rfl, ?_⟩) ?_ ?_
 rotate_left
 · intro w'
   go_simp
   with_reducible rfl
 rotate_left
 · simp only [Act.put, List.setIfInBounds_toArray, List.set_cons_zero, List.set_cons_succ, i64_w, i32_w]
   rfl
 refine pure_ (i := 7) (N := some 28) (v := ?_) (a' := ?_) #[true, true, true, true, false, true, true, true, false, false, false, false] rfl rfl (any_of HT_.out (by kernel_rfl)) (fun _ _ _ h => h) (Or.inl ⟨by rfl, ?_⟩) ?_ ?_
 rotate_left
 · intro w'
   go_simp
   with_reducible rfl
 rotate_left
 · simp only [Act.put, List.setIfInBounds_toArray, List.set_cons_zero, List.set_cons_succ, i64_w, i32_w]
   rfl
 refine take_ (i := 4) (N := some 25) (v := ?_) (a' := ?_) #[true, true, true, true, true, true, true, true, false, false, false, false] rfl rfl (take_ofW HT_.out HW_.out (by kernel_rfl)) (fun _ _ _ h => h) (Or.inl ⟨by rfl, ?_⟩) hHeld ?_ ?_
 rotate_left
 · rintro w' ⟨s0, s1⟩
   go_simp
   with_reducible rfl
 rotate_left
 · simp only [Act.put, List.setIfInBounds_toArray, List.set_cons_zero, List.set_cons_succ, i64_w, i32_w]
   rfl
 refine take_ (i := 8) (N := some 29) (v := ?_) (a' := ?_) #[true, true, true, true, true, true, true, true, true, false, false, false] rfl rfl (take_ofW HT_.out HW_.out (by kernel_rfl)) (fun _ _ _ h => h) (Or.inl ⟨by rfl, ?_⟩) hHeld ?_ ?_
 rotate_left
 · rintro w' ⟨s0, s1⟩
   go_simp
   with_reducible rfl
 rotate_left
 · simp only [Act.put, List.setIfInBounds_toArray, List.set_cons_zero, List.set_cons_succ, i64_w, i32_w]
   rfl
 refine one_ (i := 9) (N := some 30) #[true, true, true, true, true, true, true, true, true, true, false, false] rfl rfl (one_of HT_.out (by kernel_rfl)) (by decide) (fun K hK => ?_)
 refine Kd.R_lit_step (Kd.int .u8) _ 5 ?hg (N := 30) ?hd (xs := ([rd tab1 (ji16), rd tab1 (ji19)] : List Int)) (inner := [.int .u8 (rd tab1 (ji16)), .int .u8 (rd tab1 (ji19))]) (ok := fun _ => True) (okp := fun _ => True) ?hr ?hp (fun _ hk => hk) trivial (Below.refl _ _) (Nat.le_refl _) (by simp) ?_; (case hd => rfl); (case hg => rfl); (case hr => first | (go_simp; done) | (go_simp; rfl)); (case hp => exact (Reps.one (show Kd.M (Kd.int .u8) _ _ _ (rd tab1 (ji16)) [.int .u8 (rd tab1 (ji16))] from rfl) (Reps.one (show Kd.M (Kd.int .u8) _ _ _ (rd tab1 (ji19)) [.int .u8 (rd tab1 (ji19))] from rfl) (Reps.none _ _))))
 intro v134 w24 ho25 hb hg_ hnew_
 clear hg_ hnew_
 (first | rw [← Ny133.out] at ho25 | (simp only [Int.reduceToNat] at ho25; rw [← Ny133.out] at ho25))
 have HO135 := sqM (Kd.R_lower (Kd.R_new' ho25 (Kd.R_lt (sqR HO_4.out))) (below_size (sqB HB.out)))
 replace HO_4 := sqM (Kd.R_elder' (sqR HO_4.out) (Kd.R_base ho25) hb)
 replace HO_15 := sqM (Kd.V_elder' (sqV HO_15.out) (Kd.R_base ho25) hb)
 replace HB := sqM (below_step (sqB HB.out) hb)
 clear hb ho25
 obtain ⟨Ao27, co27, eo27⟩ := Kd.R_slice HO135.out
 (first | subst eo27 | (injection eo27 with f1_ f2_ f3_; have f4_ := f1_.symm; have f5_ := f3_.symm; clear f1_ f2_ f3_; subst f4_; subst f5_))
 refine hK.out _ _ ⟨((HB.out.cell (World.block_lt_of_cell? w _ hw131_0)).trans hw131_0), ((HB.out.cell (World.block_lt_of_cell? w _ hw132_0)).trans hw132_0)⟩ (fun hHeld => ?_)
 clear hK K
 refine norm_ (a' := ?_) ?_ ?_
 rotate_left
 · show Act.put _ (some 30) _ = _
   simp only [Act.put, List.setIfInBounds_toArray, List.set_cons_zero, List.set_cons_succ, i64_w, i32_w]
   rfl
 refine one_ (i := 10) (N := some 31) #[true, true, true, true, true, true, true, true, true, true, true, false] rfl rfl (one_of HT_.out (by kernel_rfl)) (by decide) (fun K hK => ?_)
 refine Kd.R_append_rows_step (Kd.int .u8) (w0 := w) w.heap.size (by rfl) (.tmp 21) (.tmp 30) 59 5 (.int .u8 0) 1 rfl Tryd.underlying59 info5 rfl (by decide) (by omega) u4 x4_1 y133 _ _ _ (fun k_ => some k_ ≠ (.slice Ao27 y133.length co27 : Value).ownBlock) (fun _ => False) rfl rfl ?aO ?aR (fun _ _ h => h) (fun _ h => h.elim) ?aF ?aB ?aS ?aL ?_
 (case aR => repeat (first | exact (Kd.R_reads' HO135.out).2.2 | (with_reducible refine Kd.C_alloc ?_ _) | (with_reducible refine Kd.C_drewN ?_ _) | (with_reducible refine Kd.C_drew ?_)))
 (case aB => exact (sqB HB.out))
 (case aF => exact (fun k_ hk => Kd.fresh' (Kd.R_lt (sqR HO135.out)) k_ hk))
 (case aO => exact (by refine sqR ?_; exact Kd.R_mono HO_4.out (fun _ hk => hk.2)))
 (case aS => exact (below_size (sqB HB.out)))
 (case aL => have := LMc22.out; omega)
 intro v137 w26 ho hb hg hat
 rw [← Ny136.out] at ho
 have HO138 := Aside0.mk (ho)
 replace HO_15 := sqM (Kd.V_afterv (ok := (fun k_ => some k_ ≠ (.slice Ao27 y133.length co27 : Value).ownBlock)) (by refine sqV ?_; exact Kd.V_mono HO_15.out (fun _ hk => ⟨hk.2, hk.1⟩)) hg hat)
 replace HO135 := sqM (Kd.R_after (ok := (fun _ => True)) (sqR HO135.out) hg hat)
 replace HB := Aside0.mk (hb)
 clear HO_4
 clear ho hb hg hat
 refine hK.out _ _ ⟨((HB.out.cell (World.block_lt_of_cell? w _ hw131_0)).trans hw131_0), ((HB.out.cell (World.block_lt_of_cell? w _ hw132_0)).trans hw132_0)⟩ (fun hHeld => ?_)
 clear hK K
 refine norm_ (a' := ?_) ?_ ?_
 rotate_left
 · show Act.put _ (some 31) _ = _
   simp only [Act.put, List.setIfInBounds_toArray, List.set_cons_zero, List.set_cons_succ, i64_w, i32_w]
   rfl
 refine pure_ (i := 11) (N := some 4) (v := ?_) (a' := ?_) #[true, true, true, true, true, true, true, true, true, true, true, true] rfl rfl (any_of HT_.out (by kernel_rfl)) (fun _ _ _ h => h) (Or.inl ⟨by rfl, ?_⟩) ?_ ?_
 rotate_left
 · intro w'
   go_simp
   with_reducible rfl
 rotate_left
 · simp only [Act.put, List.setIfInBounds_toArray, List.set_cons_zero, List.set_cons_succ, i64_w, i32_w]
   rfl
 refine done_ (done_of HT_.out (by kernel_rfl)) ?_
 try go_wp2
 go_roundg k1
 case measure => have := HK1.out; omega
 case rel => exact ⟨(y136), (wrap64 (x17_1 + 1)), sqI, H', ⟨by have := HK1.out; omega⟩, ⟨by refine sqR ?_; exact Kd.R_mono HO138.out (fun _ hk => trivial)⟩, ⟨by refine sqV ?_; exact Kd.V_mono HO_15.out (fun _ hk => hk.2)⟩, ⟨sqB HB.out⟩⟩

/-! ### ltext_digits: function 36 -/
def ltext_digits.f : Nat → List Int → Int → Option (List Int)
  | 0, _, _ => none
  | k + 1, l0, a1 => if a1 ≥ 10 then ((ltext_digits.f k l0 (wrap64 (Int.tdiv a1 10))).bind fun t139 => (if t139.length < 140737488355328 then (some (t139 ++ [(wrap64 (48 + (Int.tmod a1 10))) % 256])) else (none))) else (if l0.length < 140737488355328 then (some (l0 ++ [(wrap64 (48 + (Int.tmod a1 10))) % 256])) else (none))
theorem ltext_digits.mono_l : ∀ k, (∀ y0 y1, LeO (ltext_digits.f k y0 y1) (ltext_digits.f (k + 1) y0 y1))
  | 0 => fun _ _ r h => by simp [ltext_digits.f] at h
  | k + 1 => by
    have ih0 := ltext_digits.mono_l k
    · intro y0 y1
      unfold ltext_digits.f
      repeat' first
      | (with_reducible exact ih0 _ _)
      | (with_reducible exact LeO.refl _)
      | (with_reducible exact LeO.none _)
      | (with_reducible refine LeO.ite ?_ ?_)
      | (with_reducible refine LeO.bind ?_ (fun _ => ?_))
theorem ltext_digits.mono : ∀ a0 a1 k, LeO (ltext_digits.f k a0 a1) (ltext_digits.f (k + 1) a0 a1) := by
 intro a0 a1 k
 have ih0 := ltext_digits.mono_l k
 exact ih0 a0 a1
set_option maxHeartbeats 8000000 in
set_option maxRecDepth 100000 in
theorem ltext_digits.calls (k : Nat) : ∀ (P0_ : Nat → Prop) (u9000_ : Value) (l0 : List Int) (a1 : Int) (r : List Int) (w0 w : World) (hB : Below w0.heap.size w0 w) (ho0 : Kd.RB (Kd.int .u8) 5 w w0.heap.size P0_ u9000_ l0) (h : ltext_digits.f k l0 a1 = some r),
    Calls Tryd.prog 36 #[u9000_, .int .i64 a1] w fun e w' => ∃ v0_ : Value, e = .returned (v0_) ∧ Kd.RB (Kd.int .u8) 5 w' w0.heap.size (fun k_ => (P0_ k_ ∨ w.heap.size ≤ k_)) v0_ r ∧ Below w0.heap.size w0 w' ∧ Kept w w' (fun k_ => P0_ k_) := by
 induction k using Nat.strongRecOn with
 | _ k ih =>
 intro P0_ u9000_ l0 a1 r w0 w hB ho0 h
 cases k with
 | zero => exact absurd h (by simp [ltext_digits.f])
 | succ k =>
 simp only [ltext_digits.f] at h
 have HO0 := sqM (show Kd.RB (Kd.int .u8) 5 w w0.heap.size (fun k_ => (P0_ k_ ∨ w.heap.size ≤ k_)) u9000_ l0 from Kd.RB_mono ho0 (fun k_ hk => (.inl hk)))
 have HK := Aside0.mk (Kept.refl w (fun k_ => P0_ k_))
 have HW0 := Aside0.mk hB.size
 have HB := Aside0.mk hB
 clear hB
 have H : (if a1 ≥ 10 then ((ltext_digits.f k l0 (wrap64 (Int.tdiv a1 10))).bind fun t139 => (if t139.length < 140737488355328 then (some (t139 ++ [(wrap64 (48 + (Int.tmod a1 10))) % 256])) else (none))) else (if l0.length < 140737488355328 then (some (l0 ++ [(wrap64 (48 + (Int.tmod a1 10))) % 256])) else (none))) = some r := h
 clear h
 by_cases c3 : a1 ≥ 10
 rotate_left
 · rw [if_neg c3] at H
   have c3b0 : decide (10 ≤ a1) = false := decide_eq_false c3
   clear c3
   by_cases c9 : l0.length < 140737488355328
   rotate_left
   · rw [if_neg c9] at H
     exact absurd H (by simp)
   rw [if_pos c9] at H
   have LMc9 := Aside0.mk c9
   clear c9
   obtain ⟨y145, hy145⟩ : ∃ y_ : List Int, y_ = (l0 ++ [(wrap64 (48 + (Int.tmod a1 10))) % 256]) := ⟨_, rfl⟩
   replace H : (some y145) = some r := by first | (rw [hy145]; with_reducible exact H) | (have H2_ := (Option.bind_some _ _).symm.trans H; rw [hy145]; with_reducible exact H2_) | (have H2_ := (Option.bind_some _ _).symm.trans H; with_reducible exact H2_) | with_reducible exact H | (rw [hy145]; exact H) | exact H
   have Ny145 := Aside0.mk hy145
   clear hy145
   obtain rfl := Option.some.inj H
   go_enter Tryd.func36, Tryd.ntmps36
   go_wp2_with (first | ((with_reducible refine gate_builtin (b := .append) (xs := #[.tmp 11, .tmp 16]) rfl ?_); at_builtin; refine Kd.RB_append (Kd.int .u8) (w0 := w0) w0.heap.size rfl (.tmp 11) (.tmp 16) 59 5 (.int .u8 0) 1 rfl Tryd.underlying59 info5 rfl (by decide) (by omega) u9000_ l0 ((wrap64 (48 + (Int.tmod a1 10))) % 256) [.int .u8 ((wrap64 (48 + (Int.tmod a1 10))) % 256)] (fun k_ => (P0_ k_ ∨ w.heap.size ≤ k_)) (fun _ => False) rfl rfl ?aP (fun _ hk => hk.elim) ?aF ?aO ?aB ?aS ?aL ?_; (case aP => exact rfl); (case aB => exact (sqB HB.out)); (case aF => exact (fun k_ hk => (.inr (Nat.le_trans (by first | exact HK.out.1 | exact (show Kept w _ (fun k_ => P0_ k_) from by repeat (first | (with_reducible first | exact HK.out | apply Kept.alloc | apply Kept.drewN | apply Kept.drew) | exact HK.out)).1) hk)))); (case aO => exact (Kd.sqRB HO0.out)); (case aS => exact (below_size (sqB HB.out))); (case aL => have := LMc9.out; omega); intro v146 w10 ho hb hg hat; rw [← Ny145.out] at ho; have HO147 := sqM (ho); replace HB := sqM (hb); replace HK := sqM (Kept.of_grown (S := (fun k_ => P0_ k_)) hg (by repeat (first | (with_reducible first | exact HK.out | apply Kept.alloc | apply Kept.drewN | apply Kept.drew) | exact HK.out)) (fun k_ e_ => (HO0.out.1 k_ e_))); clear HO0; clear ho hb hg hat))
   go_ret
   exact ⟨_, sqE, by refine Kd.sqRB ?_; exact HO147.out, sqB HB.out, by repeat (first | (with_reducible first | exact HK.out | apply Kept.alloc | apply Kept.drewN | apply Kept.drew) | exact HK.out)⟩
 rw [if_pos c3] at H
 have c3b0 : decide (10 ≤ a1) = true := decide_eq_true c3
 clear c3
 replace H := Option.bind_eq_some_iff.mp H
 obtain ⟨t139, A40, H⟩ := H
 replace H : (if t139.length < 140737488355328 then (some (t139 ++ [(wrap64 (48 + (Int.tmod a1 10))) % 256])) else (none)) = some r := H
 have A4 := Aside0.mk A40
 clear A40
 by_cases c5 : t139.length < 140737488355328
 rotate_left
 · rw [if_neg c5] at H
   exact absurd H (by simp)
 rw [if_pos c5] at H
 have LMc5 := Aside0.mk c5
 clear c5
 obtain ⟨y142, hy142⟩ : ∃ y_ : List Int, y_ = (t139 ++ [(wrap64 (48 + (Int.tmod a1 10))) % 256]) := ⟨_, rfl⟩
 replace H : (some y142) = some r := by first | (rw [hy142]; with_reducible exact H) | (have H2_ := (Option.bind_some _ _).symm.trans H; rw [hy142]; with_reducible exact H2_) | (have H2_ := (Option.bind_some _ _).symm.trans H; with_reducible exact H2_) | with_reducible exact H | (rw [hy142]; exact H) | exact H
 have Ny142 := Aside0.mk hy142
 clear hy142
 obtain rfl := Option.some.inj H
 obtain ⟨Ao6, co6, eo6⟩ := Kd.RB_slice HO0.out
 subst eo6
 go_enter Tryd.func36, Tryd.ntmps36
 go_wp2_with (first | ((with_reducible refine gate_callee (f := 36) rfl ?_); refine goesL_ (some 10) rfl rfl Tryd.func36 (by kernel_rfl) rfl #[.slice Ao6 l0.length co6, .int .i64 (wrap64 (Int.tdiv a1 10))] rfl sqA ?_; (with_reducible refine (ih k (by omega) (fun k_ => some k_ = (.slice Ao6 l0.length co6 : Value).ownBlock) (.slice Ao6 l0.length co6) l0 (wrap64 (Int.tdiv a1 10)) t139 w0 _ ?side1 ?side2 A4.out).mono ?_); (case side1 => exact sqB HB.out); (case side2 => exact Kd.RB_tight rfl HO0.out); rintro e w7 ⟨v140, rfl, ho0, hb, hkp⟩; refine ⟨_, rfl, ?_⟩; have HO141 := sqM (Kd.RB_mono (ok' := fun k_ => (P0_ k_ ∨ w.heap.size ≤ k_)) ho0 (fun k_ hk_ => Or.elim hk_ (fun hs_ => (HO0.out.1 k_ (hs_).symm)) (fun hn_ => (.inr (Nat.le_trans (by first | exact HK.out.1 | exact (show Kept w _ (fun k_ => P0_ k_) from by repeat (first | (with_reducible first | exact HK.out | apply Kept.alloc | apply Kept.drewN | apply Kept.drew) | exact HK.out)).1) hn_))))); replace HK := sqM (Kept.then_ (S := (fun k_ => P0_ k_)) (by repeat (first | (with_reducible first | exact HK.out | apply Kept.alloc | apply Kept.drewN | apply Kept.drew) | exact HK.out)) hkp (fun k_ hs_ => (fun e_ => (HO0.out.1 k_ e_.symm)) hs_)); replace HB := sqM (hb); clear HO0; (try clear hb); (try clear hkp); (try clear ho0)) | ((with_reducible refine gate_builtin (b := .append) (xs := #[.tmp 11, .tmp 16]) rfl ?_); at_builtin; refine Kd.RB_append (Kd.int .u8) (w0 := w0) w0.heap.size rfl (.tmp 11) (.tmp 16) 59 5 (.int .u8 0) 1 rfl Tryd.underlying59 info5 rfl (by decide) (by omega) v140 t139 ((wrap64 (48 + (Int.tmod a1 10))) % 256) [.int .u8 ((wrap64 (48 + (Int.tmod a1 10))) % 256)] (fun k_ => (P0_ k_ ∨ w.heap.size ≤ k_)) (fun _ => False) rfl rfl ?aP (fun _ hk => hk.elim) ?aF ?aO ?aB ?aS ?aL ?_; (case aP => exact rfl); (case aB => exact (sqB HB.out)); (case aF => exact (fun k_ hk => (.inr (Nat.le_trans (by first | exact HK.out.1 | exact (show Kept w _ (fun k_ => P0_ k_) from by repeat (first | (with_reducible first | exact HK.out | apply Kept.alloc | apply Kept.drewN | apply Kept.drew) | exact HK.out)).1) hk)))); (case aO => exact (Kd.sqRB HO141.out)); (case aS => exact (below_size (sqB HB.out))); (case aL => have := LMc5.out; omega); intro v143 w8 ho hb hg hat; rw [← Ny142.out] at ho; have HO144 := sqM (ho); replace HB := sqM (hb); replace HK := sqM (Kept.of_grown (S := (fun k_ => P0_ k_)) hg (by repeat (first | (with_reducible first | exact HK.out | apply Kept.alloc | apply Kept.drewN | apply Kept.drew) | exact HK.out)) (fun k_ e_ => (HO141.out.1 k_ e_))); clear HO141; clear ho hb hg hat))
 go_ret
 exact ⟨_, sqE, by refine Kd.sqRB ?_; exact HO144.out, sqB HB.out, by repeat (first | (with_reducible first | exact HK.out | apply Kept.alloc | apply Kept.drewN | apply Kept.drew) | exact HK.out)⟩

/-! ### ltext_Line: function 13 -/
def ltext_Line.f (k : Nat) (a0_0 : Int) (a0_1 : Int) (a0_2 : Int) (a0_3 : ByteArray) : Option (ByteArray × Int) := (record_Right.f a0_0 a0_1 a0_2 a0_3).bind fun t149 => (if t149 = true then ((addr_Text.f k a0_0).bind fun bt150 => ((key_Text.f k a0_3).bind fun bt152 => (if bt150.1.size + 1 ≤ 9223372036854775807 then (if 0 ≤ (wrap64 (a0_1 - 1)) then (if (wrap64 (a0_1 - 1)) < 3 then (if (bt150.1 ++ (⟨#[32]⟩ : ByteArray)).size + (rdOf ByteArray.empty tab0 (wrap64 (a0_1 - 1))).size ≤ 9223372036854775807 then (if ((bt150.1 ++ (⟨#[32]⟩ : ByteArray)) ++ (rdOf ByteArray.empty tab0 (wrap64 (a0_1 - 1)))).size + 1 ≤ 9223372036854775807 then (if ((((bt150.1 ++ (⟨#[32]⟩ : ByteArray)) ++ (rdOf ByteArray.empty tab0 (wrap64 (a0_1 - 1)))) ++ (⟨#[32]⟩ : ByteArray)).size : Int) ≤ 281474976710656 then ((ltext_digits.f k (bytesOf (((bt150.1 ++ (⟨#[32]⟩ : ByteArray)) ++ (rdOf ByteArray.empty tab0 (wrap64 (a0_1 - 1)))) ++ (⟨#[32]⟩ : ByteArray))) a0_2).bind fun t158 => (if (strOfNums t158).size + 1 ≤ 9223372036854775807 then (if ((strOfNums t158) ++ (⟨#[32]⟩ : ByteArray)).size + bt152.1.size ≤ 9223372036854775807 then (some (((strOfNums t158) ++ (⟨#[32]⟩ : ByteArray)) ++ bt152.1, 0)) else (none)) else (none))) else (none)) else (none)) else (none)) else (none)) else (none)) else (none)))) else (some ((⟨#[]⟩ : ByteArray), 1)))
theorem ltext_Line.mono : ∀ a0 a1 a2 a3 k, LeO (ltext_Line.f k a0 a1 a2 a3) (ltext_Line.f (k + 1) a0 a1 a2 a3) := by
 intro a0 a1 a2 a3 k
 unfold ltext_Line.f
 repeat' first
  | (with_reducible exact addr_Text.mono _ _)
  | (with_reducible exact key_Text.mono _ _)
  | (with_reducible exact ltext_digits.mono _ _ _)
  | (with_reducible exact LeO.refl _)
  | (with_reducible exact LeO.none _)
  | (with_reducible refine LeO.ite ?_ ?_)
  | (with_reducible refine LeO.bind ?_ (fun _ => ?_))
set_option maxHeartbeats 8000000 in
set_option maxRecDepth 100000 in
theorem ltext_Line.calls (k : Nat) (a0_0 : Int) (a0_1 : Int) (a0_2 : Int) (a0_3 : ByteArray) (r1 : ByteArray) (r2 : Int) (w : World) (hT : TabW w) (h : ltext_Line.f k a0_0 a0_1 a0_2 a0_3 = some (r1, r2)) :
    Calls Tryd.prog 13 #[.agg #[.int .i64 a0_0, .int .i64 a0_1, .int .i64 a0_2, .string a0_3]] w fun e w' => e = .returned (.tuple #[.string r1, .int .i64 r2]) ∧ Below w.heap.size w w' := by
 have hu23 := Tryd.underlying23
 have HT := Aside0.mk hT
 clear hT
 have HRT1 := Aside0.mk HT.out.t1
 have HRT0 := Aside0.mk HT.out.t0
 have HB := Aside0.mk (Below.refl w.heap.size w)
 have H : ((record_Right.f a0_0 a0_1 a0_2 a0_3).bind fun t149 => (if t149 = true then ((addr_Text.f k a0_0).bind fun bt150 => ((key_Text.f k a0_3).bind fun bt152 => (if bt150.1.size + 1 ≤ 9223372036854775807 then (if 0 ≤ (wrap64 (a0_1 - 1)) then (if (wrap64 (a0_1 - 1)) < 3 then (if (bt150.1 ++ (⟨#[32]⟩ : ByteArray)).size + (rdOf ByteArray.empty tab0 (wrap64 (a0_1 - 1))).size ≤ 9223372036854775807 then (if ((bt150.1 ++ (⟨#[32]⟩ : ByteArray)) ++ (rdOf ByteArray.empty tab0 (wrap64 (a0_1 - 1)))).size + 1 ≤ 9223372036854775807 then (if ((((bt150.1 ++ (⟨#[32]⟩ : ByteArray)) ++ (rdOf ByteArray.empty tab0 (wrap64 (a0_1 - 1)))) ++ (⟨#[32]⟩ : ByteArray)).size : Int) ≤ 281474976710656 then ((ltext_digits.f k (bytesOf (((bt150.1 ++ (⟨#[32]⟩ : ByteArray)) ++ (rdOf ByteArray.empty tab0 (wrap64 (a0_1 - 1)))) ++ (⟨#[32]⟩ : ByteArray))) a0_2).bind fun t158 => (if (strOfNums t158).size + 1 ≤ 9223372036854775807 then (if ((strOfNums t158) ++ (⟨#[32]⟩ : ByteArray)).size + bt152.1.size ≤ 9223372036854775807 then (some (((strOfNums t158) ++ (⟨#[32]⟩ : ByteArray)) ++ bt152.1, 0)) else (none)) else (none))) else (none)) else (none)) else (none)) else (none)) else (none)) else (none)))) else (some ((⟨#[]⟩ : ByteArray), 1)))) = some (r1, r2) := h
 clear h
 replace H := Option.bind_eq_some_iff.mp H
 obtain ⟨t149, A20, H⟩ := H
 replace H : (if t149 = true then ((addr_Text.f k a0_0).bind fun bt150 => ((key_Text.f k a0_3).bind fun bt152 => (if bt150.1.size + 1 ≤ 9223372036854775807 then (if 0 ≤ (wrap64 (a0_1 - 1)) then (if (wrap64 (a0_1 - 1)) < 3 then (if (bt150.1 ++ (⟨#[32]⟩ : ByteArray)).size + (rdOf ByteArray.empty tab0 (wrap64 (a0_1 - 1))).size ≤ 9223372036854775807 then (if ((bt150.1 ++ (⟨#[32]⟩ : ByteArray)) ++ (rdOf ByteArray.empty tab0 (wrap64 (a0_1 - 1)))).size + 1 ≤ 9223372036854775807 then (if ((((bt150.1 ++ (⟨#[32]⟩ : ByteArray)) ++ (rdOf ByteArray.empty tab0 (wrap64 (a0_1 - 1)))) ++ (⟨#[32]⟩ : ByteArray)).size : Int) ≤ 281474976710656 then ((ltext_digits.f k (bytesOf (((bt150.1 ++ (⟨#[32]⟩ : ByteArray)) ++ (rdOf ByteArray.empty tab0 (wrap64 (a0_1 - 1)))) ++ (⟨#[32]⟩ : ByteArray))) a0_2).bind fun t158 => (if (strOfNums t158).size + 1 ≤ 9223372036854775807 then (if ((strOfNums t158) ++ (⟨#[32]⟩ : ByteArray)).size + bt152.1.size ≤ 9223372036854775807 then (some (((strOfNums t158) ++ (⟨#[32]⟩ : ByteArray)) ++ bt152.1, 0)) else (none)) else (none))) else (none)) else (none)) else (none)) else (none)) else (none)) else (none)))) else (some ((⟨#[]⟩ : ByteArray), 1))) = some (r1, r2) := H
 have A2 := Aside0.mk A20
 clear A20
 by_cases c3 : t149 = true
 rotate_left
 · replace c3 := Bool.eq_false_iff.mpr c3
   subst c3
   have H1 : (some ((⟨#[]⟩ : ByteArray), 1)) = some (r1, r2) := by rw [if_neg (show ¬ (false = true) by decide)] at H; exact H
   clear H
   have H := H1
   clear H1
   simp only [Option.some.injEq, Prod.mk.injEq] at H
   obtain ⟨rfl, rfl⟩ := H
   go_enter Tryd.func13, Tryd.ntmps13
   go_wp2_with (first | ((with_reducible refine gate_dst (N := 1) rfl ?_); refine box_event rfl (N := 1) rfl (cs := #[.int .i64 a0_0, .int .i64 a0_1, .int .i64 a0_2, .string a0_3]) (t := 23) sqs ?_; intro gb148 hg w31 hbox hb; have BK148 := sqM (hbox); have GW148 := sqM (sqZ hg (sqB HB.out)); have GE148 := sqM (sqZ hg (sqB HB.out)); replace HB := sqM (below_step (sqB HB.out) hb); clear hb hbox hg; obtain ⟨hcz32_0, hcz32_1, hcz32_2, hcz32_3, hfz32_0, hfz32_1, hfz32_2, hfz32_3⟩ := sqF4 BK148.out) | ((with_reducible refine gate_callee (f := 33) rfl ?_); refine goesL_ (some 10) rfl rfl Tryd.func33 (by kernel_rfl) rfl #[.agg #[.int .i64 a0_0, .int .i64 a0_1, .int .i64 a0_2, .string a0_3]] rfl sqA ?_; (with_reducible refine (record_Right.calls _ _ _ _ _ _ A2.out).mono ?_); rintro e w33 ⟨rfl, hb⟩; refine ⟨_, rfl, ?_⟩; replace BK148 := sqM (blk_below (sqK BK148.out) hb); replace HB := sqM (below_step (sqB1 HB.out GE148.out) hb); (try clear hb); (try clear hb2); (try clear hk); (try clear hi)))
   go_ret2
   exact ⟨sqE, sqB1 HB.out GE148.out⟩
 subst c3
 have H1 : ((addr_Text.f k a0_0).bind fun bt150 => ((key_Text.f k a0_3).bind fun bt152 => (if bt150.1.size + 1 ≤ 9223372036854775807 then (if 0 ≤ (wrap64 (a0_1 - 1)) then (if (wrap64 (a0_1 - 1)) < 3 then (if (bt150.1 ++ (⟨#[32]⟩ : ByteArray)).size + (rdOf ByteArray.empty tab0 (wrap64 (a0_1 - 1))).size ≤ 9223372036854775807 then (if ((bt150.1 ++ (⟨#[32]⟩ : ByteArray)) ++ (rdOf ByteArray.empty tab0 (wrap64 (a0_1 - 1)))).size + 1 ≤ 9223372036854775807 then (if ((((bt150.1 ++ (⟨#[32]⟩ : ByteArray)) ++ (rdOf ByteArray.empty tab0 (wrap64 (a0_1 - 1)))) ++ (⟨#[32]⟩ : ByteArray)).size : Int) ≤ 281474976710656 then ((ltext_digits.f k (bytesOf (((bt150.1 ++ (⟨#[32]⟩ : ByteArray)) ++ (rdOf ByteArray.empty tab0 (wrap64 (a0_1 - 1)))) ++ (⟨#[32]⟩ : ByteArray))) a0_2).bind fun t158 => (if (strOfNums t158).size + 1 ≤ 9223372036854775807 then (if ((strOfNums t158) ++ (⟨#[32]⟩ : ByteArray)).size + bt152.1.size ≤ 9223372036854775807 then (some (((strOfNums t158) ++ (⟨#[32]⟩ : ByteArray)) ++ bt152.1, 0)) else (none)) else (none))) else (none)) else (none)) else (none)) else (none)) else (none)) else (none)))) = some (r1, r2) := by rw [if_pos rfl] at H; exact H
 clear H
 have H := H1
 clear H1
 replace H := Option.bind_eq_some_iff.mp H
 obtain ⟨⟨t150, t151⟩, A40, H⟩ := H
 replace H : ((key_Text.f k a0_3).bind fun bt152 => (if t150.size + 1 ≤ 9223372036854775807 then (if 0 ≤ (wrap64 (a0_1 - 1)) then (if (wrap64 (a0_1 - 1)) < 3 then (if (t150 ++ (⟨#[32]⟩ : ByteArray)).size + (rdOf ByteArray.empty tab0 (wrap64 (a0_1 - 1))).size ≤ 9223372036854775807 then (if ((t150 ++ (⟨#[32]⟩ : ByteArray)) ++ (rdOf ByteArray.empty tab0 (wrap64 (a0_1 - 1)))).size + 1 ≤ 9223372036854775807 then (if ((((t150 ++ (⟨#[32]⟩ : ByteArray)) ++ (rdOf ByteArray.empty tab0 (wrap64 (a0_1 - 1)))) ++ (⟨#[32]⟩ : ByteArray)).size : Int) ≤ 281474976710656 then ((ltext_digits.f k (bytesOf (((t150 ++ (⟨#[32]⟩ : ByteArray)) ++ (rdOf ByteArray.empty tab0 (wrap64 (a0_1 - 1)))) ++ (⟨#[32]⟩ : ByteArray))) a0_2).bind fun t158 => (if (strOfNums t158).size + 1 ≤ 9223372036854775807 then (if ((strOfNums t158) ++ (⟨#[32]⟩ : ByteArray)).size + bt152.1.size ≤ 9223372036854775807 then (some (((strOfNums t158) ++ (⟨#[32]⟩ : ByteArray)) ++ bt152.1, 0)) else (none)) else (none))) else (none)) else (none)) else (none)) else (none)) else (none)) else (none))) = some (r1, r2) := H
 have A4 := Aside0.mk A40
 clear A40
 replace H := Option.bind_eq_some_iff.mp H
 obtain ⟨⟨t152, t153⟩, A50, H⟩ := H
 replace H : (if t150.size + 1 ≤ 9223372036854775807 then (if 0 ≤ (wrap64 (a0_1 - 1)) then (if (wrap64 (a0_1 - 1)) < 3 then (if (t150 ++ (⟨#[32]⟩ : ByteArray)).size + (rdOf ByteArray.empty tab0 (wrap64 (a0_1 - 1))).size ≤ 9223372036854775807 then (if ((t150 ++ (⟨#[32]⟩ : ByteArray)) ++ (rdOf ByteArray.empty tab0 (wrap64 (a0_1 - 1)))).size + 1 ≤ 9223372036854775807 then (if ((((t150 ++ (⟨#[32]⟩ : ByteArray)) ++ (rdOf ByteArray.empty tab0 (wrap64 (a0_1 - 1)))) ++ (⟨#[32]⟩ : ByteArray)).size : Int) ≤ 281474976710656 then ((ltext_digits.f k (bytesOf (((t150 ++ (⟨#[32]⟩ : ByteArray)) ++ (rdOf ByteArray.empty tab0 (wrap64 (a0_1 - 1)))) ++ (⟨#[32]⟩ : ByteArray))) a0_2).bind fun t158 => (if (strOfNums t158).size + 1 ≤ 9223372036854775807 then (if ((strOfNums t158) ++ (⟨#[32]⟩ : ByteArray)).size + t152.size ≤ 9223372036854775807 then (some (((strOfNums t158) ++ (⟨#[32]⟩ : ByteArray)) ++ t152, 0)) else (none)) else (none))) else (none)) else (none)) else (none)) else (none)) else (none)) else (none)) = some (r1, r2) := H
 have A5 := Aside0.mk A50
 clear A50
 by_cases c6 : t150.size + 1 ≤ 9223372036854775807
 rotate_left
 · rw [if_neg c6] at H
   exact absurd H (by simp)
 rw [if_pos c6] at H
 have c6b0 := eq_true c6
 have c6b1 : decide (t150.size + 1 ≤ 9223372036854775807) = true := decide_eq_true c6
 try have c6b2 : (9223372036854775807 < t150.size + 1) = False := eq_false (Nat.not_lt.2 c6)
 (try (have c6q := c6; simp only [ByteArray.size_append, Com.mk_size, List.size_toArray, List.length_cons, List.length_nil, Nat.zero_add] at c6q; have c6b3 := eq_false (Nat.not_lt.2 c6q); have c6b4 := eq_true c6q; clear c6q))
 obtain ⟨ji7, hji7⟩ : ∃ j_ : Int, (wrap64 (a0_1 - 1)) = j_ := ⟨_, rfl⟩
 replace H : (if 0 ≤ (ji7) then (if (ji7) < 3 then (if (t150 ++ (⟨#[32]⟩ : ByteArray)).size + (rdOf ByteArray.empty tab0 (ji7)).size ≤ 9223372036854775807 then (if ((t150 ++ (⟨#[32]⟩ : ByteArray)) ++ (rdOf ByteArray.empty tab0 (ji7))).size + 1 ≤ 9223372036854775807 then (if ((((t150 ++ (⟨#[32]⟩ : ByteArray)) ++ (rdOf ByteArray.empty tab0 (ji7))) ++ (⟨#[32]⟩ : ByteArray)).size : Int) ≤ 281474976710656 then ((ltext_digits.f k (bytesOf (((t150 ++ (⟨#[32]⟩ : ByteArray)) ++ (rdOf ByteArray.empty tab0 (ji7))) ++ (⟨#[32]⟩ : ByteArray))) a0_2).bind fun t158 => (if (strOfNums t158).size + 1 ≤ 9223372036854775807 then (if ((strOfNums t158) ++ (⟨#[32]⟩ : ByteArray)).size + t152.size ≤ 9223372036854775807 then (some (((strOfNums t158) ++ (⟨#[32]⟩ : ByteArray)) ++ t152, 0)) else (none)) else (none))) else (none)) else (none)) else (none)) else (none)) else (none)) = some (r1, r2) := by first | (rw [hji7] at H; exact H) | (simp only [hji7] at H ⊢; exact H)
 (try rw [hji7] at A2)
 (try rw [hji7] at A4)
 (try rw [hji7] at A5)
 have hji7w : (IntKind.i64.wrap (a0_1 - 1)) = ji7 := (i64_w _).trans hji7
 by_cases c8 : 0 ≤ (ji7)
 rotate_left
 · rw [if_neg c8] at H
   exact absurd H (by simp)
 rw [if_pos c8] at H
 have c8b0 : decide (0 ≤ (ji7)) = true := decide_eq_true c8
 clear c8
 by_cases c9 : (ji7) < 3
 rotate_left
 · rw [if_neg c9] at H
   exact absurd H (by simp)
 rw [if_pos c9] at H
 have c9b0 : decide ((ji7) < 3) = true := decide_eq_true c9
 clear c9
 by_cases c10 : (t150 ++ (⟨#[32]⟩ : ByteArray)).size + (rdOf ByteArray.empty tab0 (ji7)).size ≤ 9223372036854775807
 rotate_left
 · rw [if_neg c10] at H
   exact absurd H (by simp)
 rw [if_pos c10] at H
 have c10b0 := eq_true c10
 have c10b1 : decide ((t150 ++ (⟨#[32]⟩ : ByteArray)).size + (rdOf ByteArray.empty tab0 (ji7)).size ≤ 9223372036854775807) = true := decide_eq_true c10
 try have c10b2 : (9223372036854775807 < (t150 ++ (⟨#[32]⟩ : ByteArray)).size + (rdOf ByteArray.empty tab0 (ji7)).size) = False := eq_false (Nat.not_lt.2 c10)
 (try (have c10q := c10; simp only [ByteArray.size_append, Com.mk_size, List.size_toArray, List.length_cons, List.length_nil, Nat.zero_add] at c10q; have c10b3 := eq_false (Nat.not_lt.2 c10q); have c10b4 := eq_true c10q; clear c10q))
 by_cases c11 : ((t150 ++ (⟨#[32]⟩ : ByteArray)) ++ (rdOf ByteArray.empty tab0 (ji7))).size + 1 ≤ 9223372036854775807
 rotate_left
 · rw [if_neg c11] at H
   exact absurd H (by simp)
 rw [if_pos c11] at H
 have c11b0 := eq_true c11
 have c11b1 : decide (((t150 ++ (⟨#[32]⟩ : ByteArray)) ++ (rdOf ByteArray.empty tab0 (ji7))).size + 1 ≤ 9223372036854775807) = true := decide_eq_true c11
 try have c11b2 : (9223372036854775807 < ((t150 ++ (⟨#[32]⟩ : ByteArray)) ++ (rdOf ByteArray.empty tab0 (ji7))).size + 1) = False := eq_false (Nat.not_lt.2 c11)
 (try (have c11q := c11; simp only [ByteArray.size_append, Com.mk_size, List.size_toArray, List.length_cons, List.length_nil, Nat.zero_add] at c11q; have c11b3 := eq_false (Nat.not_lt.2 c11q); have c11b4 := eq_true c11q; clear c11q))
 by_cases c12 : ((((t150 ++ (⟨#[32]⟩ : ByteArray)) ++ (rdOf ByteArray.empty tab0 (ji7))) ++ (⟨#[32]⟩ : ByteArray)).size : Int) ≤ 281474976710656
 rotate_left
 · rw [if_neg c12] at H
   exact absurd H (by simp)
 rw [if_pos c12] at H
 have c12b0 := eq_true c12
 have c12b1 : decide (((((t150 ++ (⟨#[32]⟩ : ByteArray)) ++ (rdOf ByteArray.empty tab0 (ji7))) ++ (⟨#[32]⟩ : ByteArray)).size : Int) ≤ 281474976710656) = true := decide_eq_true c12
 obtain ⟨y155, hy155⟩ : ∃ y_ : List Int, y_ = (bytesOf (((t150 ++ (⟨#[32]⟩ : ByteArray)) ++ (rdOf ByteArray.empty tab0 (ji7))) ++ (⟨#[32]⟩ : ByteArray))) := ⟨_, rfl⟩
 replace H : ((ltext_digits.f k y155 a0_2).bind fun t158 => (if (strOfNums t158).size + 1 ≤ 9223372036854775807 then (if ((strOfNums t158) ++ (⟨#[32]⟩ : ByteArray)).size + t152.size ≤ 9223372036854775807 then (some (((strOfNums t158) ++ (⟨#[32]⟩ : ByteArray)) ++ t152, 0)) else (none)) else (none))) = some (r1, r2) := by first | (rw [hy155]; with_reducible exact H) | (have H2_ := (Option.bind_some _ _).symm.trans H; rw [hy155]; with_reducible exact H2_) | (have H2_ := (Option.bind_some _ _).symm.trans H; with_reducible exact H2_) | with_reducible exact H | (rw [hy155]; exact H) | exact H
 have Ny155 := Aside0.mk hy155
 clear hy155
 replace H := Option.bind_eq_some_iff.mp H
 obtain ⟨t158, A130, H⟩ := H
 replace H : (if (strOfNums t158).size + 1 ≤ 9223372036854775807 then (if ((strOfNums t158) ++ (⟨#[32]⟩ : ByteArray)).size + t152.size ≤ 9223372036854775807 then (some (((strOfNums t158) ++ (⟨#[32]⟩ : ByteArray)) ++ t152, 0)) else (none)) else (none)) = some (r1, r2) := H
 have A13 := Aside0.mk A130
 clear A130
 by_cases c14 : (strOfNums t158).size + 1 ≤ 9223372036854775807
 rotate_left
 · rw [if_neg c14] at H
   exact absurd H (by simp)
 rw [if_pos c14] at H
 have c14b0 := eq_true c14
 have c14b1 : decide ((strOfNums t158).size + 1 ≤ 9223372036854775807) = true := decide_eq_true c14
 try have c14b2 : (9223372036854775807 < (strOfNums t158).size + 1) = False := eq_false (Nat.not_lt.2 c14)
 (try (have c14q := c14; simp only [ByteArray.size_append, Com.mk_size, List.size_toArray, List.length_cons, List.length_nil, Nat.zero_add] at c14q; have c14b3 := eq_false (Nat.not_lt.2 c14q); have c14b4 := eq_true c14q; clear c14q))
 by_cases c15 : ((strOfNums t158) ++ (⟨#[32]⟩ : ByteArray)).size + t152.size ≤ 9223372036854775807
 rotate_left
 · rw [if_neg c15] at H
   exact absurd H (by simp)
 rw [if_pos c15] at H
 have c15b0 := eq_true c15
 have c15b1 : decide (((strOfNums t158) ++ (⟨#[32]⟩ : ByteArray)).size + t152.size ≤ 9223372036854775807) = true := decide_eq_true c15
 try have c15b2 : (9223372036854775807 < ((strOfNums t158) ++ (⟨#[32]⟩ : ByteArray)).size + t152.size) = False := eq_false (Nat.not_lt.2 c15)
 (try (have c15q := c15; simp only [ByteArray.size_append, Com.mk_size, List.size_toArray, List.length_cons, List.length_nil, Nat.zero_add] at c15q; have c15b3 := eq_false (Nat.not_lt.2 c15q); have c15b4 := eq_true c15q; clear c15q))
 simp only [Option.some.injEq, Prod.mk.injEq] at H
 obtain ⟨rfl, rfl⟩ := H
 go_enter Tryd.func13, Tryd.ntmps13
 go_wp2_with (first | ((with_reducible refine gate_dst (N := 1) rfl ?_); refine box_event rfl (N := 1) rfl (cs := #[.int .i64 a0_0, .int .i64 a0_1, .int .i64 a0_2, .string a0_3]) (t := 23) sqs ?_; intro gb148 hg w16 hbox hb; have BK148 := sqM (hbox); have GW148 := sqM (sqZ hg (sqB HB.out)); have GE148 := sqM (sqZ hg (sqB HB.out)); replace HB := sqM (below_step (sqB HB.out) hb); clear hb hbox hg; obtain ⟨hcz17_0, hcz17_1, hcz17_2, hcz17_3, hfz17_0, hfz17_1, hfz17_2, hfz17_3⟩ := sqF4 BK148.out) | ((with_reducible refine gate_callee (f := 33) rfl ?_); refine goesL_ (some 10) rfl rfl Tryd.func33 (by kernel_rfl) rfl #[.agg #[.int .i64 a0_0, .int .i64 a0_1, .int .i64 a0_2, .string a0_3]] rfl sqA ?_; (with_reducible refine (record_Right.calls _ _ _ _ _ _ A2.out).mono ?_); rintro e w18 ⟨rfl, hb⟩; refine ⟨_, rfl, ?_⟩; replace BK148 := sqM (blk_below (sqK BK148.out) hb); replace HB := sqM (below_step (sqB1 HB.out GE148.out) hb); (try clear hb); (try clear hb2); (try clear hk); (try clear hi); obtain ⟨hcz19_0, hcz19_1, hcz19_2, hcz19_3, hfz19_0, hfz19_1, hfz19_2, hfz19_3⟩ := sqF4 BK148.out) | ((with_reducible refine gate_callee (f := 34) rfl ?_); refine goesL_ (some 15) rfl rfl Tryd.func34 (by kernel_rfl) rfl #[.int .i64 a0_0] rfl sqA ?_; (with_reducible refine (addr_Text.calls _ _ _ _ _ A4.out).mono ?_); rintro e w20 ⟨rfl, hb⟩; refine ⟨_, rfl, ?_⟩; replace BK148 := sqM (blk_below (sqK BK148.out) hb); replace HB := sqM (below_step (sqB1 HB.out GE148.out) hb); (try clear hb); (try clear hb2); (try clear hk); (try clear hi); obtain ⟨hcz21_0, hcz21_1, hcz21_2, hcz21_3, hfz21_0, hfz21_1, hfz21_2, hfz21_3⟩ := sqF4 BK148.out) | ((with_reducible refine gate_callee (f := 35) rfl ?_); refine goesL_ (some 21) rfl rfl Tryd.func35 (by kernel_rfl) rfl #[.string a0_3] rfl sqA ?_; (with_reducible refine (key_Text.calls _ _ _ _ _ ?side1 A5.out).mono ?_); (case side1 => first | exact HT.out | exact TabW.below HT.out (sqB1 HB.out GE148.out) | exact TabW.drawn HT.out ⟨_, rfl⟩); rintro e w22 ⟨rfl, hb⟩; refine ⟨_, rfl, ?_⟩; replace BK148 := sqM (blk_below (sqK BK148.out) hb); replace HB := sqM (below_step (sqB1 HB.out GE148.out) hb); (try clear hb); (try clear hb2); (try clear hk); (try clear hi); obtain ⟨hcz23_0, hcz23_1, hcz23_2, hcz23_3, hfz23_0, hfz23_1, hfz23_2, hfz23_3⟩ := sqF4 BK148.out; have p154 : 0 ≤ ((ji7) : Int) := of_decide_eq_true sqH; have qt154 : (((ji7) : Int) < (3 : Int)) = True := eq_true (of_decide_eq_true sqH); have q154 : (ji7) < (tab0.length : Int) := (show (ji7) < (3 : Int) from of_decide_eq_true sqH); obtain ⟨ad154, e154, hx154_0⟩ := Kd.at_string HRT0.out (ji7) p154 q154; obtain rfl : (⟨0, 0, none⟩ : Addr) = ad154 := (by injection e154); (first | simp only [add_plain] at hx154_0 | simp only [add_at] at hx154_0 | simp only [Addr.add, Nat.zero_add] at hx154_0 | skip); replace hx154_0 := sqx HB.out hx154_0; replace p154 := eq_true p154; replace q154 := eq_true q154) | ((with_reducible refine gate_dst (N := 33) rfl ?_); refine Kd.RB_bytes _ 5 rfl (N := 33) rfl 9 59 _ rfl Tryd.underlying9 Tryd.underlying59 Tryd.underlying5 (((t150 ++ (⟨#[32]⟩ : ByteArray)) ++ (rdOf ByteArray.empty tab0 (ji7))) ++ (⟨#[32]⟩ : ByteArray)) rfl (by have h_ : ((((t150 ++ (⟨#[32]⟩ : ByteArray)) ++ (rdOf ByteArray.empty tab0 (ji7))) ++ (⟨#[32]⟩ : ByteArray)).size : Int) ≤ (281474976710656 : Int) := of_decide_eq_true sqH; omega) (ok := fun _ => True) (okp := fun _ => True) (fun _ hk => hk) trivial (Below.refl _ _) (Nat.le_refl _) ?_; intro v156 w24 ho25 hb hg_ hnew_; clear hg_ hnew_; (first | rw [← Ny155.out] at ho25 | (simp only [Int.reduceToNat] at ho25; rw [← Ny155.out] at ho25)); have HO157 := sqM (Kd.RB_lower ho25 (below_size (sqB1 HB.out GE148.out))); replace BK148 := sqM (blk_below (sqK BK148.out) hb); replace HB := sqM (below_step (sqB1 HB.out GE148.out) hb); clear hb ho25; obtain ⟨hcz26_0, hcz26_1, hcz26_2, hcz26_3, hfz26_0, hfz26_1, hfz26_2, hfz26_3⟩ := sqF4 BK148.out; obtain ⟨Ao27, co27, eo27⟩ := Kd.RB_slice HO157.out; subst eo27) | ((with_reducible refine gate_callee (f := 36) rfl ?_); refine goesL_ (some 37) rfl rfl Tryd.func36 (by kernel_rfl) rfl #[.slice Ao27 y155.length co27, .int .i64 a0_2] rfl sqA ?_; (with_reducible refine (ltext_digits.calls k (fun k_ => some k_ = (.slice Ao27 y155.length co27 : Value).ownBlock) (.slice Ao27 y155.length co27) y155 a0_2 t158 w _ ?side1 ?side2 A13.out).mono ?_); (case side1 => exact sqB1 HB.out GE148.out); (case side2 => exact Kd.RB_tight rfl HO157.out); rintro e w28 ⟨v159, rfl, ho0, hb, hkp⟩; refine ⟨_, rfl, ?_⟩; have HO160 := sqM (Kd.RB_mono (ok' := fun k_ => True) ho0 (fun k_ hk_ => trivial)); replace BK148 := sqM (blk_kept (sqK BK148.out) hkp (fun hs_ => (fun e_ => (Kd.RB_ne HO157.out BK148.out (by decide)) e_) hs_)); replace HB := sqM (hb); clear HO157; (try clear hb); (try clear hkp); (try clear ho0); have hcv29 := Kd.RB_string (P := Tryd.prog) Tryd.underlying59 Tryd.underlying5 Tryd.underlying9 HO160.out; have hcw30 := fun n_ => Kd.RB_string (P := Tryd.prog) Tryd.underlying59 Tryd.underlying5 Tryd.underlying9 (Kd.RB_drewN HO160.out n_)))
 go_ret2
 exact ⟨by first | rfl | (simp [errW_none, errW_some] <;> rfl) | (simp only [← hji7]; first | rfl | (simp [errW_none, errW_some] <;> rfl)) | (simp [*, errW_none, errW_some] <;> rfl), sqB1 HB.out GE148.out⟩

/-! ### ltext_split: function 43 -/
def ltext_split.l0 : Nat → List Int → Int → List (List Int) → Int → List Int → Int → Int → Option ((List (List Int)))
  | 0, _, _, _, _, _, _, _ => none
  | k + 1, x0, x1, x5, x6, x9, x10, x11 => if x11 < x10 then (if 0 ≤ x11 then (if x11 < (x9.length : Int) then (if (rd x9 x11) = x1 then (if 0 ≤ x6 then (if x6 ≤ x11 then (if x11 ≤ (x0.length : Int) then (if x5.length < 5864062014805 then (ltext_split.l0 k x0 x1 (x5 ++ [((x0.take (x11 : Int).toNat).drop (x6 : Int).toNat)]) (wrap64 (x11 + 1)) x9 x10 (wrap64 (x11 + 1))) else (none)) else (none)) else (none)) else (none)) else (ltext_split.l0 k x0 x1 x5 x6 x9 x10 (wrap64 (x11 + 1)))) else (none)) else (none)) else (if 0 ≤ x6 then (if x6 ≤ (x0.length : Int) then (if (x0.length : Int) ≤ (x0.length : Int) then (if x5.length < 5864062014805 then (some (x5 ++ [((x0.take ((x0.length : Int) : Int).toNat).drop (x6 : Int).toNat)])) else (none)) else (none)) else (none)) else (none))
def ltext_split.f (k : Nat) (l0 : List Int) (a1 : Int) : Option ((List (List Int))) := ltext_split.l0 k l0 a1 ([] : List (List Int)) 0 l0 (l0.length : Int) 0
theorem ltext_split.mono_l : ∀ k, (∀ y0 y1 y2 y3 y4 y5 y6, LeO (ltext_split.l0 k y0 y1 y2 y3 y4 y5 y6) (ltext_split.l0 (k + 1) y0 y1 y2 y3 y4 y5 y6))
  | 0 => fun _ _ _ _ _ _ _ r h => by simp [ltext_split.l0] at h
  | k + 1 => by
    have ih0 := ltext_split.mono_l k
    · intro y0 y1 y2 y3 y4 y5 y6
      unfold ltext_split.l0
      repeat' first
      | (with_reducible exact ih0 _ _ _ _ _ _ _)
      | (with_reducible exact LeO.refl _)
      | (with_reducible exact LeO.none _)
      | (with_reducible refine LeO.ite ?_ ?_)
      | (with_reducible refine LeO.bind ?_ (fun _ => ?_))
theorem ltext_split.mono : ∀ a0 a1 k, LeO (ltext_split.f k a0 a1) (ltext_split.f (k + 1) a0 a1) := by
 intro a0 a1 k
 have ih0 := ltext_split.mono_l k
 unfold ltext_split.f
 repeat' first
  | (with_reducible exact ih0 _ _ _ _ _ _ _)
  | (with_reducible exact LeO.refl _)
  | (with_reducible exact LeO.none _)
  | (with_reducible refine LeO.ite ?_ ?_)
  | (with_reducible refine LeO.bind ?_ (fun _ => ?_))
set_option maxHeartbeats 8000000 in
set_option maxRecDepth 100000 in
theorem ltext_split.calls (k : Nat) (P0_ : Nat → Prop) (A0 : Option Addr) (c0 : Nat) (l0 : List Int) (a1 : Int) (r : List (List Int)) (w : World) (hs0 : Kd.V (Kd.int .u8) 5 w w.heap.size (fun k_ => P0_ k_) (.slice A0 l0.length c0) l0) (h : ltext_split.f k l0 a1 = some r) :
    Calls Tryd.prog 43 #[.slice A0 l0.length c0, .int .u8 a1] w fun e w' => ∃ v0_ : Value, e = .returned (v0_) ∧ Kd.N (Kd.slice 5 (Kd.int .u8)) 59 w' w.heap.size (fun k_ => (P0_ k_ ∨ w.heap.size ≤ k_)) v0_ r ∧ Below w.heap.size w w' := by
 have HO0 := sqM (show Kd.V (Kd.int .u8) 5 w w.heap.size (fun k_ => (P0_ k_ ∨ w.heap.size ≤ k_)) (.slice A0 l0.length c0) l0 from Kd.V_mono hs0 (fun k_ hk => .inl hk))
 have HB := Aside0.mk (Below.refl w.heap.size w)
 have H : (ltext_split.l0 k l0 a1 ([] : List (List Int)) 0 l0 (l0.length : Int) 0) = some r := h
 clear h
 have H' := Aside0.mk H
 clear H
 go_enter Tryd.func43, Tryd.ntmps43
 go_wp2
 go_loopg [5, 6, 11] k (fun kq v5 v6 v11 w' => ∃ (x5_1 : List (List Int)) (x6_1 : Int) (x11_1 : Int), v6 = .int .i64 x6_1 ∧ v11 = .int .i64 x11_1 ∧ Aside0 (ltext_split.l0 kq l0 a1 x5_1 x6_1 l0 (l0.length : Int) x11_1 = some r) ∧ Aside0 (kq ≤ k) ∧ Aside0 (Kd.V (Kd.int .u8) 5 w' w.heap.size (fun k_ => (P0_ k_ ∨ w.heap.size ≤ k_) ∧ some k_ ≠ (v5 : Value).ownBlock) (.slice A0 l0.length c0) l0) ∧ Aside0 (Kd.N (Kd.slice 5 (Kd.int .u8)) 59 w' w.heap.size (fun k_ => (P0_ k_ ∨ w.heap.size ≤ k_)) v5 x5_1) ∧ Aside0 (Kd.V (Kd.int .u8) 5 w' w.heap.size (fun k_ => (P0_ k_ ∨ w.heap.size ≤ k_) ∧ some k_ ≠ (v5 : Value).ownBlock) (.slice A0 l0.length c0) l0) ∧ Aside0 (Below w.heap.size w w'))
 case atStart => exact ⟨(([] : List (List Int))), (0), (0), sqI, sqI, H', ⟨Nat.le_refl _⟩, ⟨by refine sqV ?_; exact Kd.V_mono HO0.out (fun _ hk => ⟨hk, (by simp [Value.ownBlock])⟩)⟩, ⟨by first | exact Kd.S_nil _ _ _ _ _ | exact Kd.N_nil _ _ _ _ _ | exact Kd.V_nil _ _ _ _ _ | exact Kd.Q_nil _ _ _ _ _ | exact Kd.R_nil _ _ _ _ _⟩, ⟨by refine sqV ?_; exact Kd.V_mono HO0.out (fun _ hk => ⟨hk, (by simp [Value.ownBlock])⟩)⟩, ⟨sqB HB.out⟩⟩
 clear H'
 try clear p2
 obtain ⟨x5_1, x6_1, x11_1, rfl, rfl, HA, HK1, HO_0, HO_5, HO_9, HB⟩ := hrel
 cases gk with
 | zero => exact absurd HA.out (by simp [ltext_split.l0])
 | succ k1 => ?_
 have H := HA.out
 clear HA
 simp only [ltext_split.l0] at H
 by_cases c3 : x11_1 < (l0.length : Int)
 rotate_left
 · rw [if_neg c3] at H
   have c3b0 : decide (x11_1 < (l0.length : Int)) = false := decide_eq_false c3
   clear c3
   by_cases c13 : 0 ≤ x6_1
   rotate_left
   · rw [if_neg c13] at H
     exact absurd H (by simp)
   rw [if_pos c13] at H
   have c13b0 := eq_true c13
   have c13b1 : decide (0 ≤ x6_1) = true := decide_eq_true c13
   clear c13
   by_cases c14 : x6_1 ≤ (l0.length : Int)
   rotate_left
   · rw [if_neg c14] at H
     exact absurd H (by simp)
   rw [if_pos c14] at H
   have c14b0 := eq_true c14
   have c14b1 : decide (x6_1 ≤ (l0.length : Int)) = true := decide_eq_true c14
   clear c14
   by_cases c15 : (l0.length : Int) ≤ (l0.length : Int)
   rotate_left
   · rw [if_neg c15] at H
     exact absurd H (by simp)
   rw [if_pos c15] at H
   have c15b0 := eq_true c15
   have c15b1 : decide ((l0.length : Int) ≤ (l0.length : Int)) = true := decide_eq_true c15
   clear c15
   obtain ⟨y170, hy170⟩ : ∃ y_ : List Int, y_ = ((l0.take ((l0.length : Int) : Int).toNat).drop (x6_1 : Int).toNat) := ⟨_, rfl⟩
   replace H : (if x5_1.length < 5864062014805 then (some (x5_1 ++ [y170])) else (none)) = some r := by first | (rw [hy170]; with_reducible exact H) | (have H2_ := (Option.bind_some _ _).symm.trans H; rw [hy170]; with_reducible exact H2_) | (have H2_ := (Option.bind_some _ _).symm.trans H; with_reducible exact H2_) | with_reducible exact H | (rw [hy170]; exact H) | exact H
   have Ny170 := Aside0.mk hy170
   clear hy170
   by_cases c16 : x5_1.length < 5864062014805
   rotate_left
   · rw [if_neg c16] at H
     exact absurd H (by simp)
   rw [if_pos c16] at H
   have LMc16 := Aside0.mk c16
   clear c16
   obtain ⟨y175, hy175⟩ : ∃ y_ : List (List Int), y_ = (x5_1 ++ [y170]) := ⟨_, rfl⟩
   replace H : (some y175) = some r := by first | (rw [hy175]; with_reducible exact H) | (have H2_ := (Option.bind_some _ _).symm.trans H; rw [hy175]; with_reducible exact H2_) | (have H2_ := (Option.bind_some _ _).symm.trans H; with_reducible exact H2_) | with_reducible exact H | (rw [hy175]; exact H) | exact H
   have Ny175 := Aside0.mk hy175
   clear hy175
   obtain rfl := Option.some.inj H
   have q17 : ((l0.length : Int) : Int) ≤ ((l0.length : Int) : Int) := of_decide_eq_true sqH
   obtain ⟨i017, hi017, _, hsz17, _⟩ := info_parts info5
   have hroom17 : l0.length ≤ c0 := (Kd.V_reads' HO_0.out).2.1
   have hC17 : Kd.F (Kd.int .u8) _ _ A0 l0.length l0 := (Kd.V_at (base := w.heap.size) HO_0.out).2.2
   have ql17 : (x6_1 : Int) ≤ ((l0.length : Int) : Int) := of_decide_eq_true sqH
   have q017 : (0 : Int) ≤ (x6_1 : Int) := of_decide_eq_true sqH
   have hcut17 := Com.cut_cap2 (P := Tryd.prog) 59 5 .i64 .i64 Tryd.underlying59 hi017 1 hsz17 A0 l0.length c0 x6_1 (l0.length : Int) q017 ql17 q17 hroom17
   have hr17 := Kd.F_midc (lo := (x6_1 : Int).toNat) (hi := ((l0.length : Int) : Int).toNat) hC17 (by omega) (by omega)
   obtain ⟨A17, hA17⟩ : ∃ A1, A1 = (if ((l0.length : Int) : Int).toNat = (x6_1 : Int).toNat then A0 else (A0 : Option Addr).map (·.add ((x6_1 : Int).toNat * 1))) := ⟨_, rfl⟩
   obtain ⟨c17, hc17⟩ : ∃ c1, c1 = ((l0.length : Int) : Int).toNat - (x6_1 : Int).toNat := ⟨_, rfl⟩
   have hy17 : y170.length = ((l0.length : Int) : Int).toNat - (x6_1 : Int).toNat := (by rw [Ny170.out, List.length_drop, List.length_take] <;> omega)
   rw [show ((l0).take ((l0.length : Int) : Int).toNat).drop (x6_1 : Int).toNat = y170 from Ny170.out.symm] at hr17
   replace hr17 : Kd.F (Kd.int .u8) _ _ A17 y170.length y170 := (by rw [hA17]; exact hr17)
   replace hcut17 := Kd.cut_fix hcut17 hA17.symm hy17.symm hc17.symm
   have HO174 := sqM (show Kd.V (Kd.int .u8) 5 _ w.heap.size _ (.slice A17 y170.length c17) y170 from Kd.V_mk (by rw [hy17, hc17]; exact Nat.sub_le_sub_right (Nat.le_refl _) _) hr17)
   have HC174 := sqM (show y170.length ≤ c17 from by rw [hy17, hc17]; exact Nat.sub_le_sub_right (Nat.le_refl _) _)
   clear hr17 hC17 hroom17 hi017 hsz17 hc17
   have KY17 := Aside0.mk hy17
   have KA17 := Aside0.mk hA17
   clear hy17 hA17
   replace q17 := eq_true q17
   go_wp2_with (first | ((with_reducible refine gate_builtin (b := .append) (xs := #[.tmp 30, .tmp 38]) rfl ?_); at_builtin; refine Kd.N_append (Kd.slice 5 (Kd.int .u8)) (w0 := w) w.heap.size rfl (.tmp 30) (.tmp 38) 65 59 (.slice none 0 0) 24 rfl Tryd.underlying65 info59 rfl (by decide) (by omega) u5 x5_1 y170 [.slice A17 y170.length c17] (fun k_ => (P0_ k_ ∨ w.heap.size ≤ k_)) (fun k_ => ((fun k_ => (P0_ k_ ∨ w.heap.size ≤ k_))) k_ ∧ some k_ ≠ (u5 : Value).ownBlock) rfl rfl ?aP (fun _ hk => hk) ?aF ?aO ?aB ?aS ?aL ?_; (case aP => exact (Kd.FK_slice_mk (Kd.V_reads' (Kd.V_mono (ok' := (fun k_ => ((fun k_ => (P0_ k_ ∨ w.heap.size ≤ k_))) k_ ∧ some k_ ≠ (u5 : Value).ownBlock)) (HO174.out) (fun k_ hk => ⟨hk.1, hk.2⟩))).2.1 (Kd.V_F (Kd.V_mono (ok' := (fun k_ => ((fun k_ => (P0_ k_ ∨ w.heap.size ≤ k_))) k_ ∧ some k_ ≠ (u5 : Value).ownBlock)) (HO174.out) (fun k_ hk => ⟨hk.1, hk.2⟩))))); (case aB => exact (sqB HB.out)); (case aF => exact (fun k_ hk => (.inr (Nat.le_trans (below_size (sqB HB.out)) hk)))); (case aO => exact (sqN HO_5.out)); (case aS => exact (below_size (sqB HB.out))); (case aL => have := LMc16.out; omega); intro v176 w18 ho hb hg hat; rw [← Ny175.out] at ho; have HO177 := sqM (ho); replace HO_0 := sqM (Kd.V_afterv (ok := (fun k_ => (P0_ k_ ∨ w.heap.size ≤ k_))) (sqV HO_0.out) hg hat); replace HO_9 := sqM (Kd.V_afterv (ok := (fun k_ => (P0_ k_ ∨ w.heap.size ≤ k_))) (sqV HO_9.out) hg hat); replace HO174 := sqM (Kd.V_afterv (ok := (fun k_ => (P0_ k_ ∨ w.heap.size ≤ k_))) (sqV HO174.out) hg hat); replace HB := sqM (hb); clear HO_5; clear ho hb hg hat))
   go_ret
   exact ⟨_, sqE, by refine sqN ?_; exact HO177.out, sqB HB.out⟩
 rw [if_pos c3] at H
 have c3b0 : decide (x11_1 < (l0.length : Int)) = true := decide_eq_true c3
 clear c3
 by_cases c4 : 0 ≤ x11_1
 rotate_left
 · rw [if_neg c4] at H
   exact absurd H (by simp)
 rw [if_pos c4] at H
 have c4b0 : decide (0 ≤ x11_1) = true := decide_eq_true c4
 clear c4
 by_cases c5 : x11_1 < (l0.length : Int)
 rotate_left
 · rw [if_neg c5] at H
   exact absurd H (by simp)
 rw [if_pos c5] at H
 have c5b0 : decide (x11_1 < (l0.length : Int)) = true := decide_eq_true c5
 clear c5
 by_cases c6 : (rd l0 x11_1) = a1
 rotate_left
 · rw [if_neg c6] at H
   have c6b0 : ((rd l0 x11_1) == a1) = false := beq_eq_false_iff_ne.mpr c6
   have c6b1 : ((rd l0 x11_1) != a1) = true := bne_iff_ne.mpr c6
   have H' := Aside0.mk H
   clear H
   have p161 : 0 ≤ (x11_1 : Int) := of_decide_eq_true sqH
   have q161 : x11_1 < (l0.length : Int) := of_decide_eq_true sqH
   obtain ⟨ad161, e161, hx161_0⟩ := Kd.at_int (Kd.V_reads' HO_9.out).2.2 x11_1 p161 q161
   cases e161
   replace p161 := eq_true p161
   replace q161 := eq_true q161
   go_wp2
   go_roundg k1
   case measure => have := HK1.out; omega
   case rel => exact ⟨(x5_1), (x6_1), (wrap64 (x11_1 + 1)), sqI, sqI, H', ⟨by have := HK1.out; omega⟩, ⟨sqV HO_0.out⟩, ⟨sqN HO_5.out⟩, ⟨sqV HO_9.out⟩, ⟨sqB HB.out⟩⟩
 rw [if_pos c6] at H
 have c6b0 : ((rd l0 x11_1) == a1) = true := beq_iff_eq.mpr c6
 have c6b1 : ((rd l0 x11_1) != a1) = false := bne_eq_false_iff_eq.mpr c6
 clear c6
 by_cases c7 : 0 ≤ x6_1
 rotate_left
 · rw [if_neg c7] at H
   exact absurd H (by simp)
 rw [if_pos c7] at H
 have c7b0 := eq_true c7
 have c7b1 : decide (0 ≤ x6_1) = true := decide_eq_true c7
 clear c7
 by_cases c8 : x6_1 ≤ x11_1
 rotate_left
 · rw [if_neg c8] at H
   exact absurd H (by simp)
 rw [if_pos c8] at H
 have c8b0 := eq_true c8
 have c8b1 : decide (x6_1 ≤ x11_1) = true := decide_eq_true c8
 clear c8
 by_cases c9 : x11_1 ≤ (l0.length : Int)
 rotate_left
 · rw [if_neg c9] at H
   exact absurd H (by simp)
 rw [if_pos c9] at H
 have c9b0 := eq_true c9
 have c9b1 : decide (x11_1 ≤ (l0.length : Int)) = true := decide_eq_true c9
 clear c9
 obtain ⟨y162, hy162⟩ : ∃ y_ : List Int, y_ = ((l0.take (x11_1 : Int).toNat).drop (x6_1 : Int).toNat) := ⟨_, rfl⟩
 replace H : (if x5_1.length < 5864062014805 then (ltext_split.l0 k1 l0 a1 (x5_1 ++ [y162]) (wrap64 (x11_1 + 1)) l0 (l0.length : Int) (wrap64 (x11_1 + 1))) else (none)) = some r := by first | (rw [hy162]; with_reducible exact H) | (have H2_ := (Option.bind_some _ _).symm.trans H; rw [hy162]; with_reducible exact H2_) | (have H2_ := (Option.bind_some _ _).symm.trans H; with_reducible exact H2_) | with_reducible exact H | (rw [hy162]; exact H) | exact H
 have Ny162 := Aside0.mk hy162
 clear hy162
 by_cases c10 : x5_1.length < 5864062014805
 rotate_left
 · rw [if_neg c10] at H
   exact absurd H (by simp)
 rw [if_pos c10] at H
 have LMc10 := Aside0.mk c10
 clear c10
 obtain ⟨y167, hy167⟩ : ∃ y_ : List (List Int), y_ = (x5_1 ++ [y162]) := ⟨_, rfl⟩
 replace H : (ltext_split.l0 k1 l0 a1 y167 (wrap64 (x11_1 + 1)) l0 (l0.length : Int) (wrap64 (x11_1 + 1))) = some r := by first | (rw [hy167]; with_reducible exact H) | (have H2_ := (Option.bind_some _ _).symm.trans H; rw [hy167]; with_reducible exact H2_) | (have H2_ := (Option.bind_some _ _).symm.trans H; with_reducible exact H2_) | with_reducible exact H | (rw [hy167]; exact H) | exact H
 have Ny167 := Aside0.mk hy167
 clear hy167
 have H' := Aside0.mk H
 clear H
 have p161 : 0 ≤ (x11_1 : Int) := of_decide_eq_true sqH
 have q161 : x11_1 < (l0.length : Int) := of_decide_eq_true sqH
 obtain ⟨ad161, e161, hx161_0⟩ := Kd.at_int (Kd.V_reads' HO_9.out).2.2 x11_1 p161 q161
 cases e161
 replace p161 := eq_true p161
 replace q161 := eq_true q161
 have q11 : (x11_1 : Int) ≤ ((l0.length : Int) : Int) := of_decide_eq_true sqH
 obtain ⟨i011, hi011, _, hsz11, _⟩ := info_parts info5
 have hroom11 : l0.length ≤ c0 := (Kd.V_reads' HO_0.out).2.1
 have hC11 : Kd.F (Kd.int .u8) _ _ (some ad161) l0.length l0 := (Kd.V_at (base := w.heap.size) HO_0.out).2.2
 have ql11 : (x6_1 : Int) ≤ (x11_1 : Int) := of_decide_eq_true sqH
 have q011 : (0 : Int) ≤ (x6_1 : Int) := of_decide_eq_true sqH
 have hcut11 := Com.cut_cap2 (P := Tryd.prog) 59 5 .i64 .i64 Tryd.underlying59 hi011 1 hsz11 (some ad161) l0.length c0 x6_1 x11_1 q011 ql11 q11 hroom11
 have hr11 := Kd.F_midc (lo := (x6_1 : Int).toNat) (hi := (x11_1 : Int).toNat) hC11 (by omega) (by omega)
 obtain ⟨A11, hA11⟩ : ∃ A1, A1 = (if (x11_1 : Int).toNat = (x6_1 : Int).toNat then (some ad161) else ((some ad161) : Option Addr).map (·.add ((x6_1 : Int).toNat * 1))) := ⟨_, rfl⟩
 obtain ⟨c11, hc11⟩ : ∃ c1, c1 = (x11_1 : Int).toNat - (x6_1 : Int).toNat := ⟨_, rfl⟩
 have hy11 : y162.length = (x11_1 : Int).toNat - (x6_1 : Int).toNat := (by rw [Ny162.out, List.length_drop, List.length_take] <;> omega)
 rw [show ((l0).take (x11_1 : Int).toNat).drop (x6_1 : Int).toNat = y162 from Ny162.out.symm] at hr11
 replace hr11 : Kd.F (Kd.int .u8) _ _ A11 y162.length y162 := (by rw [hA11]; exact hr11)
 replace hcut11 := Kd.cut_fix hcut11 hA11.symm hy11.symm hc11.symm
 have HO166 := sqM (show Kd.V (Kd.int .u8) 5 _ w.heap.size _ (.slice A11 y162.length c11) y162 from Kd.V_mk (by rw [hy11, hc11]; exact Nat.sub_le_sub_right (Nat.le_refl _) _) hr11)
 have HC166 := sqM (show y162.length ≤ c11 from by rw [hy11, hc11]; exact Nat.sub_le_sub_right (Nat.le_refl _) _)
 clear hr11 hC11 hroom11 hi011 hsz11 hc11
 have KY11 := Aside0.mk hy11
 have KA11 := Aside0.mk hA11
 clear hy11 hA11
 replace q11 := eq_true q11
 go_wp2_with (first | ((with_reducible refine gate_builtin (b := .append) (xs := #[.tmp 19, .tmp 25]) rfl ?_); at_builtin; refine Kd.N_append (Kd.slice 5 (Kd.int .u8)) (w0 := w) w.heap.size rfl (.tmp 19) (.tmp 25) 65 59 (.slice none 0 0) 24 rfl Tryd.underlying65 info59 rfl (by decide) (by omega) u5 x5_1 y162 [.slice A11 y162.length c11] (fun k_ => (P0_ k_ ∨ w.heap.size ≤ k_)) (fun k_ => ((fun k_ => (P0_ k_ ∨ w.heap.size ≤ k_))) k_ ∧ some k_ ≠ (u5 : Value).ownBlock) rfl rfl ?aP (fun _ hk => hk) ?aF ?aO ?aB ?aS ?aL ?_; (case aP => exact (Kd.FK_slice_mk (Kd.V_reads' (Kd.V_mono (ok' := (fun k_ => ((fun k_ => (P0_ k_ ∨ w.heap.size ≤ k_))) k_ ∧ some k_ ≠ (u5 : Value).ownBlock)) (HO166.out) (fun k_ hk => ⟨hk.1, hk.2⟩))).2.1 (Kd.V_F (Kd.V_mono (ok' := (fun k_ => ((fun k_ => (P0_ k_ ∨ w.heap.size ≤ k_))) k_ ∧ some k_ ≠ (u5 : Value).ownBlock)) (HO166.out) (fun k_ hk => ⟨hk.1, hk.2⟩))))); (case aB => exact (sqB HB.out)); (case aF => exact (fun k_ hk => (.inr (Nat.le_trans (below_size (sqB HB.out)) hk)))); (case aO => exact (sqN HO_5.out)); (case aS => exact (below_size (sqB HB.out))); (case aL => have := LMc10.out; omega); intro v168 w12 ho hb hg hat; rw [← Ny167.out] at ho; have HO169 := sqM (ho); replace HO_0 := sqM (Kd.V_afterv (ok := (fun k_ => (P0_ k_ ∨ w.heap.size ≤ k_))) (sqV HO_0.out) hg hat); replace HO_9 := sqM (Kd.V_afterv (ok := (fun k_ => (P0_ k_ ∨ w.heap.size ≤ k_))) (sqV HO_9.out) hg hat); replace HO166 := sqM (Kd.V_afterv (ok := (fun k_ => (P0_ k_ ∨ w.heap.size ≤ k_))) (sqV HO166.out) hg hat); replace HB := sqM (hb); clear HO_5; clear ho hb hg hat))
 go_roundg k1
 case measure => have := HK1.out; omega
 case rel => exact ⟨(y167), (wrap64 (x11_1 + 1)), (wrap64 (x11_1 + 1)), sqI, sqI, H', ⟨by have := HK1.out; omega⟩, ⟨sqV HO_0.out⟩, ⟨sqN HO169.out⟩, ⟨sqV HO_9.out⟩, ⟨sqB HB.out⟩⟩

end Go.Proofs.YtdajdpgnhjlbaaaDoor.PLease
