/- Lean functions for Go functions of the given program, and proofs that the code computes them, each under its theorem's own conditions. Written by a program of this session. -/
import Derived.Test.YtdajdpgnhjlbaaaDoorPLeasex0
import Derived.Test.YtdajdpgnhjlbaaaDoorPLeasex4
import Derived.Test.YtdajdpgnhjlbaaaDoorPLeasex5
import Derived.Test.YtdajdpgnhjlbaaaDoorPLeasex7
import Derived.Test.YtdajdpgnhjlbaaaDoorPLeasex8
import Derived.Test.YtdajdpgnhjlbaaaDoorPLeasex11
namespace Go.Proofs.YtdajdpgnhjlbaaaDoor.PLease
open Go.RowKit Go.Proofs.YtdajdpgnhjlbaaaDoorW.PrintWords Go.Proofs.YtdajdpgnhjlbaaaDoorW.PrintLast Go.Proofs.YtdajdpgnhjlbaaaDoorW.PrintMore
attribute [local go_sem] max2_int min2_int max_two min_two max_three min_three max_four min_four   -- for this text's walks alone
set_option linter.unusedVariables false
set_option linter.unusedSimpArgs false

/-! ### boarderref24_Print: function 22 -/
def boarderref24_Print.l0 : Nat → List (S23) → ByteArray → Int → Option (ByteArray)
  | 0, _, _, _ => none
  | k + 1, x0, x3, x4 => if x4 < (x0.length : Int) then (if 0 ≤ x4 then ((boarderref24_Line.f k ((rd_T23 x0 x4).f0) ((rd_T23 x0 x4).f1) ((rd_T23 x0 x4).f2) ((rd_T23 x0 x4).f3)).bind fun t378 => (if x3.size + t378.size ≤ 9223372036854775807 then (if (x3 ++ t378).size + 1 ≤ 9223372036854775807 then (boarderref24_Print.l0 k x0 ((x3 ++ t378) ++ (⟨#[10]⟩ : ByteArray)) (wrap64 (x4 + 1))) else (none)) else (none))) else (none)) else (some x3)
def boarderref24_Print.f (k : Nat) (l0 : List (S23)) : Option (ByteArray) := boarderref24_Print.l0 k l0 (⟨#[]⟩ : ByteArray) 0
set_option maxHeartbeats 8000000 in
set_option maxRecDepth 100000 in
theorem boarderref24_Print.calls (k : Nat) (A0 : Option Addr) (c0 : Nat) (l0 : List (S23)) (r : ByteArray) (w : World) (hr0 : Kd.C k23 w A0 l0.length l0) (hc0 : l0.length ≤ c0) (h : boarderref24_Print.f k l0 = some r) :
    Calls Tryd.prog 22 #[.slice A0 l0.length c0] w fun e w' => e = .returned (.string r) ∧ Below w.heap.size w w' := by
 have hu23 := Tryd.underlying23
 have HR0 := Aside0.mk hr0
 have HC0 := Aside0.mk hc0
 clear hr0 hc0
 have HB := Aside0.mk (Below.refl w.heap.size w)
 have H : (boarderref24_Print.l0 k l0 (⟨#[]⟩ : ByteArray) 0) = some r := h
 clear h
 have H' := Aside0.mk H
 clear H
 go_enter Tryd.func22, Tryd.ntmps22
 go_wp2
 go_loopg [3, 4] k (fun kq v3 v4 w' => ∃ (x3_1 : ByteArray) (x4_1 : Int), v3 = .string x3_1 ∧ v4 = .int .i64 x4_1 ∧ Aside0 (boarderref24_Print.l0 kq l0 x3_1 x4_1 = some r) ∧ Aside0 (kq ≤ k) ∧ Aside0 (Below w.heap.size w w'))
 case atStart => exact ⟨((⟨#[]⟩ : ByteArray)), (0), sqI, sqI, H', ⟨Nat.le_refl _⟩, ⟨sqB HB.out⟩⟩
 clear H'
 obtain ⟨x3_1, x4_1, rfl, rfl, HA, HK1, HB⟩ := hrel
 cases gk with
 | zero => exact absurd HA.out (by simp [boarderref24_Print.l0])
 | succ k1 => ?_
 have H := HA.out
 clear HA
 simp only [boarderref24_Print.l0] at H
 by_cases c2 : x4_1 < (l0.length : Int)
 rotate_left
 · rw [if_neg c2] at H
   have c2b0 : decide (x4_1 < (l0.length : Int)) = false := decide_eq_false c2
   clear c2
   obtain rfl := Option.some.inj H
   go_wp2
   go_ret
   exact ⟨sqE, sqB HB.out⟩
 rw [if_pos c2] at H
 have c2b0 : decide (x4_1 < (l0.length : Int)) = true := decide_eq_true c2
 clear c2
 by_cases c3 : 0 ≤ x4_1
 rotate_left
 · rw [if_neg c3] at H
   exact absurd H (by simp)
 rw [if_pos c3] at H
 have c3b0 : decide (0 ≤ x4_1) = true := decide_eq_true c3
 clear c3
 replace H := Option.bind_eq_some_iff.mp H
 obtain ⟨t378, A40, H⟩ := H
 replace H : (if x3_1.size + t378.size ≤ 9223372036854775807 then (if (x3_1 ++ t378).size + 1 ≤ 9223372036854775807 then (boarderref24_Print.l0 k1 l0 ((x3_1 ++ t378) ++ (⟨#[10]⟩ : ByteArray)) (wrap64 (x4_1 + 1))) else (none)) else (none)) = some r := H
 have A4 := Aside0.mk A40
 clear A40
 by_cases c5 : x3_1.size + t378.size ≤ 9223372036854775807
 rotate_left
 · rw [if_neg c5] at H
   exact absurd H (by simp)
 rw [if_pos c5] at H
 have c5b0 := eq_true c5
 have c5b1 : decide (x3_1.size + t378.size ≤ 9223372036854775807) = true := decide_eq_true c5
 try have c5b2 : (9223372036854775807 < x3_1.size + t378.size) = False := eq_false (Nat.not_lt.2 c5)
 (try (have c5q := c5; simp only [ByteArray.size_append, Com.mk_size, List.size_toArray, List.length_cons, List.length_nil, Nat.zero_add] at c5q; have c5b3 := eq_false (Nat.not_lt.2 c5q); have c5b4 := eq_true c5q; clear c5q))
 by_cases c6 : (x3_1 ++ t378).size + 1 ≤ 9223372036854775807
 rotate_left
 · rw [if_neg c6] at H
   exact absurd H (by simp)
 rw [if_pos c6] at H
 have c6b0 := eq_true c6
 have c6b1 : decide ((x3_1 ++ t378).size + 1 ≤ 9223372036854775807) = true := decide_eq_true c6
 try have c6b2 : (9223372036854775807 < (x3_1 ++ t378).size + 1) = False := eq_false (Nat.not_lt.2 c6)
 (try (have c6q := c6; simp only [ByteArray.size_append, Com.mk_size, List.size_toArray, List.length_cons, List.length_nil, Nat.zero_add] at c6q; have c6b3 := eq_false (Nat.not_lt.2 c6q); have c6b4 := eq_true c6q; clear c6q))
 have H' := Aside0.mk H
 clear H
 have p377 : 0 ≤ (x4_1 : Int) := of_decide_eq_true sqH
 have q377 : x4_1 < (l0.length : Int) := of_decide_eq_true sqH
 obtain ⟨ad377, e377, hx377_0, hx377_1, hx377_2, hx377_3⟩ := at_T23 HR0.out x4_1 p377 q377
 cases e377
 replace hx377_0 := sqx HB.out hx377_0
 replace hx377_1 := sqx HB.out hx377_1
 replace hx377_2 := sqx HB.out hx377_2
 replace hx377_3 := sqx HB.out hx377_3
 replace p377 := eq_true p377
 replace q377 := eq_true q377
 go_wp2_with (first | ((with_reducible refine gate_callee (f := 15) rfl ?_); refine goesL_ (some 16) rfl rfl Tryd.func15 (by kernel_rfl) rfl #[.agg #[.int .i64 ((rd_T23 l0 x4_1).f0), .int .i64 ((rd_T23 l0 x4_1).f1), .int .i64 ((rd_T23 l0 x4_1).f2), .string ((rd_T23 l0 x4_1).f3)]] rfl sqA ?_; (with_reducible refine (boarderref24_Line.calls _ _ _ _ _ _ _ A4.out).mono ?_); rintro e w7 ⟨rfl, hb⟩; refine ⟨_, rfl, ?_⟩; replace HB := sqM (below_step (sqB HB.out) hb); (try clear hb); (try clear hb2); (try clear hk); (try clear hi)))
 go_roundg k1
 case measure => have := HK1.out; omega
 case rel => exact ⟨((x3_1 ++ t378) ++ (⟨#[10]⟩ : ByteArray)), (wrap64 (x4_1 + 1)), sqI, sqI, H', ⟨by have := HK1.out; omega⟩, ⟨sqB HB.out⟩⟩

/-! ### boarderlaw24_LeaseTables: function 6 -/
def boarderlaw24_LeaseTables.f (k : Nat) (l0 : List (S23)) : Option (Bool) := (boarderlaw12_Great.f k l0).bind fun t381 => (if t381 = true then ((boarderlaw24_knows.f k).bind fun t382 => (some t382)) else ((ltext_Print.f k l0).bind fun bt383 => ((boarderref12_Right.f k l0).bind fun t385 => (if t385 = true then ((ltext_Parse.f k bt383.1).bind fun bt387 => ((boarderref24_Print.f k l0).bind fun t392 => (if bt383.1.toList = t392.toList then (if bt383.2 = 0 then ((boarderref10_SameLeases.f k bt387.1 l0).bind fun t393 => (if t393 = true then (if bt387.2.1 = 0 then (if bt387.2.2 = 0 then ((boarderlaw24_knows.f k).bind fun t394 => (some t394)) else (none)) else (none)) else (none))) else (none)) else (none)))) else (if bt383.1.toList = ([] : List UInt8) then (if bt383.2 = 1 then ((boarderlaw24_knows.f k).bind fun t386 => (some t386)) else (none)) else (none))))))
set_option maxHeartbeats 8000000 in
set_option maxRecDepth 100000 in
theorem boarderlaw24_LeaseTables.calls (k : Nat) (A0 : Option Addr) (c0 : Nat) (l0 : List (S23)) (r : Bool) (w : World) (hr0 : Kd.C k23 w A0 l0.length l0) (hc0 : l0.length ≤ c0) (hT : TabW w) (h : boarderlaw24_LeaseTables.f k l0 = some r) :
    Calls Tryd.prog 6 #[.slice A0 l0.length c0] w fun e w' => e = .returned (.bool r) ∧ Below w.heap.size w w' := by
 have HR0 := Aside0.mk hr0
 have HC0 := Aside0.mk hc0
 clear hr0 hc0
 have HT := Aside0.mk hT
 clear hT
 have HRT1 := Aside0.mk HT.out.t1
 have HRT0 := Aside0.mk HT.out.t0
 have HB := Aside0.mk (Below.refl w.heap.size w)
 have H : ((boarderlaw12_Great.f k l0).bind fun t381 => (if t381 = true then ((boarderlaw24_knows.f k).bind fun t382 => (some t382)) else ((ltext_Print.f k l0).bind fun bt383 => ((boarderref12_Right.f k l0).bind fun t385 => (if t385 = true then ((ltext_Parse.f k bt383.1).bind fun bt387 => ((boarderref24_Print.f k l0).bind fun t392 => (if bt383.1.toList = t392.toList then (if bt383.2 = 0 then ((boarderref10_SameLeases.f k bt387.1 l0).bind fun t393 => (if t393 = true then (if bt387.2.1 = 0 then (if bt387.2.2 = 0 then ((boarderlaw24_knows.f k).bind fun t394 => (some t394)) else (none)) else (none)) else (none))) else (none)) else (none)))) else (if bt383.1.toList = ([] : List UInt8) then (if bt383.2 = 1 then ((boarderlaw24_knows.f k).bind fun t386 => (some t386)) else (none)) else (none))))))) = some r := h
 clear h
 replace H := Option.bind_eq_some_iff.mp H
 obtain ⟨t381, A20, H⟩ := H
 replace H : (if t381 = true then ((boarderlaw24_knows.f k).bind fun t382 => (some t382)) else ((ltext_Print.f k l0).bind fun bt383 => ((boarderref12_Right.f k l0).bind fun t385 => (if t385 = true then ((ltext_Parse.f k bt383.1).bind fun bt387 => ((boarderref24_Print.f k l0).bind fun t392 => (if bt383.1.toList = t392.toList then (if bt383.2 = 0 then ((boarderref10_SameLeases.f k bt387.1 l0).bind fun t393 => (if t393 = true then (if bt387.2.1 = 0 then (if bt387.2.2 = 0 then ((boarderlaw24_knows.f k).bind fun t394 => (some t394)) else (none)) else (none)) else (none))) else (none)) else (none)))) else (if bt383.1.toList = ([] : List UInt8) then (if bt383.2 = 1 then ((boarderlaw24_knows.f k).bind fun t386 => (some t386)) else (none)) else (none)))))) = some r := H
 have A2 := Aside0.mk A20
 clear A20
 by_cases c3 : t381 = true
 · subst c3
   have H1 : ((boarderlaw24_knows.f k).bind fun t382 => (some t382)) = some r := by rw [if_pos rfl] at H; exact H
   clear H
   have H := H1
   clear H1
   replace H := Option.bind_eq_some_iff.mp H
   obtain ⟨t382, A40, H⟩ := H
   replace H : (some t382) = some r := H
   have A4 := Aside0.mk A40
   clear A40
   obtain rfl := Option.some.inj H
   go_enter Tryd.func6, Tryd.ntmps6
   go_wp2_with (first | ((with_reducible refine gate_callee (f := 18) rfl ?_); refine goesL_ (some 9) rfl rfl Tryd.func18 (by kernel_rfl) rfl #[.slice A0 l0.length c0] rfl sqA ?_; (with_reducible refine (boarderlaw12_Great.calls _ _ _ _ _ _ ?side1 ?side2 A2.out).mono ?_); (case side1 => repeat (first | exact HR0.out | (with_reducible refine Kd.C_alloc ?_ _) | (with_reducible refine Kd.C_drewN ?_ _) | (with_reducible refine Kd.C_drew ?_))); (case side2 => exact HC0.out); rintro e w' ⟨rfl, ⟨nd, rfl⟩⟩; refine ⟨_, rfl, ?_⟩) | ((with_reducible refine gate_callee (f := 12) rfl ?_); refine goesL_ (some 10) rfl rfl Tryd.func12 (by kernel_rfl) rfl #[] rfl sqA ?_; (with_reducible refine (boarderlaw24_knows.calls k  t382 _ ?side1 A4.out).mono ?_); (case side1 => first | exact HT.out | exact TabW.below HT.out (sqB HB.out) | exact TabW.drawn HT.out ⟨_, rfl⟩); rintro e w5 ⟨rfl, hb⟩; refine ⟨_, rfl, ?_⟩; replace HB := sqM (below_step (sqB HB.out) hb); (try clear hb); (try clear hb2); (try clear hk); (try clear hi)))
   go_ret
   exact ⟨sqE, sqB HB.out⟩
 replace c3 := Bool.eq_false_iff.mpr c3
 subst c3
 have H1 : ((ltext_Print.f k l0).bind fun bt383 => ((boarderref12_Right.f k l0).bind fun t385 => (if t385 = true then ((ltext_Parse.f k bt383.1).bind fun bt387 => ((boarderref24_Print.f k l0).bind fun t392 => (if bt383.1.toList = t392.toList then (if bt383.2 = 0 then ((boarderref10_SameLeases.f k bt387.1 l0).bind fun t393 => (if t393 = true then (if bt387.2.1 = 0 then (if bt387.2.2 = 0 then ((boarderlaw24_knows.f k).bind fun t394 => (some t394)) else (none)) else (none)) else (none))) else (none)) else (none)))) else (if bt383.1.toList = ([] : List UInt8) then (if bt383.2 = 1 then ((boarderlaw24_knows.f k).bind fun t386 => (some t386)) else (none)) else (none))))) = some r := by rw [if_neg (show ¬ (false = true) by decide)] at H; exact H
 clear H
 have H := H1
 clear H1
 replace H := Option.bind_eq_some_iff.mp H
 obtain ⟨⟨t383, t384⟩, A60, H⟩ := H
 replace H : ((boarderref12_Right.f k l0).bind fun t385 => (if t385 = true then ((ltext_Parse.f k t383).bind fun bt387 => ((boarderref24_Print.f k l0).bind fun t392 => (if t383.toList = t392.toList then (if t384 = 0 then ((boarderref10_SameLeases.f k bt387.1 l0).bind fun t393 => (if t393 = true then (if bt387.2.1 = 0 then (if bt387.2.2 = 0 then ((boarderlaw24_knows.f k).bind fun t394 => (some t394)) else (none)) else (none)) else (none))) else (none)) else (none)))) else (if t383.toList = ([] : List UInt8) then (if t384 = 1 then ((boarderlaw24_knows.f k).bind fun t386 => (some t386)) else (none)) else (none)))) = some r := H
 have A6 := Aside0.mk A60
 clear A60
 replace H := Option.bind_eq_some_iff.mp H
 obtain ⟨t385, A70, H⟩ := H
 replace H : (if t385 = true then ((ltext_Parse.f k t383).bind fun bt387 => ((boarderref24_Print.f k l0).bind fun t392 => (if t383.toList = t392.toList then (if t384 = 0 then ((boarderref10_SameLeases.f k bt387.1 l0).bind fun t393 => (if t393 = true then (if bt387.2.1 = 0 then (if bt387.2.2 = 0 then ((boarderlaw24_knows.f k).bind fun t394 => (some t394)) else (none)) else (none)) else (none))) else (none)) else (none)))) else (if t383.toList = ([] : List UInt8) then (if t384 = 1 then ((boarderlaw24_knows.f k).bind fun t386 => (some t386)) else (none)) else (none))) = some r := H
 have A7 := Aside0.mk A70
 clear A70
 by_cases c8 : t385 = true
 rotate_left
 · replace c8 := Bool.eq_false_iff.mpr c8
   subst c8
   have H1 : (if t383.toList = ([] : List UInt8) then (if t384 = 1 then ((boarderlaw24_knows.f k).bind fun t386 => (some t386)) else (none)) else (none)) = some r := by rw [if_neg (show ¬ (false = true) by decide)] at H; exact H
   clear H
   have H := H1
   clear H1
   by_cases c24 : t383.toList = ([] : List UInt8)
   rotate_left
   · rw [if_neg c24] at H
     exact absurd H (by simp)
   rw [if_pos c24] at H
   have c24b0 : (t383.toList == ([] : List UInt8)) = true := beq_iff_eq.mpr c24
   have c24b1 : (t383.toList != ([] : List UInt8)) = false := bne_eq_false_iff_eq.mpr c24
   clear c24
   by_cases c25 : t384 = 1
   rotate_left
   · rw [if_neg c25] at H
     exact absurd H (by simp)
   rw [if_pos c25] at H
   have c25b0 : (t384 == 1) = true := beq_iff_eq.mpr c25
   have c25b1 : (t384 != 1) = false := bne_eq_false_iff_eq.mpr c25
   clear c25
   replace H := Option.bind_eq_some_iff.mp H
   obtain ⟨t386, A260, H⟩ := H
   replace H : (some t386) = some r := H
   have A26 := Aside0.mk A260
   clear A260
   obtain rfl := Option.some.inj H
   go_enter Tryd.func6, Tryd.ntmps6
   go_wp2_with (first | ((with_reducible refine gate_callee (f := 18) rfl ?_); refine goesL_ (some 9) rfl rfl Tryd.func18 (by kernel_rfl) rfl #[.slice A0 l0.length c0] rfl sqA ?_; (with_reducible refine (boarderlaw12_Great.calls _ _ _ _ _ _ ?side1 ?side2 A2.out).mono ?_); (case side1 => repeat (first | exact HR0.out | (with_reducible refine Kd.C_alloc ?_ _) | (with_reducible refine Kd.C_drewN ?_ _) | (with_reducible refine Kd.C_drew ?_))); (case side2 => exact HC0.out); rintro e w' ⟨rfl, ⟨nd, rfl⟩⟩; refine ⟨_, rfl, ?_⟩) | ((with_reducible refine gate_callee (f := 19) rfl ?_); refine goesL_ (some 13) rfl rfl Tryd.func19 (by kernel_rfl) rfl #[.slice A0 l0.length c0] rfl sqA ?_; (with_reducible refine (ltext_Print.calls _ _ _ _ _ _ _ ?side1 ?side2 ?side3 A6.out).mono ?_); (case side1 => repeat (first | exact HR0.out | (with_reducible refine Kd.C_alloc ?_ _) | (with_reducible refine Kd.C_drewN ?_ _) | (with_reducible refine Kd.C_drew ?_))); (case side2 => exact HC0.out); (case side3 => first | exact HT.out | exact TabW.below HT.out (sqB HB.out) | exact TabW.drawn HT.out ⟨_, rfl⟩); rintro e w27 ⟨rfl, hb⟩; refine ⟨_, rfl, ?_⟩; replace HB := sqM (below_step (sqB HB.out) hb); (try clear hb); (try clear hb2); (try clear hk); (try clear hi)) | ((with_reducible refine gate_callee (f := 20) rfl ?_); refine goesL_ (some 17) rfl rfl Tryd.func20 (by kernel_rfl) rfl #[.slice A0 l0.length c0] rfl sqA ?_; (with_reducible refine (boarderref12_Right.calls _ _ _ _ _ _ ?side1 ?side2 A7.out).mono ?_); (case side1 => repeat (first | exact (Kd.C_below HR0.out HB.out) | (with_reducible refine Kd.C_alloc ?_ _) | (with_reducible refine Kd.C_drewN ?_ _) | (with_reducible refine Kd.C_drew ?_))); (case side2 => exact HC0.out); rintro e w28 ⟨rfl, hb⟩; refine ⟨_, rfl, ?_⟩; replace HB := sqM (below_step (sqB HB.out) hb); (try clear hb); (try clear hb2); (try clear hk); (try clear hi)) | (go_at_call 12; (with_reducible refine (boarderlaw24_knows.calls k  t386 _ ?side1 A26.out).mono ?_); (case side1 => first | exact HT.out | exact TabW.below HT.out (sqB HB.out) | exact TabW.drawn HT.out ⟨_, rfl⟩); rintro e w29 ⟨rfl, hb⟩; replace HB := sqM (below_step (sqB HB.out) hb); (try clear hb); (try clear hb2); (try clear hk); (try clear hi)))
   go_ret
   exact ⟨sqE, sqB HB.out⟩
 subst c8
 have H1 : ((ltext_Parse.f k t383).bind fun bt387 => ((boarderref24_Print.f k l0).bind fun t392 => (if t383.toList = t392.toList then (if t384 = 0 then ((boarderref10_SameLeases.f k bt387.1 l0).bind fun t393 => (if t393 = true then (if bt387.2.1 = 0 then (if bt387.2.2 = 0 then ((boarderlaw24_knows.f k).bind fun t394 => (some t394)) else (none)) else (none)) else (none))) else (none)) else (none)))) = some r := by rw [if_pos rfl] at H; exact H
 clear H
 have H := H1
 clear H1
 replace H := Option.bind_eq_some_iff.mp H
 obtain ⟨⟨t387, t388, t389⟩, A90, H⟩ := H
 replace H : ((boarderref24_Print.f k l0).bind fun t392 => (if t383.toList = t392.toList then (if t384 = 0 then ((boarderref10_SameLeases.f k t387 l0).bind fun t393 => (if t393 = true then (if t388 = 0 then (if t389 = 0 then ((boarderlaw24_knows.f k).bind fun t394 => (some t394)) else (none)) else (none)) else (none))) else (none)) else (none))) = some r := H
 have A9 := Aside0.mk A90
 clear A90
 replace H := Option.bind_eq_some_iff.mp H
 obtain ⟨t392, A100, H⟩ := H
 replace H : (if t383.toList = t392.toList then (if t384 = 0 then ((boarderref10_SameLeases.f k t387 l0).bind fun t393 => (if t393 = true then (if t388 = 0 then (if t389 = 0 then ((boarderlaw24_knows.f k).bind fun t394 => (some t394)) else (none)) else (none)) else (none))) else (none)) else (none)) = some r := H
 have A10 := Aside0.mk A100
 clear A100
 by_cases c11 : t383.toList = t392.toList
 rotate_left
 · rw [if_neg c11] at H
   exact absurd H (by simp)
 rw [if_pos c11] at H
 have c11b0 : (t383.toList == t392.toList) = true := beq_iff_eq.mpr c11
 have c11b1 : (t383.toList != t392.toList) = false := bne_eq_false_iff_eq.mpr c11
 clear c11
 by_cases c12 : t384 = 0
 rotate_left
 · rw [if_neg c12] at H
   exact absurd H (by simp)
 rw [if_pos c12] at H
 have c12b0 : (t384 == 0) = true := beq_iff_eq.mpr c12
 have c12b1 : (t384 != 0) = false := bne_eq_false_iff_eq.mpr c12
 clear c12
 replace H := Option.bind_eq_some_iff.mp H
 obtain ⟨t393, A130, H⟩ := H
 replace H : (if t393 = true then (if t388 = 0 then (if t389 = 0 then ((boarderlaw24_knows.f k).bind fun t394 => (some t394)) else (none)) else (none)) else (none)) = some r := H
 have A13 := Aside0.mk A130
 clear A130
 by_cases c14 : t393 = true
 rotate_left
 · replace c14 := Bool.eq_false_iff.mpr c14
   subst c14
   have H1 : (none) = some r := by rw [if_neg (show ¬ (false = true) by decide)] at H; exact H
   clear H
   have H := H1
   clear H1
   exact absurd H (by simp)
 subst c14
 have H1 : (if t388 = 0 then (if t389 = 0 then ((boarderlaw24_knows.f k).bind fun t394 => (some t394)) else (none)) else (none)) = some r := by rw [if_pos rfl] at H; exact H
 clear H
 have H := H1
 clear H1
 by_cases c15 : t388 = 0
 rotate_left
 · rw [if_neg c15] at H
   exact absurd H (by simp)
 rw [if_pos c15] at H
 have c15b0 : (t388 == 0) = true := beq_iff_eq.mpr c15
 have c15b1 : (t388 != 0) = false := bne_eq_false_iff_eq.mpr c15
 clear c15
 by_cases c16 : t389 = 0
 rotate_left
 · rw [if_neg c16] at H
   exact absurd H (by simp)
 rw [if_pos c16] at H
 have c16b0 : (t389 == 0) = true := beq_iff_eq.mpr c16
 have c16b1 : (t389 != 0) = false := bne_eq_false_iff_eq.mpr c16
 clear c16
 replace H := Option.bind_eq_some_iff.mp H
 obtain ⟨t394, A170, H⟩ := H
 replace H : (some t394) = some r := H
 have A17 := Aside0.mk A170
 clear A170
 obtain rfl := Option.some.inj H
 go_enter Tryd.func6, Tryd.ntmps6
 go_wp2_with (first | ((with_reducible refine gate_callee (f := 18) rfl ?_); refine goesL_ (some 9) rfl rfl Tryd.func18 (by kernel_rfl) rfl #[.slice A0 l0.length c0] rfl sqA ?_; (with_reducible refine (boarderlaw12_Great.calls _ _ _ _ _ _ ?side1 ?side2 A2.out).mono ?_); (case side1 => repeat (first | exact HR0.out | (with_reducible refine Kd.C_alloc ?_ _) | (with_reducible refine Kd.C_drewN ?_ _) | (with_reducible refine Kd.C_drew ?_))); (case side2 => exact HC0.out); rintro e w' ⟨rfl, ⟨nd, rfl⟩⟩; refine ⟨_, rfl, ?_⟩) | ((with_reducible refine gate_callee (f := 19) rfl ?_); refine goesL_ (some 13) rfl rfl Tryd.func19 (by kernel_rfl) rfl #[.slice A0 l0.length c0] rfl sqA ?_; (with_reducible refine (ltext_Print.calls _ _ _ _ _ _ _ ?side1 ?side2 ?side3 A6.out).mono ?_); (case side1 => repeat (first | exact HR0.out | (with_reducible refine Kd.C_alloc ?_ _) | (with_reducible refine Kd.C_drewN ?_ _) | (with_reducible refine Kd.C_drew ?_))); (case side2 => exact HC0.out); (case side3 => first | exact HT.out | exact TabW.below HT.out (sqB HB.out) | exact TabW.drawn HT.out ⟨_, rfl⟩); rintro e w18 ⟨rfl, hb⟩; refine ⟨_, rfl, ?_⟩; replace HB := sqM (below_step (sqB HB.out) hb); (try clear hb); (try clear hb2); (try clear hk); (try clear hi)) | ((with_reducible refine gate_callee (f := 20) rfl ?_); refine goesL_ (some 17) rfl rfl Tryd.func20 (by kernel_rfl) rfl #[.slice A0 l0.length c0] rfl sqA ?_; (with_reducible refine (boarderref12_Right.calls _ _ _ _ _ _ ?side1 ?side2 A7.out).mono ?_); (case side1 => repeat (first | exact (Kd.C_below HR0.out HB.out) | (with_reducible refine Kd.C_alloc ?_ _) | (with_reducible refine Kd.C_drewN ?_ _) | (with_reducible refine Kd.C_drew ?_))); (case side2 => exact HC0.out); rintro e w19 ⟨rfl, hb⟩; refine ⟨_, rfl, ?_⟩; replace HB := sqM (below_step (sqB HB.out) hb); (try clear hb); (try clear hb2); (try clear hk); (try clear hi)) | ((with_reducible refine gate_callee (f := 21) rfl ?_); refine goesL_ (some 30) rfl rfl Tryd.func21 (by kernel_rfl) rfl #[.string t383] rfl sqA ?_; (with_reducible refine (ltext_Parse.calls _ _ _ _ _ _ ?side1 A9.out).mono ?_); (case side1 => first | exact HT.out | exact TabW.below HT.out (sqB HB.out) | exact TabW.drawn HT.out ⟨_, rfl⟩); rintro e w20 ⟨v390, rfl, ho0, hb⟩; refine ⟨_, rfl, ?_⟩; have HO391 := sqM (Kd.R_lower ho0 (below_size (sqB HB.out))); replace HB := sqM (below_step (sqB HB.out) hb); (try clear hb); (try clear hb2); (try clear hk); (try clear hi); (try clear ho0)) | ((with_reducible refine gate_callee (f := 22) rfl ?_); refine goesL_ (some 36) rfl rfl Tryd.func22 (by kernel_rfl) rfl #[.slice A0 l0.length c0] rfl sqA ?_; (with_reducible refine (boarderref24_Print.calls _ _ _ _ _ _ ?side1 ?side2 A10.out).mono ?_); (case side1 => repeat (first | exact (Kd.C_below HR0.out HB.out) | (with_reducible refine Kd.C_alloc ?_ _) | (with_reducible refine Kd.C_drewN ?_ _) | (with_reducible refine Kd.C_drew ?_))); (case side2 => exact HC0.out); rintro e w21 ⟨rfl, hb⟩; refine ⟨_, rfl, ?_⟩; replace HO391 := sqM (Kd.R_below (sqR HO391.out) hb); replace HB := sqM (below_step (sqB HB.out) hb); (try clear hb); (try clear hb2); (try clear hk); (try clear hi); obtain ⟨Ao22, co22, eo22⟩ := Kd.R_slice HO391.out; subst eo22) | (go_at_call 23; (with_reducible refine (boarderref10_SameLeases.calls _ _ _ _ _ _ _ _ _ ?side1 ?side2 ?side3 ?side4 A13.out).mono ?_); (case side1 => repeat (first | exact (Kd.R_reads' HO391.out).2.2 | (with_reducible refine Kd.C_alloc ?_ _) | (with_reducible refine Kd.C_drewN ?_ _) | (with_reducible refine Kd.C_drew ?_))); (case side2 => exact (Kd.R_reads' HO391.out).2.1); (case side3 => repeat (first | exact (Kd.C_below HR0.out HB.out) | (with_reducible refine Kd.C_alloc ?_ _) | (with_reducible refine Kd.C_drewN ?_ _) | (with_reducible refine Kd.C_drew ?_))); (case side4 => exact HC0.out); rintro e w' ⟨rfl, ⟨nd, rfl⟩⟩) | (go_at_call 12; (with_reducible refine (boarderlaw24_knows.calls k  t394 _ ?side1 A17.out).mono ?_); (case side1 => first | exact HT.out | exact TabW.below HT.out (sqB HB.out) | exact TabW.drawn HT.out ⟨_, rfl⟩); rintro e w23 ⟨rfl, hb⟩; replace HO391 := sqM (Kd.R_below (sqR HO391.out) hb); replace HB := sqM (below_step (sqB HB.out) hb); (try clear hb); (try clear hb2); (try clear hk); (try clear hi)))
 go_ret
 exact ⟨sqE, sqB HB.out⟩

end Go.Proofs.YtdajdpgnhjlbaaaDoor.PLease
