/- Lean functions for Go functions of the given program, and proofs that the code computes them, each under its theorem's own conditions. Written by a program of this session. -/
import Derived.Test.YtdcabfonjmeajaaPConfx0
import Derived.Test.YtdcabfonjmeajaaPConfx1
import Derived.Test.YtdcabfonjmeajaaPConfx6
import Derived.Test.YtdcabfonjmeajaaPConfx7
import Derived.Test.YtdcabfonjmeajaaPConfx13
namespace Go.Proofs.Ytdcabfonjmeajaa.PConf
open Go.RowKit Go.Proofs.YtdcabfonjmeajaaW.PrintWords Go.Proofs.YtdcabfonjmeajaaW.PrintLast Go.Proofs.YtdcabfonjmeajaaW.PrintMore
attribute [local go_sem] max2_int min2_int max_two min_two max_three min_three max_four min_four   -- for this text's walks alone
set_option linter.unusedVariables false
set_option linter.unusedSimpArgs false

/-! ### boarderlaw13_ConfOne: function 5 -/
mutual
def boarderlaw13_ConfOne.j0 : Nat → Int → Int → Int → ByteArray → Bool → Int → Int → List (S41) → Option (Bool)
  | 0, _, _, _, _, _, _, _, _ => none
  | k + 1, x1, x2, x3, x4, x39, x389000, x389001, x389002 => if x39 = true then ((boarderlaw13_knows.f k).bind fun t391 => (some t391)) else ((conf_Find.f k x389000 x389001 x389002 x3).bind fun bt392 => ((conf_InPool.f k x389000 x389001 x389002 x1 x3).bind fun t395 => (if t395 = true then (if bt392.2.2 = true then (if bt392.1 = x1 then ((conf_InPool.f k x389000 x389001 x389002 x2 x3).bind fun t396 => (if t396 = true then (boarderlaw13_ConfOne.j1 k x1 x3 x4 bt392.2.2 true x389000 x389001 x389002) else (boarderlaw13_ConfOne.j1 k x1 x3 x4 bt392.2.2 (x3 == x389000) x389000 x389001 x389002))) else (boarderlaw13_ConfOne.j1 k x1 x3 x4 bt392.2.2 true x389000 x389001 x389002)) else (boarderlaw13_ConfOne.j1 k x1 x3 x4 bt392.2.2 true x389000 x389001 x389002)) else (boarderlaw13_ConfOne.j1 k x1 x3 x4 bt392.2.2 false x389000 x389001 x389002))))
def boarderlaw13_ConfOne.j1 : Nat → Int → Int → ByteArray → Bool → Bool → Int → Int → List (S41) → Option (Bool)
  | 0, _, _, _, _, _, _, _, _ => none
  | k + 1, x1, x3, x4, x13, x72, x389000, x389001, x389002 => if x72 = true then (none) else ((conf_KeptFor.f k x389000 x389001 x389002 x1 x4).bind fun bt397 => (if bt397.2 = true then ((conf_Find.f k x389000 x389001 x389002 bt397.1).bind fun bt399 => ((conf_Keeper.f k x389000 x389001 x389002 bt397.1).bind fun bt402 => (if bt399.2.2 = true then (if bt399.1 = x1 then (if bt402.2 = true then (if bt402.1.toList = x4.toList then (boarderlaw13_ConfOne.j2 k x3 x13 (bt397.1 == x389000) x389000 x389001 x389002) else (boarderlaw13_ConfOne.j2 k x3 x13 true x389000 x389001 x389002)) else (boarderlaw13_ConfOne.j2 k x3 x13 true x389000 x389001 x389002)) else (boarderlaw13_ConfOne.j2 k x3 x13 true x389000 x389001 x389002)) else (boarderlaw13_ConfOne.j2 k x3 x13 true x389000 x389001 x389002)))) else ((conf_Keeper.f k x389000 x389001 x389002 x3).bind fun bt408 => (if bt408.2 = true then (if x13 = true then ((boarderlaw13_knows.f k).bind fun t410 => (some t410)) else (none)) else ((boarderlaw13_knows.f k).bind fun t411 => (some t411))))))
def boarderlaw13_ConfOne.j2 : Nat → Int → Bool → Bool → Int → Int → List (S41) → Option (Bool)
  | 0, _, _, _, _, _, _ => none
  | k + 1, x3, x13, x115, x389000, x389001, x389002 => if x115 = true then (none) else ((conf_Keeper.f k x389000 x389001 x389002 x3).bind fun bt404 => (if bt404.2 = true then (if x13 = true then ((boarderlaw13_knows.f k).bind fun t406 => (some t406)) else (none)) else ((boarderlaw13_knows.f k).bind fun t407 => (some t407))))
end
def boarderlaw13_ConfOne.f (k : Nat) (a0_0 : Int) (a0_1 : Int) (l0_2 : List (S41)) (a1 : Int) (a2 : Int) (a3 : Int) (a4 : ByteArray) : Option (Bool) := (boarderlaw13_Great.f k a0_0 a0_1 l0_2).bind fun t389 => (if t389 = true then (boarderlaw13_ConfOne.j0 k a1 a2 a3 a4 true a0_0 a0_1 l0_2) else (if (a4.size : Int) > 1000 then (boarderlaw13_ConfOne.j0 k a1 a2 a3 a4 true a0_0 a0_1 l0_2) else (if a1 = a2 then (boarderlaw13_ConfOne.j0 k a1 a2 a3 a4 true a0_0 a0_1 l0_2) else ((boarderref13_Check.f k a0_0 a0_1 l0_2).bind fun t390 => (boarderlaw13_ConfOne.j0 k a1 a2 a3 a4 (t390 != 0) a0_0 a0_1 l0_2)))))
set_option maxHeartbeats 8000000 in
set_option maxRecDepth 100000 in
theorem boarderlaw13_ConfOne.calls (k : Nat) (a0_0 : Int) (a0_1 : Int) (A0_2 : Option Addr) (c0_2 : Nat) (l0_2 : List (S41)) (a1 : Int) (a2 : Int) (a3 : Int) (a4 : ByteArray) (r : Bool) (w : World) (hr0_2 : Kd.C k41 w A0_2 l0_2.length l0_2) (hc0_2 : l0_2.length ≤ c0_2) (h : boarderlaw13_ConfOne.f k a0_0 a0_1 l0_2 a1 a2 a3 a4 = some r) :
    Calls Try.prog 5 #[.agg #[.int .i64 a0_0, .int .i64 a0_1, .slice A0_2 l0_2.length c0_2], .int .i64 a1, .int .i64 a2, .int .i64 a3, .string a4] w fun e w' => e = .returned (.bool r) ∧ Below w.heap.size w w' := by
 have hu24 := Try.underlying24
 have HR0_2 := Aside0.mk hr0_2
 have HC0_2 := Aside0.mk hc0_2
 clear hr0_2 hc0_2
 have HB := Aside0.mk (Below.refl w.heap.size w)
 have H : ((boarderlaw13_Great.f k a0_0 a0_1 l0_2).bind fun t389 => (if t389 = true then (boarderlaw13_ConfOne.j0 k a1 a2 a3 a4 true a0_0 a0_1 l0_2) else (if (a4.size : Int) > 1000 then (boarderlaw13_ConfOne.j0 k a1 a2 a3 a4 true a0_0 a0_1 l0_2) else (if a1 = a2 then (boarderlaw13_ConfOne.j0 k a1 a2 a3 a4 true a0_0 a0_1 l0_2) else ((boarderref13_Check.f k a0_0 a0_1 l0_2).bind fun t390 => (boarderlaw13_ConfOne.j0 k a1 a2 a3 a4 (t390 != 0) a0_0 a0_1 l0_2)))))) = some r := h
 clear h
 have HC6 := Aside0.mk H
 clear H
 go_enter Try.func5, Try.ntmps5
 go_upto_region 1 with (first | ((with_reducible refine gate_dst (N := 5) rfl ?_); (try (refine gate_guard (by rfl) ?_; dsimp only)); refine box_event rfl (N := 5) rfl (cs := #[.int .i64 a0_0, .int .i64 a0_1, .slice A0_2 l0_2.length c0_2]) (t := 24) sqs ?_; intro gb388 hg w7 hbox hb; have BK388 := sqM (hbox); have GW388 := sqM (sqZ hg (sqB HB.out)); have GE388 := sqM (sqZ hg (sqB HB.out)); replace HB := sqM (below_step (sqB HB.out) hb); clear hb hbox hg))
 (try simp only [Act.put, List.setIfInBounds_toArray, List.set_cons_zero, List.set_cons_succ])
 go_cut [39] (fun v39 wc => ∃ (kq : Nat) (x39_5 : Bool), v39 = .bool x39_5 ∧ Aside0 (boarderlaw13_ConfOne.j0 kq a1 a2 a3 a4 x39_5 a0_0 a0_1 l0_2 = some r) ∧ Aside0 (kq ≤ k) ∧ Aside0 (wc.heap[gb388]? = some (.cells #[.int .i64 a0_0, .int .i64 a0_1, (.slice A0_2 l0_2.length c0_2)] 24 (0, 0))) ∧ Aside0 (Below w.heap.size w wc))
 case first =>
  have H := HC6.out
  clear HC6
  replace H := Option.bind_eq_some_iff.mp H
  obtain ⟨t389, A80, H⟩ := H
  replace H : (if t389 = true then (boarderlaw13_ConfOne.j0 k a1 a2 a3 a4 true a0_0 a0_1 l0_2) else (if (a4.size : Int) > 1000 then (boarderlaw13_ConfOne.j0 k a1 a2 a3 a4 true a0_0 a0_1 l0_2) else (if a1 = a2 then (boarderlaw13_ConfOne.j0 k a1 a2 a3 a4 true a0_0 a0_1 l0_2) else ((boarderref13_Check.f k a0_0 a0_1 l0_2).bind fun t390 => (boarderlaw13_ConfOne.j0 k a1 a2 a3 a4 (t390 != 0) a0_0 a0_1 l0_2))))) = some r := H
  have A8 := Aside0.mk A80
  clear A80
  by_cases c9 : t389 = true
  · subst c9
    have H1 : (boarderlaw13_ConfOne.j0 k a1 a2 a3 a4 true a0_0 a0_1 l0_2) = some r := by rw [if_pos rfl] at H; exact H
    clear H
    have H := H1
    clear H1
    have H' := Aside0.mk H
    clear H
    obtain ⟨hcz10_0, hcz10_1, hcz10_2, hfz10_0, hfz10_1, hfz10_2⟩ := sqF3 BK388.out
    go_wp2_with (first | ((with_reducible refine gate_callee (f := 14) rfl ?_); refine goesL_ (some 24) rfl rfl Try.func14 (by kernel_rfl) rfl #[.agg #[.int .i64 a0_0, .int .i64 a0_1, .slice A0_2 l0_2.length c0_2]] rfl sqA ?_; (with_reducible refine (boarderlaw13_Great.calls _ _ _ _ _ _ _ _ ?side1 ?side2 A8.out).mono ?_); (case side1 => repeat (first | exact (Kd.C_below HR0_2.out HB.out) | (with_reducible refine Kd.C_alloc ?_ _) | (with_reducible refine Kd.C_drewN ?_ _) | (with_reducible refine Kd.C_drew ?_))); (case side2 => exact HC0_2.out); rintro e w11 ⟨rfl, hb⟩; refine ⟨_, rfl, ?_⟩; replace BK388 := sqM (blk_below (sqK BK388.out) hb); replace HB := sqM (below_step (sqB1 HB.out GE388.out) hb); (try clear hb); (try clear hb2); (try clear hk); (try clear hi)))
    go_meet
    case rel => exact ⟨_, (true), sqI, H', ⟨by first | omega | exact Nat.le_refl _⟩, ⟨sqK BK388.out⟩, ⟨sqB1 HB.out GE388.out⟩⟩
  replace c9 := Bool.eq_false_iff.mpr c9
  subst c9
  have H1 : (if (a4.size : Int) > 1000 then (boarderlaw13_ConfOne.j0 k a1 a2 a3 a4 true a0_0 a0_1 l0_2) else (if a1 = a2 then (boarderlaw13_ConfOne.j0 k a1 a2 a3 a4 true a0_0 a0_1 l0_2) else ((boarderref13_Check.f k a0_0 a0_1 l0_2).bind fun t390 => (boarderlaw13_ConfOne.j0 k a1 a2 a3 a4 (t390 != 0) a0_0 a0_1 l0_2)))) = some r := by rw [if_neg (show ¬ (false = true) by decide)] at H; exact H
  clear H
  have H := H1
  clear H1
  by_cases c12 : (a4.size : Int) > 1000
  · rw [if_pos c12] at H
    have c12b0 : decide (1000 < (a4.size : Int)) = true := decide_eq_true c12
    have c12b1 : decide (1000 < a4.size) = true := decide_eq_true (by omega)
    clear c12
    (first | rw [c12b0] | (simp only [i64_w, i32_w]; rw [c12b0]) | skip)
    have H' := Aside0.mk H
    clear H
    obtain ⟨hcz13_0, hcz13_1, hcz13_2, hfz13_0, hfz13_1, hfz13_2⟩ := sqF3 BK388.out
    go_wp2_with (first | ((with_reducible refine gate_callee (f := 14) rfl ?_); refine goesL_ (some 24) rfl rfl Try.func14 (by kernel_rfl) rfl #[.agg #[.int .i64 a0_0, .int .i64 a0_1, .slice A0_2 l0_2.length c0_2]] rfl sqA ?_; (with_reducible refine (boarderlaw13_Great.calls _ _ _ _ _ _ _ _ ?side1 ?side2 A8.out).mono ?_); (case side1 => repeat (first | exact (Kd.C_below HR0_2.out HB.out) | (with_reducible refine Kd.C_alloc ?_ _) | (with_reducible refine Kd.C_drewN ?_ _) | (with_reducible refine Kd.C_drew ?_))); (case side2 => exact HC0_2.out); rintro e w14 ⟨rfl, hb⟩; refine ⟨_, rfl, ?_⟩; replace BK388 := sqM (blk_below (sqK BK388.out) hb); replace HB := sqM (below_step (sqB1 HB.out GE388.out) hb); (try clear hb); (try clear hb2); (try clear hk); (try clear hi)))
    go_meet
    case rel => exact ⟨_, (true), sqI, H', ⟨by first | omega | exact Nat.le_refl _⟩, ⟨sqK BK388.out⟩, ⟨sqB1 HB.out GE388.out⟩⟩
  rw [if_neg c12] at H
  have c12b0 : decide (1000 < (a4.size : Int)) = false := decide_eq_false c12
  have c12b1 : decide (1000 < a4.size) = false := decide_eq_false (by omega)
  clear c12
  (first | rw [c12b0] | (simp only [i64_w, i32_w]; rw [c12b0]) | skip)
  by_cases c15 : a1 = a2
  · rw [if_pos c15] at H
    have c15b0 : (a1 == a2) = true := beq_iff_eq.mpr c15
    have c15b1 : (a1 != a2) = false := bne_eq_false_iff_eq.mpr c15
    clear c15
    have H' := Aside0.mk H
    clear H
    obtain ⟨hcz16_0, hcz16_1, hcz16_2, hfz16_0, hfz16_1, hfz16_2⟩ := sqF3 BK388.out
    go_wp2_with (first | ((with_reducible refine gate_callee (f := 14) rfl ?_); refine goesL_ (some 24) rfl rfl Try.func14 (by kernel_rfl) rfl #[.agg #[.int .i64 a0_0, .int .i64 a0_1, .slice A0_2 l0_2.length c0_2]] rfl sqA ?_; (with_reducible refine (boarderlaw13_Great.calls _ _ _ _ _ _ _ _ ?side1 ?side2 A8.out).mono ?_); (case side1 => repeat (first | exact (Kd.C_below HR0_2.out HB.out) | (with_reducible refine Kd.C_alloc ?_ _) | (with_reducible refine Kd.C_drewN ?_ _) | (with_reducible refine Kd.C_drew ?_))); (case side2 => exact HC0_2.out); rintro e w17 ⟨rfl, hb⟩; refine ⟨_, rfl, ?_⟩; replace BK388 := sqM (blk_below (sqK BK388.out) hb); replace HB := sqM (below_step (sqB1 HB.out GE388.out) hb); (try clear hb); (try clear hb2); (try clear hk); (try clear hi)))
    go_meet
    case rel => exact ⟨_, (true), sqI, H', ⟨by first | omega | exact Nat.le_refl _⟩, ⟨sqK BK388.out⟩, ⟨sqB1 HB.out GE388.out⟩⟩
  rw [if_neg c15] at H
  have c15b0 : (a1 == a2) = false := beq_eq_false_iff_ne.mpr c15
  have c15b1 : (a1 != a2) = true := bne_iff_ne.mpr c15
  replace H := Option.bind_eq_some_iff.mp H
  obtain ⟨t390, A180, H⟩ := H
  replace H : (boarderlaw13_ConfOne.j0 k a1 a2 a3 a4 (t390 != 0) a0_0 a0_1 l0_2) = some r := H
  have A18 := Aside0.mk A180
  clear A180
  have H' := Aside0.mk H
  clear H
  obtain ⟨hcz19_0, hcz19_1, hcz19_2, hfz19_0, hfz19_1, hfz19_2⟩ := sqF3 BK388.out
  go_wp2_with (first | ((with_reducible refine gate_callee (f := 14) rfl ?_); refine goesL_ (some 24) rfl rfl Try.func14 (by kernel_rfl) rfl #[.agg #[.int .i64 a0_0, .int .i64 a0_1, .slice A0_2 l0_2.length c0_2]] rfl sqA ?_; (with_reducible refine (boarderlaw13_Great.calls _ _ _ _ _ _ _ _ ?side1 ?side2 A8.out).mono ?_); (case side1 => repeat (first | exact (Kd.C_below HR0_2.out HB.out) | (with_reducible refine Kd.C_alloc ?_ _) | (with_reducible refine Kd.C_drewN ?_ _) | (with_reducible refine Kd.C_drew ?_))); (case side2 => exact HC0_2.out); rintro e w20 ⟨rfl, hb⟩; refine ⟨_, rfl, ?_⟩; replace BK388 := sqM (blk_below (sqK BK388.out) hb); replace HB := sqM (below_step (sqB1 HB.out GE388.out) hb); (try clear hb); (try clear hb2); (try clear hk); (try clear hi); obtain ⟨hcz21_0, hcz21_1, hcz21_2, hfz21_0, hfz21_1, hfz21_2⟩ := sqF3 BK388.out) | (go_at_call 17; (with_reducible refine (boarderref13_Check.calls _ _ _ _ _ _ _ _ ?side1 ?side2 A18.out).mono ?_); (case side1 => repeat (first | exact (Kd.C_below HR0_2.out HB.out) | (with_reducible refine Kd.C_alloc ?_ _) | (with_reducible refine Kd.C_drewN ?_ _) | (with_reducible refine Kd.C_drew ?_))); (case side2 => exact HC0_2.out); rintro e w22 ⟨rfl, hb⟩; replace BK388 := sqM (blk_below (sqK BK388.out) hb); replace HB := sqM (below_step (sqB1 HB.out GE388.out) hb); (try clear hb); (try clear hb2); (try clear hk); (try clear hi)))
  go_meet
  case rel => exact ⟨_, ((t390 != 0)), sqI, H', ⟨by first | omega | exact Nat.le_refl _⟩, ⟨sqK BK388.out⟩, ⟨sqB1 HB.out GE388.out⟩⟩
 clear HC6
 try clear c1
 try clear p2
 try clear c5
 try clear c9
 try clear c12
 try clear c12b0
 try clear c12b1
 try clear c14
 try clear c15
 try clear c15b0
 try clear c15b1
 try clear hcz10_0 hcz10_1 hcz10_2
 try clear hcz13_0 hcz13_1 hcz13_2
 try clear hcz16_0 hcz16_1 hcz16_2
 try clear hcz19_0 hcz19_1 hcz19_2
 try clear hcz21_0 hcz21_1 hcz21_2
 try clear hfz10_0 hfz10_1 hfz10_2
 try clear hfz13_0 hfz13_1 hfz13_2
 try clear hfz16_0 hfz16_1 hfz16_2
 try clear hfz19_0 hfz19_1 hfz19_2
 try clear hfz21_0 hfz21_1 hfz21_2
 obtain ⟨kq, x39_5, rfl, HA, HJ5, BK388, HB⟩ := hcut
 cases kq with
 | zero => exact absurd HA.out (by simp [boarderlaw13_ConfOne.j0])
 | succ kj5 => ?_
 have H := HA.out
 clear HA
 simp only [boarderlaw13_ConfOne.j0] at H
 by_cases c23 : x39_5 = true
 · subst c23
   have H1 : ((boarderlaw13_knows.f kj5).bind fun t391 => (some t391)) = some r := by rw [if_pos rfl] at H; exact H
   clear H
   have H := H1
   clear H1
   replace H := Option.bind_eq_some_iff.mp H
   obtain ⟨t391, A240, H⟩ := H
   replace H : (some t391) = some r := H
   have A24 := Aside0.mk A240
   clear A240
   obtain rfl := Option.some.inj H
   go_wp2_with (first | ((with_reducible refine gate_callee (f := 15) rfl ?_); refine goesL_ (some 40) rfl rfl Try.func15 (by kernel_rfl) rfl #[] rfl sqA ?_; (with_reducible refine (boarderlaw13_knows.calls kj5  t391 _ A24.out).mono ?_); rintro e w25 ⟨rfl, hb⟩; refine ⟨_, rfl, ?_⟩; replace BK388 := sqM (blk_below (sqK BK388.out) hb); replace HB := sqM (below_step (sqB1 HB.out GE388.out) hb); (try clear hb); (try clear hb2); (try clear hk); (try clear hi)))
   go_ret
   exact ⟨sqE, sqB1 HB.out GE388.out⟩
 replace c23 := Bool.eq_false_iff.mpr c23
 subst c23
 have H1 : ((conf_Find.f kj5 a0_0 a0_1 l0_2 a3).bind fun bt392 => ((conf_InPool.f kj5 a0_0 a0_1 l0_2 a1 a3).bind fun t395 => (if t395 = true then (if bt392.2.2 = true then (if bt392.1 = a1 then ((conf_InPool.f kj5 a0_0 a0_1 l0_2 a2 a3).bind fun t396 => (if t396 = true then (boarderlaw13_ConfOne.j1 kj5 a1 a3 a4 bt392.2.2 true a0_0 a0_1 l0_2) else (boarderlaw13_ConfOne.j1 kj5 a1 a3 a4 bt392.2.2 (a3 == a0_0) a0_0 a0_1 l0_2))) else (boarderlaw13_ConfOne.j1 kj5 a1 a3 a4 bt392.2.2 true a0_0 a0_1 l0_2)) else (boarderlaw13_ConfOne.j1 kj5 a1 a3 a4 bt392.2.2 true a0_0 a0_1 l0_2)) else (boarderlaw13_ConfOne.j1 kj5 a1 a3 a4 bt392.2.2 false a0_0 a0_1 l0_2)))) = some r := by rw [if_neg (show ¬ (false = true) by decide)] at H; exact H
 clear H
 have H := H1
 clear H1
 replace H := Option.bind_eq_some_iff.mp H
 obtain ⟨⟨t392, t393, t394⟩, A260, H⟩ := H
 replace H : ((conf_InPool.f kj5 a0_0 a0_1 l0_2 a1 a3).bind fun t395 => (if t395 = true then (if t394 = true then (if t392 = a1 then ((conf_InPool.f kj5 a0_0 a0_1 l0_2 a2 a3).bind fun t396 => (if t396 = true then (boarderlaw13_ConfOne.j1 kj5 a1 a3 a4 t394 true a0_0 a0_1 l0_2) else (boarderlaw13_ConfOne.j1 kj5 a1 a3 a4 t394 (a3 == a0_0) a0_0 a0_1 l0_2))) else (boarderlaw13_ConfOne.j1 kj5 a1 a3 a4 t394 true a0_0 a0_1 l0_2)) else (boarderlaw13_ConfOne.j1 kj5 a1 a3 a4 t394 true a0_0 a0_1 l0_2)) else (boarderlaw13_ConfOne.j1 kj5 a1 a3 a4 t394 false a0_0 a0_1 l0_2))) = some r := H
 have A26 := Aside0.mk A260
 clear A260
 have HC27 := Aside0.mk H
 clear H
 obtain ⟨hcz28_0, hcz28_1, hcz28_2, hfz28_0, hfz28_1, hfz28_2⟩ := sqF3 BK388.out
 go_upto_region 4 with (first | ((with_reducible refine gate_callee (f := 24) rfl ?_); refine goesL_ (some 44) rfl rfl Try.func24 (by kernel_rfl) rfl #[.agg #[.int .i64 a0_0, .int .i64 a0_1, .slice A0_2 l0_2.length c0_2], .int .i64 a3] rfl sqA ?_; (with_reducible refine (conf_Find.calls _ _ _ _ _ _ _ _ _ _ _ ?side1 ?side2 A26.out).mono ?_); (case side1 => repeat (first | exact (Kd.C_below HR0_2.out HB.out) | (with_reducible refine Kd.C_alloc ?_ _) | (with_reducible refine Kd.C_drewN ?_ _) | (with_reducible refine Kd.C_drew ?_))); (case side2 => exact HC0_2.out); rintro e w29 ⟨rfl, hb⟩; refine ⟨_, rfl, ?_⟩; replace BK388 := sqM (blk_below (sqK BK388.out) hb); replace HB := sqM (below_step (sqB1 HB.out GE388.out) hb); (try clear hb); (try clear hb2); (try clear hk); (try clear hi)))
 (try simp only [Act.put, List.setIfInBounds_toArray, List.set_cons_zero, List.set_cons_succ])
 go_cut [72] (fun v72 wc => ∃ (kq : Nat) (x72_26 : Bool), v72 = .bool x72_26 ∧ Aside0 (boarderlaw13_ConfOne.j1 kq a1 a3 a4 t394 x72_26 a0_0 a0_1 l0_2 = some r) ∧ Aside0 (kq ≤ kj5) ∧ Aside0 (wc.heap[gb388]? = some (.cells #[.int .i64 a0_0, .int .i64 a0_1, (.slice A0_2 l0_2.length c0_2)] 24 (0, 0))) ∧ Aside0 (Below w.heap.size w wc))
 case first =>
  have H := HC27.out
  clear HC27
  replace H := Option.bind_eq_some_iff.mp H
  obtain ⟨t395, A300, H⟩ := H
  replace H : (if t395 = true then (if t394 = true then (if t392 = a1 then ((conf_InPool.f kj5 a0_0 a0_1 l0_2 a2 a3).bind fun t396 => (if t396 = true then (boarderlaw13_ConfOne.j1 kj5 a1 a3 a4 t394 true a0_0 a0_1 l0_2) else (boarderlaw13_ConfOne.j1 kj5 a1 a3 a4 t394 (a3 == a0_0) a0_0 a0_1 l0_2))) else (boarderlaw13_ConfOne.j1 kj5 a1 a3 a4 t394 true a0_0 a0_1 l0_2)) else (boarderlaw13_ConfOne.j1 kj5 a1 a3 a4 t394 true a0_0 a0_1 l0_2)) else (boarderlaw13_ConfOne.j1 kj5 a1 a3 a4 t394 false a0_0 a0_1 l0_2)) = some r := H
  have A30 := Aside0.mk A300
  clear A300
  by_cases c31 : t395 = true
  rotate_left
  · replace c31 := Bool.eq_false_iff.mpr c31
    subst c31
    have H1 : (boarderlaw13_ConfOne.j1 kj5 a1 a3 a4 t394 false a0_0 a0_1 l0_2) = some r := by rw [if_neg (show ¬ (false = true) by decide)] at H; exact H
    clear H
    have H := H1
    clear H1
    have H' := Aside0.mk H
    clear H
    obtain ⟨hcz49_0, hcz49_1, hcz49_2, hfz49_0, hfz49_1, hfz49_2⟩ := sqF3 BK388.out
    go_wp2_with (first | ((with_reducible refine gate_callee (f := 22) rfl ?_); refine goesL_ (some 51) rfl rfl Try.func22 (by kernel_rfl) rfl #[.agg #[.int .i64 a0_0, .int .i64 a0_1, .slice A0_2 l0_2.length c0_2], .int .i64 a1, .int .i64 a3] rfl sqA ?_; (with_reducible refine (conf_InPool.calls _ _ _ _ _ _ _ _ _ _ ?side1 ?side2 A30.out).mono ?_); (case side1 => repeat (first | exact (Kd.C_below HR0_2.out HB.out) | (with_reducible refine Kd.C_alloc ?_ _) | (with_reducible refine Kd.C_drewN ?_ _) | (with_reducible refine Kd.C_drew ?_))); (case side2 => exact HC0_2.out); rintro e w50 ⟨rfl, hb⟩; refine ⟨_, rfl, ?_⟩; replace BK388 := sqM (blk_below (sqK BK388.out) hb); replace HB := sqM (below_step (sqB1 HB.out GE388.out) hb); (try clear hb); (try clear hb2); (try clear hk); (try clear hi)))
    go_meet
    case rel => exact ⟨_, (false), sqI, H', ⟨by have := HJ5.out; first | omega | exact Nat.le_refl _⟩, ⟨sqK BK388.out⟩, ⟨sqB1 HB.out GE388.out⟩⟩
  subst c31
  have H1 : (if t394 = true then (if t392 = a1 then ((conf_InPool.f kj5 a0_0 a0_1 l0_2 a2 a3).bind fun t396 => (if t396 = true then (boarderlaw13_ConfOne.j1 kj5 a1 a3 a4 t394 true a0_0 a0_1 l0_2) else (boarderlaw13_ConfOne.j1 kj5 a1 a3 a4 t394 (a3 == a0_0) a0_0 a0_1 l0_2))) else (boarderlaw13_ConfOne.j1 kj5 a1 a3 a4 t394 true a0_0 a0_1 l0_2)) else (boarderlaw13_ConfOne.j1 kj5 a1 a3 a4 t394 true a0_0 a0_1 l0_2)) = some r := by rw [if_pos rfl] at H; exact H
  clear H
  have H := H1
  clear H1
  by_cases c32 : t394 = true
  rotate_left
  · replace c32 := Bool.eq_false_iff.mpr c32
    subst c32
    have H1 : (boarderlaw13_ConfOne.j1 kj5 a1 a3 a4 false true a0_0 a0_1 l0_2) = some r := by rw [if_neg (show ¬ (false = true) by decide)] at H; exact H
    clear H
    have H := H1
    clear H1
    have H' := Aside0.mk H
    clear H
    obtain ⟨hcz47_0, hcz47_1, hcz47_2, hfz47_0, hfz47_1, hfz47_2⟩ := sqF3 BK388.out
    go_wp2_with (first | ((with_reducible refine gate_callee (f := 22) rfl ?_); refine goesL_ (some 51) rfl rfl Try.func22 (by kernel_rfl) rfl #[.agg #[.int .i64 a0_0, .int .i64 a0_1, .slice A0_2 l0_2.length c0_2], .int .i64 a1, .int .i64 a3] rfl sqA ?_; (with_reducible refine (conf_InPool.calls _ _ _ _ _ _ _ _ _ _ ?side1 ?side2 A30.out).mono ?_); (case side1 => repeat (first | exact (Kd.C_below HR0_2.out HB.out) | (with_reducible refine Kd.C_alloc ?_ _) | (with_reducible refine Kd.C_drewN ?_ _) | (with_reducible refine Kd.C_drew ?_))); (case side2 => exact HC0_2.out); rintro e w48 ⟨rfl, hb⟩; refine ⟨_, rfl, ?_⟩; replace BK388 := sqM (blk_below (sqK BK388.out) hb); replace HB := sqM (below_step (sqB1 HB.out GE388.out) hb); (try clear hb); (try clear hb2); (try clear hk); (try clear hi)))
    go_meet
    case rel => exact ⟨_, (true), sqI, H', ⟨by have := HJ5.out; first | omega | exact Nat.le_refl _⟩, ⟨sqK BK388.out⟩, ⟨sqB1 HB.out GE388.out⟩⟩
  subst c32
  have H1 : (if t392 = a1 then ((conf_InPool.f kj5 a0_0 a0_1 l0_2 a2 a3).bind fun t396 => (if t396 = true then (boarderlaw13_ConfOne.j1 kj5 a1 a3 a4 true true a0_0 a0_1 l0_2) else (boarderlaw13_ConfOne.j1 kj5 a1 a3 a4 true (a3 == a0_0) a0_0 a0_1 l0_2))) else (boarderlaw13_ConfOne.j1 kj5 a1 a3 a4 true true a0_0 a0_1 l0_2)) = some r := by rw [if_pos rfl] at H; exact H
  clear H
  have H := H1
  clear H1
  by_cases c33 : t392 = a1
  rotate_left
  · rw [if_neg c33] at H
    have c33b0 : (t392 == a1) = false := beq_eq_false_iff_ne.mpr c33
    have c33b1 : (t392 != a1) = true := bne_iff_ne.mpr c33
    (first | rw [c33b0] | (simp only [i64_w, i32_w]; rw [c33b0]) | skip)
    have H' := Aside0.mk H
    clear H
    obtain ⟨hcz45_0, hcz45_1, hcz45_2, hfz45_0, hfz45_1, hfz45_2⟩ := sqF3 BK388.out
    go_wp2_with (first | ((with_reducible refine gate_callee (f := 22) rfl ?_); refine goesL_ (some 51) rfl rfl Try.func22 (by kernel_rfl) rfl #[.agg #[.int .i64 a0_0, .int .i64 a0_1, .slice A0_2 l0_2.length c0_2], .int .i64 a1, .int .i64 a3] rfl sqA ?_; (with_reducible refine (conf_InPool.calls _ _ _ _ _ _ _ _ _ _ ?side1 ?side2 A30.out).mono ?_); (case side1 => repeat (first | exact (Kd.C_below HR0_2.out HB.out) | (with_reducible refine Kd.C_alloc ?_ _) | (with_reducible refine Kd.C_drewN ?_ _) | (with_reducible refine Kd.C_drew ?_))); (case side2 => exact HC0_2.out); rintro e w46 ⟨rfl, hb⟩; refine ⟨_, rfl, ?_⟩; replace BK388 := sqM (blk_below (sqK BK388.out) hb); replace HB := sqM (below_step (sqB1 HB.out GE388.out) hb); (try clear hb); (try clear hb2); (try clear hk); (try clear hi)))
    go_meet
    case rel => exact ⟨_, (true), sqI, H', ⟨by have := HJ5.out; first | omega | exact Nat.le_refl _⟩, ⟨sqK BK388.out⟩, ⟨sqB1 HB.out GE388.out⟩⟩
  rw [if_pos c33] at H
  have c33b0 : (t392 == a1) = true := beq_iff_eq.mpr c33
  have c33b1 : (t392 != a1) = false := bne_eq_false_iff_eq.mpr c33
  clear c33
  (first | rw [c33b0] | (simp only [i64_w, i32_w]; rw [c33b0]) | skip)
  replace H := Option.bind_eq_some_iff.mp H
  obtain ⟨t396, A340, H⟩ := H
  replace H : (if t396 = true then (boarderlaw13_ConfOne.j1 kj5 a1 a3 a4 true true a0_0 a0_1 l0_2) else (boarderlaw13_ConfOne.j1 kj5 a1 a3 a4 true (a3 == a0_0) a0_0 a0_1 l0_2)) = some r := H
  have A34 := Aside0.mk A340
  clear A340
  by_cases c35 : t396 = true
  · subst c35
    have H1 : (boarderlaw13_ConfOne.j1 kj5 a1 a3 a4 true true a0_0 a0_1 l0_2) = some r := by rw [if_pos rfl] at H; exact H
    clear H
    have H := H1
    clear H1
    have H' := Aside0.mk H
    clear H
    obtain ⟨hcz36_0, hcz36_1, hcz36_2, hfz36_0, hfz36_1, hfz36_2⟩ := sqF3 BK388.out
    go_wp2_with (first | ((with_reducible refine gate_callee (f := 22) rfl ?_); refine goesL_ (some 51) rfl rfl Try.func22 (by kernel_rfl) rfl #[.agg #[.int .i64 a0_0, .int .i64 a0_1, .slice A0_2 l0_2.length c0_2], .int .i64 a1, .int .i64 a3] rfl sqA ?_; (with_reducible refine (conf_InPool.calls _ _ _ _ _ _ _ _ _ _ ?side1 ?side2 A30.out).mono ?_); (case side1 => repeat (first | exact (Kd.C_below HR0_2.out HB.out) | (with_reducible refine Kd.C_alloc ?_ _) | (with_reducible refine Kd.C_drewN ?_ _) | (with_reducible refine Kd.C_drew ?_))); (case side2 => exact HC0_2.out); rintro e w37 ⟨rfl, hb⟩; refine ⟨_, rfl, ?_⟩; replace BK388 := sqM (blk_below (sqK BK388.out) hb); replace HB := sqM (below_step (sqB1 HB.out GE388.out) hb); (try clear hb); (try clear hb2); (try clear hk); (try clear hi); obtain ⟨hcz38_0, hcz38_1, hcz38_2, hfz38_0, hfz38_1, hfz38_2⟩ := sqF3 BK388.out) | (go_at_call 22; (with_reducible refine (conf_InPool.calls _ _ _ _ _ _ _ _ _ _ ?side1 ?side2 A34.out).mono ?_); (case side1 => repeat (first | exact (Kd.C_below HR0_2.out HB.out) | (with_reducible refine Kd.C_alloc ?_ _) | (with_reducible refine Kd.C_drewN ?_ _) | (with_reducible refine Kd.C_drew ?_))); (case side2 => exact HC0_2.out); rintro e w39 ⟨rfl, hb⟩; replace BK388 := sqM (blk_below (sqK BK388.out) hb); replace HB := sqM (below_step (sqB1 HB.out GE388.out) hb); (try clear hb); (try clear hb2); (try clear hk); (try clear hi)))
    go_meet
    case rel => exact ⟨_, (true), sqI, H', ⟨by have := HJ5.out; first | omega | exact Nat.le_refl _⟩, ⟨sqK BK388.out⟩, ⟨sqB1 HB.out GE388.out⟩⟩
  replace c35 := Bool.eq_false_iff.mpr c35
  subst c35
  have H1 : (boarderlaw13_ConfOne.j1 kj5 a1 a3 a4 true (a3 == a0_0) a0_0 a0_1 l0_2) = some r := by rw [if_neg (show ¬ (false = true) by decide)] at H; exact H
  clear H
  have H := H1
  clear H1
  have H' := Aside0.mk H
  clear H
  obtain ⟨hcz40_0, hcz40_1, hcz40_2, hfz40_0, hfz40_1, hfz40_2⟩ := sqF3 BK388.out
  go_wp2_with (first | ((with_reducible refine gate_callee (f := 22) rfl ?_); refine goesL_ (some 51) rfl rfl Try.func22 (by kernel_rfl) rfl #[.agg #[.int .i64 a0_0, .int .i64 a0_1, .slice A0_2 l0_2.length c0_2], .int .i64 a1, .int .i64 a3] rfl sqA ?_; (with_reducible refine (conf_InPool.calls _ _ _ _ _ _ _ _ _ _ ?side1 ?side2 A30.out).mono ?_); (case side1 => repeat (first | exact (Kd.C_below HR0_2.out HB.out) | (with_reducible refine Kd.C_alloc ?_ _) | (with_reducible refine Kd.C_drewN ?_ _) | (with_reducible refine Kd.C_drew ?_))); (case side2 => exact HC0_2.out); rintro e w41 ⟨rfl, hb⟩; refine ⟨_, rfl, ?_⟩; replace BK388 := sqM (blk_below (sqK BK388.out) hb); replace HB := sqM (below_step (sqB1 HB.out GE388.out) hb); (try clear hb); (try clear hb2); (try clear hk); (try clear hi); obtain ⟨hcz42_0, hcz42_1, hcz42_2, hfz42_0, hfz42_1, hfz42_2⟩ := sqF3 BK388.out) | (go_at_call 22; (with_reducible refine (conf_InPool.calls _ _ _ _ _ _ _ _ _ _ ?side1 ?side2 A34.out).mono ?_); (case side1 => repeat (first | exact (Kd.C_below HR0_2.out HB.out) | (with_reducible refine Kd.C_alloc ?_ _) | (with_reducible refine Kd.C_drewN ?_ _) | (with_reducible refine Kd.C_drew ?_))); (case side2 => exact HC0_2.out); rintro e w43 ⟨rfl, hb⟩; replace BK388 := sqM (blk_below (sqK BK388.out) hb); replace HB := sqM (below_step (sqB1 HB.out GE388.out) hb); (try clear hb); (try clear hb2); (try clear hk); (try clear hi); obtain ⟨hcz44_0, hcz44_1, hcz44_2, hfz44_0, hfz44_1, hfz44_2⟩ := sqF3 BK388.out))
  go_meet
  case rel => exact ⟨_, ((a3 == a0_0)), sqI, H', ⟨by have := HJ5.out; first | omega | exact Nat.le_refl _⟩, ⟨sqK BK388.out⟩, ⟨sqB1 HB.out GE388.out⟩⟩
 clear HC27
 try clear c1
 try clear c2
 try clear p2
 try clear c3
 try clear c5
 try clear c9
 try clear c12
 try clear c12b0
 try clear c12b1
 try clear c14
 try clear c15
 try clear c15b0
 try clear c15b1
 try clear c22
 try clear c23
 try clear c24
 try clear c31
 try clear c32
 try clear c33
 try clear c33b0
 try clear c33b1
 try clear c35
 try clear hcz10_0 hcz10_1 hcz10_2
 try clear hcz13_0 hcz13_1 hcz13_2
 try clear hcz16_0 hcz16_1 hcz16_2
 try clear hcz19_0 hcz19_1 hcz19_2
 try clear hcz21_0 hcz21_1 hcz21_2
 try clear hcz28_0 hcz28_1 hcz28_2
 try clear hcz36_0 hcz36_1 hcz36_2
 try clear hcz38_0 hcz38_1 hcz38_2
 try clear hcz40_0 hcz40_1 hcz40_2
 try clear hcz42_0 hcz42_1 hcz42_2
 try clear hcz44_0 hcz44_1 hcz44_2
 try clear hcz45_0 hcz45_1 hcz45_2
 try clear hcz47_0 hcz47_1 hcz47_2
 try clear hcz49_0 hcz49_1 hcz49_2
 try clear hfz10_0 hfz10_1 hfz10_2
 try clear hfz13_0 hfz13_1 hfz13_2
 try clear hfz16_0 hfz16_1 hfz16_2
 try clear hfz19_0 hfz19_1 hfz19_2
 try clear hfz21_0 hfz21_1 hfz21_2
 try clear hfz28_0 hfz28_1 hfz28_2
 try clear hfz36_0 hfz36_1 hfz36_2
 try clear hfz38_0 hfz38_1 hfz38_2
 try clear hfz40_0 hfz40_1 hfz40_2
 try clear hfz42_0 hfz42_1 hfz42_2
 try clear hfz44_0 hfz44_1 hfz44_2
 try clear hfz45_0 hfz45_1 hfz45_2
 try clear hfz47_0 hfz47_1 hfz47_2
 try clear hfz49_0 hfz49_1 hfz49_2
 try clear p2
 obtain ⟨kq, x72_26, rfl, HA, HJ26, BK388, HB⟩ := hcut
 cases kq with
 | zero => exact absurd HA.out (by simp [boarderlaw13_ConfOne.j1])
 | succ kj26 => ?_
 have H := HA.out
 clear HA
 simp only [boarderlaw13_ConfOne.j1] at H
 by_cases c51 : x72_26 = true
 · subst c51
   have H1 : (none) = some r := by rw [if_pos rfl] at H; exact H
   clear H
   have H := H1
   clear H1
   exact absurd H (by simp)
 replace c51 := Bool.eq_false_iff.mpr c51
 subst c51
 have H1 : ((conf_KeptFor.f kj26 a0_0 a0_1 l0_2 a1 a4).bind fun bt397 => (if bt397.2 = true then ((conf_Find.f kj26 a0_0 a0_1 l0_2 bt397.1).bind fun bt399 => ((conf_Keeper.f kj26 a0_0 a0_1 l0_2 bt397.1).bind fun bt402 => (if bt399.2.2 = true then (if bt399.1 = a1 then (if bt402.2 = true then (if bt402.1.toList = a4.toList then (boarderlaw13_ConfOne.j2 kj26 a3 t394 (bt397.1 == a0_0) a0_0 a0_1 l0_2) else (boarderlaw13_ConfOne.j2 kj26 a3 t394 true a0_0 a0_1 l0_2)) else (boarderlaw13_ConfOne.j2 kj26 a3 t394 true a0_0 a0_1 l0_2)) else (boarderlaw13_ConfOne.j2 kj26 a3 t394 true a0_0 a0_1 l0_2)) else (boarderlaw13_ConfOne.j2 kj26 a3 t394 true a0_0 a0_1 l0_2)))) else ((conf_Keeper.f kj26 a0_0 a0_1 l0_2 a3).bind fun bt408 => (if bt408.2 = true then (if t394 = true then ((boarderlaw13_knows.f kj26).bind fun t410 => (some t410)) else (none)) else ((boarderlaw13_knows.f kj26).bind fun t411 => (some t411)))))) = some r := by rw [if_neg (show ¬ (false = true) by decide)] at H; exact H
 clear H
 have H := H1
 clear H1
 replace H := Option.bind_eq_some_iff.mp H
 obtain ⟨⟨t397, t398⟩, A520, H⟩ := H
 replace H : (if t398 = true then ((conf_Find.f kj26 a0_0 a0_1 l0_2 t397).bind fun bt399 => ((conf_Keeper.f kj26 a0_0 a0_1 l0_2 t397).bind fun bt402 => (if bt399.2.2 = true then (if bt399.1 = a1 then (if bt402.2 = true then (if bt402.1.toList = a4.toList then (boarderlaw13_ConfOne.j2 kj26 a3 t394 (t397 == a0_0) a0_0 a0_1 l0_2) else (boarderlaw13_ConfOne.j2 kj26 a3 t394 true a0_0 a0_1 l0_2)) else (boarderlaw13_ConfOne.j2 kj26 a3 t394 true a0_0 a0_1 l0_2)) else (boarderlaw13_ConfOne.j2 kj26 a3 t394 true a0_0 a0_1 l0_2)) else (boarderlaw13_ConfOne.j2 kj26 a3 t394 true a0_0 a0_1 l0_2)))) else ((conf_Keeper.f kj26 a0_0 a0_1 l0_2 a3).bind fun bt408 => (if bt408.2 = true then (if t394 = true then ((boarderlaw13_knows.f kj26).bind fun t410 => (some t410)) else (none)) else ((boarderlaw13_knows.f kj26).bind fun t411 => (some t411))))) = some r := H
 have A52 := Aside0.mk A520
 clear A520
 by_cases c53 : t398 = true
 rotate_left
 · replace c53 := Bool.eq_false_iff.mpr c53
   subst c53
   have H1 : ((conf_Keeper.f kj26 a0_0 a0_1 l0_2 a3).bind fun bt408 => (if bt408.2 = true then (if t394 = true then ((boarderlaw13_knows.f kj26).bind fun t410 => (some t410)) else (none)) else ((boarderlaw13_knows.f kj26).bind fun t411 => (some t411)))) = some r := by rw [if_neg (show ¬ (false = true) by decide)] at H; exact H
   clear H
   have H := H1
   clear H1
   replace H := Option.bind_eq_some_iff.mp H
   obtain ⟨⟨t408, t409⟩, A800, H⟩ := H
   replace H : (if t409 = true then (if t394 = true then ((boarderlaw13_knows.f kj26).bind fun t410 => (some t410)) else (none)) else ((boarderlaw13_knows.f kj26).bind fun t411 => (some t411))) = some r := H
   have A80 := Aside0.mk A800
   clear A800
   by_cases c81 : t409 = true
   rotate_left
   · replace c81 := Bool.eq_false_iff.mpr c81
     subst c81
     have H1 : ((boarderlaw13_knows.f kj26).bind fun t411 => (some t411)) = some r := by rw [if_neg (show ¬ (false = true) by decide)] at H; exact H
     clear H
     have H := H1
     clear H1
     replace H := Option.bind_eq_some_iff.mp H
     obtain ⟨t411, A890, H⟩ := H
     replace H : (some t411) = some r := H
     have A89 := Aside0.mk A890
     clear A890
     obtain rfl := Option.some.inj H
     obtain ⟨hcz90_0, hcz90_1, hcz90_2, hfz90_0, hfz90_1, hfz90_2⟩ := sqF3 BK388.out
     go_wp2_with (first | ((with_reducible refine gate_callee (f := 18) rfl ?_); refine goesL_ (some 77) rfl rfl Try.func18 (by kernel_rfl) rfl #[.agg #[.int .i64 a0_0, .int .i64 a0_1, .slice A0_2 l0_2.length c0_2], .int .i64 a1, .string a4] rfl sqA ?_; (with_reducible refine (conf_KeptFor.calls _ _ _ _ _ _ _ _ _ _ _ ?side1 ?side2 A52.out).mono ?_); (case side1 => repeat (first | exact (Kd.C_below HR0_2.out HB.out) | (with_reducible refine Kd.C_alloc ?_ _) | (with_reducible refine Kd.C_drewN ?_ _) | (with_reducible refine Kd.C_drew ?_))); (case side2 => exact HC0_2.out); rintro e w91 ⟨rfl, hb⟩; refine ⟨_, rfl, ?_⟩; replace BK388 := sqM (blk_below (sqK BK388.out) hb); replace HB := sqM (below_step (sqB1 HB.out GE388.out) hb); (try clear hb); (try clear hb2); (try clear hk); (try clear hi); obtain ⟨hcz92_0, hcz92_1, hcz92_2, hfz92_0, hfz92_1, hfz92_2⟩ := sqF3 BK388.out) | ((with_reducible refine gate_callee (f := 20) rfl ?_); refine goesL_ (some 119) rfl rfl Try.func20 (by kernel_rfl) rfl #[.agg #[.int .i64 a0_0, .int .i64 a0_1, .slice A0_2 l0_2.length c0_2], .int .i64 a3] rfl sqA ?_; (with_reducible refine (conf_Keeper.calls _ _ _ _ _ _ _ _ _ _ ?side1 ?side2 A80.out).mono ?_); (case side1 => repeat (first | exact (Kd.C_below HR0_2.out HB.out) | (with_reducible refine Kd.C_alloc ?_ _) | (with_reducible refine Kd.C_drewN ?_ _) | (with_reducible refine Kd.C_drew ?_))); (case side2 => exact HC0_2.out); rintro e w93 ⟨rfl, hb⟩; refine ⟨_, rfl, ?_⟩; replace BK388 := sqM (blk_below (sqK BK388.out) hb); replace HB := sqM (below_step (sqB1 HB.out GE388.out) hb); (try clear hb); (try clear hb2); (try clear hk); (try clear hi)) | (go_at_call 15; (with_reducible refine (boarderlaw13_knows.calls kj26  t411 _ A89.out).mono ?_); rintro e w94 ⟨rfl, hb⟩; replace BK388 := sqM (blk_below (sqK BK388.out) hb); replace HB := sqM (below_step (sqB1 HB.out GE388.out) hb); (try clear hb); (try clear hb2); (try clear hk); (try clear hi)))
     go_ret
     exact ⟨sqE, sqB1 HB.out GE388.out⟩
   subst c81
   have H1 : (if t394 = true then ((boarderlaw13_knows.f kj26).bind fun t410 => (some t410)) else (none)) = some r := by rw [if_pos rfl] at H; exact H
   clear H
   have H := H1
   clear H1
   by_cases c82 : t394 = true
   rotate_left
   · replace c82 := Bool.eq_false_iff.mpr c82
     subst c82
     have H1 : (none) = some r := by rw [if_neg (show ¬ (false = true) by decide)] at H; exact H
     clear H
     have H := H1
     clear H1
     exact absurd H (by simp)
   subst c82
   have H1 : ((boarderlaw13_knows.f kj26).bind fun t410 => (some t410)) = some r := by rw [if_pos rfl] at H; exact H
   clear H
   have H := H1
   clear H1
   replace H := Option.bind_eq_some_iff.mp H
   obtain ⟨t410, A830, H⟩ := H
   replace H : (some t410) = some r := H
   have A83 := Aside0.mk A830
   clear A830
   obtain rfl := Option.some.inj H
   obtain ⟨hcz84_0, hcz84_1, hcz84_2, hfz84_0, hfz84_1, hfz84_2⟩ := sqF3 BK388.out
   go_wp2_with (first | ((with_reducible refine gate_callee (f := 18) rfl ?_); refine goesL_ (some 77) rfl rfl Try.func18 (by kernel_rfl) rfl #[.agg #[.int .i64 a0_0, .int .i64 a0_1, .slice A0_2 l0_2.length c0_2], .int .i64 a1, .string a4] rfl sqA ?_; (with_reducible refine (conf_KeptFor.calls _ _ _ _ _ _ _ _ _ _ _ ?side1 ?side2 A52.out).mono ?_); (case side1 => repeat (first | exact (Kd.C_below HR0_2.out HB.out) | (with_reducible refine Kd.C_alloc ?_ _) | (with_reducible refine Kd.C_drewN ?_ _) | (with_reducible refine Kd.C_drew ?_))); (case side2 => exact HC0_2.out); rintro e w85 ⟨rfl, hb⟩; refine ⟨_, rfl, ?_⟩; replace BK388 := sqM (blk_below (sqK BK388.out) hb); replace HB := sqM (below_step (sqB1 HB.out GE388.out) hb); (try clear hb); (try clear hb2); (try clear hk); (try clear hi); obtain ⟨hcz86_0, hcz86_1, hcz86_2, hfz86_0, hfz86_1, hfz86_2⟩ := sqF3 BK388.out) | ((with_reducible refine gate_callee (f := 20) rfl ?_); refine goesL_ (some 119) rfl rfl Try.func20 (by kernel_rfl) rfl #[.agg #[.int .i64 a0_0, .int .i64 a0_1, .slice A0_2 l0_2.length c0_2], .int .i64 a3] rfl sqA ?_; (with_reducible refine (conf_Keeper.calls _ _ _ _ _ _ _ _ _ _ ?side1 ?side2 A80.out).mono ?_); (case side1 => repeat (first | exact (Kd.C_below HR0_2.out HB.out) | (with_reducible refine Kd.C_alloc ?_ _) | (with_reducible refine Kd.C_drewN ?_ _) | (with_reducible refine Kd.C_drew ?_))); (case side2 => exact HC0_2.out); rintro e w87 ⟨rfl, hb⟩; refine ⟨_, rfl, ?_⟩; replace BK388 := sqM (blk_below (sqK BK388.out) hb); replace HB := sqM (below_step (sqB1 HB.out GE388.out) hb); (try clear hb); (try clear hb2); (try clear hk); (try clear hi)) | (go_at_call 15; (with_reducible refine (boarderlaw13_knows.calls kj26  t410 _ A83.out).mono ?_); rintro e w88 ⟨rfl, hb⟩; replace BK388 := sqM (blk_below (sqK BK388.out) hb); replace HB := sqM (below_step (sqB1 HB.out GE388.out) hb); (try clear hb); (try clear hb2); (try clear hk); (try clear hi)))
   go_ret
   exact ⟨sqE, sqB1 HB.out GE388.out⟩
 subst c53
 have H1 : ((conf_Find.f kj26 a0_0 a0_1 l0_2 t397).bind fun bt399 => ((conf_Keeper.f kj26 a0_0 a0_1 l0_2 t397).bind fun bt402 => (if bt399.2.2 = true then (if bt399.1 = a1 then (if bt402.2 = true then (if bt402.1.toList = a4.toList then (boarderlaw13_ConfOne.j2 kj26 a3 t394 (t397 == a0_0) a0_0 a0_1 l0_2) else (boarderlaw13_ConfOne.j2 kj26 a3 t394 true a0_0 a0_1 l0_2)) else (boarderlaw13_ConfOne.j2 kj26 a3 t394 true a0_0 a0_1 l0_2)) else (boarderlaw13_ConfOne.j2 kj26 a3 t394 true a0_0 a0_1 l0_2)) else (boarderlaw13_ConfOne.j2 kj26 a3 t394 true a0_0 a0_1 l0_2)))) = some r := by rw [if_pos rfl] at H; exact H
 clear H
 have H := H1
 clear H1
 replace H := Option.bind_eq_some_iff.mp H
 obtain ⟨⟨t399, t400, t401⟩, A540, H⟩ := H
 replace H : ((conf_Keeper.f kj26 a0_0 a0_1 l0_2 t397).bind fun bt402 => (if t401 = true then (if t399 = a1 then (if bt402.2 = true then (if bt402.1.toList = a4.toList then (boarderlaw13_ConfOne.j2 kj26 a3 t394 (t397 == a0_0) a0_0 a0_1 l0_2) else (boarderlaw13_ConfOne.j2 kj26 a3 t394 true a0_0 a0_1 l0_2)) else (boarderlaw13_ConfOne.j2 kj26 a3 t394 true a0_0 a0_1 l0_2)) else (boarderlaw13_ConfOne.j2 kj26 a3 t394 true a0_0 a0_1 l0_2)) else (boarderlaw13_ConfOne.j2 kj26 a3 t394 true a0_0 a0_1 l0_2))) = some r := H
 have A54 := Aside0.mk A540
 clear A540
 replace H := Option.bind_eq_some_iff.mp H
 obtain ⟨⟨t402, t403⟩, A550, H⟩ := H
 replace H : (if t401 = true then (if t399 = a1 then (if t403 = true then (if t402.toList = a4.toList then (boarderlaw13_ConfOne.j2 kj26 a3 t394 (t397 == a0_0) a0_0 a0_1 l0_2) else (boarderlaw13_ConfOne.j2 kj26 a3 t394 true a0_0 a0_1 l0_2)) else (boarderlaw13_ConfOne.j2 kj26 a3 t394 true a0_0 a0_1 l0_2)) else (boarderlaw13_ConfOne.j2 kj26 a3 t394 true a0_0 a0_1 l0_2)) else (boarderlaw13_ConfOne.j2 kj26 a3 t394 true a0_0 a0_1 l0_2)) = some r := H
 have A55 := Aside0.mk A550
 clear A550
 have HC56 := Aside0.mk H
 clear H
 obtain ⟨hcz57_0, hcz57_1, hcz57_2, hfz57_0, hfz57_1, hfz57_2⟩ := sqF3 BK388.out
 go_upto_region 10 with (first | ((with_reducible refine gate_callee (f := 18) rfl ?_); refine goesL_ (some 77) rfl rfl Try.func18 (by kernel_rfl) rfl #[.agg #[.int .i64 a0_0, .int .i64 a0_1, .slice A0_2 l0_2.length c0_2], .int .i64 a1, .string a4] rfl sqA ?_; (with_reducible refine (conf_KeptFor.calls _ _ _ _ _ _ _ _ _ _ _ ?side1 ?side2 A52.out).mono ?_); (case side1 => repeat (first | exact (Kd.C_below HR0_2.out HB.out) | (with_reducible refine Kd.C_alloc ?_ _) | (with_reducible refine Kd.C_drewN ?_ _) | (with_reducible refine Kd.C_drew ?_))); (case side2 => exact HC0_2.out); rintro e w58 ⟨rfl, hb⟩; refine ⟨_, rfl, ?_⟩; replace BK388 := sqM (blk_below (sqK BK388.out) hb); replace HB := sqM (below_step (sqB1 HB.out GE388.out) hb); (try clear hb); (try clear hb2); (try clear hk); (try clear hi); obtain ⟨hcz59_0, hcz59_1, hcz59_2, hfz59_0, hfz59_1, hfz59_2⟩ := sqF3 BK388.out) | ((with_reducible refine gate_callee (f := 24) rfl ?_); refine goesL_ (some 84) rfl rfl Try.func24 (by kernel_rfl) rfl #[.agg #[.int .i64 a0_0, .int .i64 a0_1, .slice A0_2 l0_2.length c0_2], .int .i64 t397] rfl sqA ?_; (with_reducible refine (conf_Find.calls _ _ _ _ _ _ _ _ _ _ _ ?side1 ?side2 A54.out).mono ?_); (case side1 => repeat (first | exact (Kd.C_below HR0_2.out HB.out) | (with_reducible refine Kd.C_alloc ?_ _) | (with_reducible refine Kd.C_drewN ?_ _) | (with_reducible refine Kd.C_drew ?_))); (case side2 => exact HC0_2.out); rintro e w60 ⟨rfl, hb⟩; refine ⟨_, rfl, ?_⟩; replace BK388 := sqM (blk_below (sqK BK388.out) hb); replace HB := sqM (below_step (sqB1 HB.out GE388.out) hb); (try clear hb); (try clear hb2); (try clear hk); (try clear hi); obtain ⟨hcz61_0, hcz61_1, hcz61_2, hfz61_0, hfz61_1, hfz61_2⟩ := sqF3 BK388.out) | ((with_reducible refine gate_callee (f := 20) rfl ?_); refine goesL_ (some 91) rfl rfl Try.func20 (by kernel_rfl) rfl #[.agg #[.int .i64 a0_0, .int .i64 a0_1, .slice A0_2 l0_2.length c0_2], .int .i64 t397] rfl sqA ?_; (with_reducible refine (conf_Keeper.calls _ _ _ _ _ _ _ _ _ _ ?side1 ?side2 A55.out).mono ?_); (case side1 => repeat (first | exact (Kd.C_below HR0_2.out HB.out) | (with_reducible refine Kd.C_alloc ?_ _) | (with_reducible refine Kd.C_drewN ?_ _) | (with_reducible refine Kd.C_drew ?_))); (case side2 => exact HC0_2.out); rintro e w62 ⟨rfl, hb⟩; refine ⟨_, rfl, ?_⟩; replace BK388 := sqM (blk_below (sqK BK388.out) hb); replace HB := sqM (below_step (sqB1 HB.out GE388.out) hb); (try clear hb); (try clear hb2); (try clear hk); (try clear hi)))
 (try simp only [Act.put, List.setIfInBounds_toArray, List.set_cons_zero, List.set_cons_succ])
 go_cut [115] (fun v115 wc => ∃ (kq : Nat) (x115_55 : Bool), v115 = .bool x115_55 ∧ Aside0 (boarderlaw13_ConfOne.j2 kq a3 t394 x115_55 a0_0 a0_1 l0_2 = some r) ∧ Aside0 (kq ≤ kj26) ∧ Aside0 (wc.heap[gb388]? = some (.cells #[.int .i64 a0_0, .int .i64 a0_1, (.slice A0_2 l0_2.length c0_2)] 24 (0, 0))) ∧ Aside0 (Below w.heap.size w wc))
 case first =>
  have H := HC56.out
  clear HC56
  by_cases c63 : t401 = true
  rotate_left
  · replace c63 := Bool.eq_false_iff.mpr c63
    subst c63
    have H1 : (boarderlaw13_ConfOne.j2 kj26 a3 t394 true a0_0 a0_1 l0_2) = some r := by rw [if_neg (show ¬ (false = true) by decide)] at H; exact H
    clear H
    have H := H1
    clear H1
    have H' := Aside0.mk H
    clear H
    go_wp2
    go_meet
    case rel => exact ⟨_, (true), sqI, H', ⟨by have := HJ5.out; have := HJ26.out; first | omega | exact Nat.le_refl _⟩, ⟨sqK BK388.out⟩, ⟨sqB1 HB.out GE388.out⟩⟩
  subst c63
  have H1 : (if t399 = a1 then (if t403 = true then (if t402.toList = a4.toList then (boarderlaw13_ConfOne.j2 kj26 a3 t394 (t397 == a0_0) a0_0 a0_1 l0_2) else (boarderlaw13_ConfOne.j2 kj26 a3 t394 true a0_0 a0_1 l0_2)) else (boarderlaw13_ConfOne.j2 kj26 a3 t394 true a0_0 a0_1 l0_2)) else (boarderlaw13_ConfOne.j2 kj26 a3 t394 true a0_0 a0_1 l0_2)) = some r := by rw [if_pos rfl] at H; exact H
  clear H
  have H := H1
  clear H1
  by_cases c64 : t399 = a1
  rotate_left
  · rw [if_neg c64] at H
    have c64b0 : (t399 == a1) = false := beq_eq_false_iff_ne.mpr c64
    have c64b1 : (t399 != a1) = true := bne_iff_ne.mpr c64
    (first | rw [c64b0] | (simp only [i64_w, i32_w]; rw [c64b0]) | skip)
    have H' := Aside0.mk H
    clear H
    go_wp2
    go_meet
    case rel => exact ⟨_, (true), sqI, H', ⟨by have := HJ5.out; have := HJ26.out; first | omega | exact Nat.le_refl _⟩, ⟨sqK BK388.out⟩, ⟨sqB1 HB.out GE388.out⟩⟩
  rw [if_pos c64] at H
  have c64b0 : (t399 == a1) = true := beq_iff_eq.mpr c64
  have c64b1 : (t399 != a1) = false := bne_eq_false_iff_eq.mpr c64
  clear c64
  (first | rw [c64b0] | (simp only [i64_w, i32_w]; rw [c64b0]) | skip)
  by_cases c65 : t403 = true
  rotate_left
  · replace c65 := Bool.eq_false_iff.mpr c65
    subst c65
    have H1 : (boarderlaw13_ConfOne.j2 kj26 a3 t394 true a0_0 a0_1 l0_2) = some r := by rw [if_neg (show ¬ (false = true) by decide)] at H; exact H
    clear H
    have H := H1
    clear H1
    have H' := Aside0.mk H
    clear H
    go_wp2
    go_meet
    case rel => exact ⟨_, (true), sqI, H', ⟨by have := HJ5.out; have := HJ26.out; first | omega | exact Nat.le_refl _⟩, ⟨sqK BK388.out⟩, ⟨sqB1 HB.out GE388.out⟩⟩
  subst c65
  have H1 : (if t402.toList = a4.toList then (boarderlaw13_ConfOne.j2 kj26 a3 t394 (t397 == a0_0) a0_0 a0_1 l0_2) else (boarderlaw13_ConfOne.j2 kj26 a3 t394 true a0_0 a0_1 l0_2)) = some r := by rw [if_pos rfl] at H; exact H
  clear H
  have H := H1
  clear H1
  by_cases c66 : t402.toList = a4.toList
  rotate_left
  · rw [if_neg c66] at H
    have c66b0 : (t402.toList == a4.toList) = false := beq_eq_false_iff_ne.mpr c66
    have c66b1 : (t402.toList != a4.toList) = true := bne_iff_ne.mpr c66
    have H' := Aside0.mk H
    clear H
    go_wp2
    go_meet
    case rel => exact ⟨_, (true), sqI, H', ⟨by have := HJ5.out; have := HJ26.out; first | omega | exact Nat.le_refl _⟩, ⟨sqK BK388.out⟩, ⟨sqB1 HB.out GE388.out⟩⟩
  rw [if_pos c66] at H
  have c66b0 : (t402.toList == a4.toList) = true := beq_iff_eq.mpr c66
  have c66b1 : (t402.toList != a4.toList) = false := bne_eq_false_iff_eq.mpr c66
  clear c66
  have H' := Aside0.mk H
  clear H
  obtain ⟨hcz67_0, hcz67_1, hcz67_2, hfz67_0, hfz67_1, hfz67_2⟩ := sqF3 BK388.out
  go_wp2
  go_meet
  case rel => exact ⟨_, ((t397 == a0_0)), sqI, H', ⟨by have := HJ5.out; have := HJ26.out; first | omega | exact Nat.le_refl _⟩, ⟨sqK BK388.out⟩, ⟨sqB1 HB.out GE388.out⟩⟩
 clear HC56
 try clear c1
 try clear c2
 try clear p2
 try clear c3
 try clear c5
 try clear c6
 try clear c9
 try clear c12
 try clear c12b0
 try clear c12b1
 try clear c14
 try clear c15
 try clear c15b0
 try clear c15b1
 try clear c18
 try clear c20
 try clear c22
 try clear c23
 try clear c24
 try clear c31
 try clear c32
 try clear c33
 try clear c33b0
 try clear c33b1
 try clear c35
 try clear c51
 try clear c53
 try clear c63
 try clear c64
 try clear c64b0
 try clear c64b1
 try clear c65
 try clear c66
 try clear c66b0
 try clear c66b1
 try clear hcz10_0 hcz10_1 hcz10_2
 try clear hcz13_0 hcz13_1 hcz13_2
 try clear hcz16_0 hcz16_1 hcz16_2
 try clear hcz19_0 hcz19_1 hcz19_2
 try clear hcz21_0 hcz21_1 hcz21_2
 try clear hcz28_0 hcz28_1 hcz28_2
 try clear hcz36_0 hcz36_1 hcz36_2
 try clear hcz38_0 hcz38_1 hcz38_2
 try clear hcz40_0 hcz40_1 hcz40_2
 try clear hcz42_0 hcz42_1 hcz42_2
 try clear hcz44_0 hcz44_1 hcz44_2
 try clear hcz45_0 hcz45_1 hcz45_2
 try clear hcz47_0 hcz47_1 hcz47_2
 try clear hcz49_0 hcz49_1 hcz49_2
 try clear hcz57_0 hcz57_1 hcz57_2
 try clear hcz59_0 hcz59_1 hcz59_2
 try clear hcz61_0 hcz61_1 hcz61_2
 try clear hcz67_0 hcz67_1 hcz67_2
 try clear hfz10_0 hfz10_1 hfz10_2
 try clear hfz13_0 hfz13_1 hfz13_2
 try clear hfz16_0 hfz16_1 hfz16_2
 try clear hfz19_0 hfz19_1 hfz19_2
 try clear hfz21_0 hfz21_1 hfz21_2
 try clear hfz28_0 hfz28_1 hfz28_2
 try clear hfz36_0 hfz36_1 hfz36_2
 try clear hfz38_0 hfz38_1 hfz38_2
 try clear hfz40_0 hfz40_1 hfz40_2
 try clear hfz42_0 hfz42_1 hfz42_2
 try clear hfz44_0 hfz44_1 hfz44_2
 try clear hfz45_0 hfz45_1 hfz45_2
 try clear hfz47_0 hfz47_1 hfz47_2
 try clear hfz49_0 hfz49_1 hfz49_2
 try clear hfz57_0 hfz57_1 hfz57_2
 try clear hfz59_0 hfz59_1 hfz59_2
 try clear hfz61_0 hfz61_1 hfz61_2
 try clear hfz67_0 hfz67_1 hfz67_2
 try clear p2
 obtain ⟨kq, x115_55, rfl, HA, HJ55, BK388, HB⟩ := hcut
 cases kq with
 | zero => exact absurd HA.out (by simp [boarderlaw13_ConfOne.j2])
 | succ kj55 => ?_
 have H := HA.out
 clear HA
 simp only [boarderlaw13_ConfOne.j2] at H
 by_cases c68 : x115_55 = true
 · subst c68
   have H1 : (none) = some r := by rw [if_pos rfl] at H; exact H
   clear H
   have H := H1
   clear H1
   exact absurd H (by simp)
 replace c68 := Bool.eq_false_iff.mpr c68
 subst c68
 have H1 : ((conf_Keeper.f kj55 a0_0 a0_1 l0_2 a3).bind fun bt404 => (if bt404.2 = true then (if t394 = true then ((boarderlaw13_knows.f kj55).bind fun t406 => (some t406)) else (none)) else ((boarderlaw13_knows.f kj55).bind fun t407 => (some t407)))) = some r := by rw [if_neg (show ¬ (false = true) by decide)] at H; exact H
 clear H
 have H := H1
 clear H1
 replace H := Option.bind_eq_some_iff.mp H
 obtain ⟨⟨t404, t405⟩, A690, H⟩ := H
 replace H : (if t405 = true then (if t394 = true then ((boarderlaw13_knows.f kj55).bind fun t406 => (some t406)) else (none)) else ((boarderlaw13_knows.f kj55).bind fun t407 => (some t407))) = some r := H
 have A69 := Aside0.mk A690
 clear A690
 by_cases c70 : t405 = true
 rotate_left
 · replace c70 := Bool.eq_false_iff.mpr c70
   subst c70
   have H1 : ((boarderlaw13_knows.f kj55).bind fun t407 => (some t407)) = some r := by rw [if_neg (show ¬ (false = true) by decide)] at H; exact H
   clear H
   have H := H1
   clear H1
   replace H := Option.bind_eq_some_iff.mp H
   obtain ⟨t407, A760, H⟩ := H
   replace H : (some t407) = some r := H
   have A76 := Aside0.mk A760
   clear A760
   obtain rfl := Option.some.inj H
   obtain ⟨hcz77_0, hcz77_1, hcz77_2, hfz77_0, hfz77_1, hfz77_2⟩ := sqF3 BK388.out
   go_wp2_with (first | ((with_reducible refine gate_callee (f := 20) rfl ?_); refine goesL_ (some 119) rfl rfl Try.func20 (by kernel_rfl) rfl #[.agg #[.int .i64 a0_0, .int .i64 a0_1, .slice A0_2 l0_2.length c0_2], .int .i64 a3] rfl sqA ?_; (with_reducible refine (conf_Keeper.calls _ _ _ _ _ _ _ _ _ _ ?side1 ?side2 A69.out).mono ?_); (case side1 => repeat (first | exact (Kd.C_below HR0_2.out HB.out) | (with_reducible refine Kd.C_alloc ?_ _) | (with_reducible refine Kd.C_drewN ?_ _) | (with_reducible refine Kd.C_drew ?_))); (case side2 => exact HC0_2.out); rintro e w78 ⟨rfl, hb⟩; refine ⟨_, rfl, ?_⟩; replace BK388 := sqM (blk_below (sqK BK388.out) hb); replace HB := sqM (below_step (sqB1 HB.out GE388.out) hb); (try clear hb); (try clear hb2); (try clear hk); (try clear hi)) | (go_at_call 15; (with_reducible refine (boarderlaw13_knows.calls kj55  t407 _ A76.out).mono ?_); rintro e w79 ⟨rfl, hb⟩; replace BK388 := sqM (blk_below (sqK BK388.out) hb); replace HB := sqM (below_step (sqB1 HB.out GE388.out) hb); (try clear hb); (try clear hb2); (try clear hk); (try clear hi)))
   go_ret
   exact ⟨sqE, sqB1 HB.out GE388.out⟩
 subst c70
 have H1 : (if t394 = true then ((boarderlaw13_knows.f kj55).bind fun t406 => (some t406)) else (none)) = some r := by rw [if_pos rfl] at H; exact H
 clear H
 have H := H1
 clear H1
 by_cases c71 : t394 = true
 rotate_left
 · replace c71 := Bool.eq_false_iff.mpr c71
   subst c71
   have H1 : (none) = some r := by rw [if_neg (show ¬ (false = true) by decide)] at H; exact H
   clear H
   have H := H1
   clear H1
   exact absurd H (by simp)
 subst c71
 have H1 : ((boarderlaw13_knows.f kj55).bind fun t406 => (some t406)) = some r := by rw [if_pos rfl] at H; exact H
 clear H
 have H := H1
 clear H1
 replace H := Option.bind_eq_some_iff.mp H
 obtain ⟨t406, A720, H⟩ := H
 replace H : (some t406) = some r := H
 have A72 := Aside0.mk A720
 clear A720
 obtain rfl := Option.some.inj H
 obtain ⟨hcz73_0, hcz73_1, hcz73_2, hfz73_0, hfz73_1, hfz73_2⟩ := sqF3 BK388.out
 go_wp2_with (first | ((with_reducible refine gate_callee (f := 20) rfl ?_); refine goesL_ (some 119) rfl rfl Try.func20 (by kernel_rfl) rfl #[.agg #[.int .i64 a0_0, .int .i64 a0_1, .slice A0_2 l0_2.length c0_2], .int .i64 a3] rfl sqA ?_; (with_reducible refine (conf_Keeper.calls _ _ _ _ _ _ _ _ _ _ ?side1 ?side2 A69.out).mono ?_); (case side1 => repeat (first | exact (Kd.C_below HR0_2.out HB.out) | (with_reducible refine Kd.C_alloc ?_ _) | (with_reducible refine Kd.C_drewN ?_ _) | (with_reducible refine Kd.C_drew ?_))); (case side2 => exact HC0_2.out); rintro e w74 ⟨rfl, hb⟩; refine ⟨_, rfl, ?_⟩; replace BK388 := sqM (blk_below (sqK BK388.out) hb); replace HB := sqM (below_step (sqB1 HB.out GE388.out) hb); (try clear hb); (try clear hb2); (try clear hk); (try clear hi)) | (go_at_call 15; (with_reducible refine (boarderlaw13_knows.calls kj55  t406 _ A72.out).mono ?_); rintro e w75 ⟨rfl, hb⟩; replace BK388 := sqM (blk_below (sqK BK388.out) hb); replace HB := sqM (below_step (sqB1 HB.out GE388.out) hb); (try clear hb); (try clear hb2); (try clear hk); (try clear hi)))
 go_ret
 exact ⟨sqE, sqB1 HB.out GE388.out⟩

end Go.Proofs.Ytdcabfonjmeajaa.PConf
