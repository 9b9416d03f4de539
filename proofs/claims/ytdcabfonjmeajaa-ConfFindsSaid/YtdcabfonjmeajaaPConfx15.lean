/- Lean functions for Go functions of the given program, and proofs that the code computes them, each under its theorem's own conditions. Written by a program of this session. -/
import Derived.Test.YtdcabfonjmeajaaPConfx0
import Derived.Test.YtdcabfonjmeajaaPConfx1
import Derived.Test.YtdcabfonjmeajaaPConfx6
import Derived.Test.YtdcabfonjmeajaaPConfx7
import Derived.Test.YtdcabfonjmeajaaPConfx9
import Derived.Test.YtdcabfonjmeajaaPConfx13
namespace Go.Proofs.Ytdcabfonjmeajaa.PConf
open Go.RowKit Go.Proofs.YtdcabfonjmeajaaW.PrintWords Go.Proofs.YtdcabfonjmeajaaW.PrintLast Go.Proofs.YtdcabfonjmeajaaW.PrintMore
attribute [local go_sem] max2_int min2_int max_two min_two max_three min_three max_four min_four   -- for this text's walks alone
set_option linter.unusedVariables false
set_option linter.unusedSimpArgs false

/-! ### boarderref13_Find: function 25 -/
mutual
def boarderref13_Find.l0 : Nat → Int → Int → Int → Int → List (S41) → Option (Int × Int × Bool)
  | 0, _, _, _, _, _ => none
  | k + 1, x1, x7, x423000, x423001, x423002 => if x7 < (x423002.length : Int) then (boarderref13_Find.l1 k x1 x7 0 x423000 x423001 x423002) else (some (0, 0, false))
def boarderref13_Find.l1 : Nat → Int → Int → Int → Int → Int → List (S41) → Option (Int × Int × Bool)
  | 0, _, _, _, _, _, _ => none
  | k + 1, x1, x7, x8, x423000, x423001, x423002 => if 0 ≤ x7 then (if x7 < (x423002.length : Int) then (if x8 < (((rd_T41 x423002 x7).f0).length : Int) then (if 0 ≤ x8 then ((boarderref01_Has.f k ((rd_T57 ((rd_T41 x423002 x7).f0) x8).f0) ((rd_T57 ((rd_T41 x423002 x7).f0) x8).f1) x1).bind fun t429 => (if t429 = true then (some (x7, x8, true)) else (boarderref13_Find.l1 k x1 x7 (wrap64 (x8 + 1)) x423000 x423001 x423002))) else (none)) else (boarderref13_Find.l0 k x1 (wrap64 (x7 + 1)) x423000 x423001 x423002)) else (none)) else (none)
end
def boarderref13_Find.f (k : Nat) (a0_0 : Int) (a0_1 : Int) (l0_2 : List (S41)) (a1 : Int) : Option (Int × Int × Bool) := (boarderref13_Check.f k a0_0 a0_1 l0_2).bind fun t423 => (if t423 = 0 then (boarderref13_Find.l0 k a1 0 a0_0 a0_1 l0_2) else (some (0, 0, false)))
set_option maxHeartbeats 8000000 in
set_option maxRecDepth 100000 in
theorem boarderref13_Find.calls (k : Nat) (a0_0 : Int) (a0_1 : Int) (A0_2 : Option Addr) (c0_2 : Nat) (l0_2 : List (S41)) (a1 : Int) (r1 : Int) (r2 : Int) (r3 : Bool) (w : World) (hr0_2 : Kd.C k41 w A0_2 l0_2.length l0_2) (hc0_2 : l0_2.length ≤ c0_2) (h : boarderref13_Find.f k a0_0 a0_1 l0_2 a1 = some (r1, r2, r3)) :
    Calls Try.prog 25 #[.agg #[.int .i64 a0_0, .int .i64 a0_1, .slice A0_2 l0_2.length c0_2], .int .i64 a1] w fun e w' => e = .returned (.tuple #[.int .i64 r1, .int .i64 r2, .bool r3]) ∧ Below w.heap.size w w' := by
 have hu24 := Try.underlying24
 have HR0_2 := Aside0.mk hr0_2
 have HC0_2 := Aside0.mk hc0_2
 clear hr0_2 hc0_2
 have HB := Aside0.mk (Below.refl w.heap.size w)
 have H : ((boarderref13_Check.f k a0_0 a0_1 l0_2).bind fun t423 => (if t423 = 0 then (boarderref13_Find.l0 k a1 0 a0_0 a0_1 l0_2) else (some (0, 0, false)))) = some (r1, r2, r3) := h
 clear h
 replace H := Option.bind_eq_some_iff.mp H
 obtain ⟨t423, A30, H⟩ := H
 replace H : (if t423 = 0 then (boarderref13_Find.l0 k a1 0 a0_0 a0_1 l0_2) else (some (0, 0, false))) = some (r1, r2, r3) := H
 have A3 := Aside0.mk A30
 clear A30
 by_cases c4 : t423 = 0
 rotate_left
 · rw [if_neg c4] at H
   have c4b0 : (t423 == 0) = false := beq_eq_false_iff_ne.mpr c4
   have c4b1 : (t423 != 0) = true := bne_iff_ne.mpr c4
   simp only [Option.some.injEq, Prod.mk.injEq] at H
   obtain ⟨rfl, rfl, rfl⟩ := H
   go_enter Try.func25, Try.ntmps25
   go_wp2_with (first | ((with_reducible refine gate_dst (N := 2) rfl ?_); refine box_event rfl (N := 2) rfl (cs := #[.int .i64 a0_0, .int .i64 a0_1, .slice A0_2 l0_2.length c0_2]) (t := 24) sqs ?_; intro gb422 hg w20 hbox hb; have BK422 := sqM (hbox); have GW422 := sqM (sqZ hg (sqB HB.out)); have GE422 := sqM (sqZ hg (sqB HB.out)); replace HB := sqM (below_step (sqB HB.out) hb); clear hb hbox hg; obtain ⟨hcz21_0, hcz21_1, hcz21_2, hfz21_0, hfz21_1, hfz21_2⟩ := sqF3 BK422.out) | (go_at_call 17; (with_reducible refine (boarderref13_Check.calls _ _ _ _ _ _ _ _ ?side1 ?side2 A3.out).mono ?_); (case side1 => repeat (first | exact (Kd.C_below HR0_2.out HB.out) | (with_reducible refine Kd.C_alloc ?_ _) | (with_reducible refine Kd.C_drewN ?_ _) | (with_reducible refine Kd.C_drew ?_))); (case side2 => exact HC0_2.out); rintro e w22 ⟨rfl, hb⟩; replace BK422 := sqM (blk_below (sqK BK422.out) hb); replace HB := sqM (below_step (sqB1 HB.out GE422.out) hb); (try clear hb); (try clear hb2); (try clear hk); (try clear hi)))
   repeat (go_quiet (first | ((with_reducible refine gate_dst (N := 2) rfl ?_); refine box_event rfl (N := 2) rfl (cs := #[.int .i64 a0_0, .int .i64 a0_1, .slice A0_2 l0_2.length c0_2]) (t := 24) sqs ?_; intro gb422 hg w20 hbox hb; have BK422 := sqM (hbox); have GW422 := sqM (sqZ hg (sqB HB.out)); have GE422 := sqM (sqZ hg (sqB HB.out)); replace HB := sqM (below_step (sqB HB.out) hb); clear hb hbox hg; obtain ⟨hcz21_0, hcz21_1, hcz21_2, hfz21_0, hfz21_1, hfz21_2⟩ := sqF3 BK422.out) | (go_at_call 17; (with_reducible refine (boarderref13_Check.calls _ _ _ _ _ _ _ _ ?side1 ?side2 A3.out).mono ?_); (case side1 => repeat (first | exact (Kd.C_below HR0_2.out HB.out) | (with_reducible refine Kd.C_alloc ?_ _) | (with_reducible refine Kd.C_drewN ?_ _) | (with_reducible refine Kd.C_drew ?_))); (case side2 => exact HC0_2.out); rintro e w22 ⟨rfl, hb⟩; replace BK422 := sqM (blk_below (sqK BK422.out) hb); replace HB := sqM (below_step (sqB1 HB.out GE422.out) hb); (try clear hb); (try clear hb2); (try clear hk); (try clear hi))); try go_wp2_with (first | ((with_reducible refine gate_dst (N := 2) rfl ?_); refine box_event rfl (N := 2) rfl (cs := #[.int .i64 a0_0, .int .i64 a0_1, .slice A0_2 l0_2.length c0_2]) (t := 24) sqs ?_; intro gb422 hg w20 hbox hb; have BK422 := sqM (hbox); have GW422 := sqM (sqZ hg (sqB HB.out)); have GE422 := sqM (sqZ hg (sqB HB.out)); replace HB := sqM (below_step (sqB HB.out) hb); clear hb hbox hg; obtain ⟨hcz21_0, hcz21_1, hcz21_2, hfz21_0, hfz21_1, hfz21_2⟩ := sqF3 BK422.out) | (go_at_call 17; (with_reducible refine (boarderref13_Check.calls _ _ _ _ _ _ _ _ ?side1 ?side2 A3.out).mono ?_); (case side1 => repeat (first | exact (Kd.C_below HR0_2.out HB.out) | (with_reducible refine Kd.C_alloc ?_ _) | (with_reducible refine Kd.C_drewN ?_ _) | (with_reducible refine Kd.C_drew ?_))); (case side2 => exact HC0_2.out); rintro e w22 ⟨rfl, hb⟩; replace BK422 := sqM (blk_below (sqK BK422.out) hb); replace HB := sqM (below_step (sqB1 HB.out GE422.out) hb); (try clear hb); (try clear hb2); (try clear hk); (try clear hi))))
   go_ret3
   exact ⟨sqE, sqB1 HB.out GE422.out⟩
 rw [if_pos c4] at H
 have c4b0 : (t423 == 0) = true := beq_iff_eq.mpr c4
 have c4b1 : (t423 != 0) = false := bne_eq_false_iff_eq.mpr c4
 clear c4
 have H' := Aside0.mk H
 clear H
 go_enter Try.func25, Try.ntmps25
 go_wp2_with (first | ((with_reducible refine gate_dst (N := 2) rfl ?_); refine box_event rfl (N := 2) rfl (cs := #[.int .i64 a0_0, .int .i64 a0_1, .slice A0_2 l0_2.length c0_2]) (t := 24) sqs ?_; intro gb422 hg w5 hbox hb; have BK422 := sqM (hbox); have GW422 := sqM (sqZ hg (sqB HB.out)); have GE422 := sqM (sqZ hg (sqB HB.out)); replace HB := sqM (below_step (sqB HB.out) hb); clear hb hbox hg; obtain ⟨hcz6_0, hcz6_1, hcz6_2, hfz6_0, hfz6_1, hfz6_2⟩ := sqF3 BK422.out) | (go_at_call 17; (with_reducible refine (boarderref13_Check.calls _ _ _ _ _ _ _ _ ?side1 ?side2 A3.out).mono ?_); (case side1 => repeat (first | exact (Kd.C_below HR0_2.out HB.out) | (with_reducible refine Kd.C_alloc ?_ _) | (with_reducible refine Kd.C_drewN ?_ _) | (with_reducible refine Kd.C_drew ?_))); (case side2 => exact HC0_2.out); rintro e w7 ⟨rfl, hb⟩; replace BK422 := sqM (blk_below (sqK BK422.out) hb); replace HB := sqM (below_step (sqB1 HB.out GE422.out) hb); (try clear hb); (try clear hb2); (try clear hk); (try clear hi)))
 repeat (go_quiet (first | ((with_reducible refine gate_dst (N := 2) rfl ?_); refine box_event rfl (N := 2) rfl (cs := #[.int .i64 a0_0, .int .i64 a0_1, .slice A0_2 l0_2.length c0_2]) (t := 24) sqs ?_; intro gb422 hg w5 hbox hb; have BK422 := sqM (hbox); have GW422 := sqM (sqZ hg (sqB HB.out)); have GE422 := sqM (sqZ hg (sqB HB.out)); replace HB := sqM (below_step (sqB HB.out) hb); clear hb hbox hg; obtain ⟨hcz6_0, hcz6_1, hcz6_2, hfz6_0, hfz6_1, hfz6_2⟩ := sqF3 BK422.out) | (go_at_call 17; (with_reducible refine (boarderref13_Check.calls _ _ _ _ _ _ _ _ ?side1 ?side2 A3.out).mono ?_); (case side1 => repeat (first | exact (Kd.C_below HR0_2.out HB.out) | (with_reducible refine Kd.C_alloc ?_ _) | (with_reducible refine Kd.C_drewN ?_ _) | (with_reducible refine Kd.C_drew ?_))); (case side2 => exact HC0_2.out); rintro e w7 ⟨rfl, hb⟩; replace BK422 := sqM (blk_below (sqK BK422.out) hb); replace HB := sqM (below_step (sqB1 HB.out GE422.out) hb); (try clear hb); (try clear hb2); (try clear hk); (try clear hi))); try go_wp2_with (first | ((with_reducible refine gate_dst (N := 2) rfl ?_); refine box_event rfl (N := 2) rfl (cs := #[.int .i64 a0_0, .int .i64 a0_1, .slice A0_2 l0_2.length c0_2]) (t := 24) sqs ?_; intro gb422 hg w5 hbox hb; have BK422 := sqM (hbox); have GW422 := sqM (sqZ hg (sqB HB.out)); have GE422 := sqM (sqZ hg (sqB HB.out)); replace HB := sqM (below_step (sqB HB.out) hb); clear hb hbox hg; obtain ⟨hcz6_0, hcz6_1, hcz6_2, hfz6_0, hfz6_1, hfz6_2⟩ := sqF3 BK422.out) | (go_at_call 17; (with_reducible refine (boarderref13_Check.calls _ _ _ _ _ _ _ _ ?side1 ?side2 A3.out).mono ?_); (case side1 => repeat (first | exact (Kd.C_below HR0_2.out HB.out) | (with_reducible refine Kd.C_alloc ?_ _) | (with_reducible refine Kd.C_drewN ?_ _) | (with_reducible refine Kd.C_drew ?_))); (case side2 => exact HC0_2.out); rintro e w7 ⟨rfl, hb⟩; replace BK422 := sqM (blk_below (sqK BK422.out) hb); replace HB := sqM (below_step (sqB1 HB.out GE422.out) hb); (try clear hb); (try clear hb2); (try clear hk); (try clear hi))))
 go_loopg [7] k (fun kq v7 w' => ∃ (x7_1 : Int), v7 = .int .i64 x7_1 ∧ Aside0 (boarderref13_Find.l0 kq a1 x7_1 a0_0 a0_1 l0_2 = some (r1, r2, r3)) ∧ Aside0 (kq ≤ k) ∧ Aside0 (w'.heap[gb422]? = some (.cells #[.int .i64 a0_0, .int .i64 a0_1, (.slice A0_2 l0_2.length c0_2)] 24 (0, 0))) ∧ Aside0 (Below w.heap.size w w'))
 case atStart => exact ⟨(0), sqI, H', ⟨Nat.le_refl _⟩, ⟨sqK BK422.out⟩, ⟨sqB1 HB.out GE422.out⟩⟩
 clear H'
 try clear c2
 try clear p2
 try clear c4
 try clear c4b0
 try clear c4b1
 try clear hcz6_0 hcz6_1 hcz6_2 hfz6_0 hfz6_1 hfz6_2
 obtain ⟨x7_1, rfl, HA, HK1, BK422, HB⟩ := hrel
 cases gk with
 | zero => exact absurd HA.out (by simp [boarderref13_Find.l0])
 | succ k1 => ?_
 have H := HA.out
 clear HA
 simp only [boarderref13_Find.l0] at H
 by_cases c8 : x7_1 < (l0_2.length : Int)
 rotate_left
 · rw [if_neg c8] at H
   have c8b0 : decide (x7_1 < (l0_2.length : Int)) = false := decide_eq_false c8
   clear c8
   simp only [Option.some.injEq, Prod.mk.injEq] at H
   obtain ⟨rfl, rfl, rfl⟩ := H
   obtain ⟨hcz19_0, hcz19_1, hcz19_2, hfz19_0, hfz19_1, hfz19_2⟩ := sqF3 BK422.out
   go_wp2
   repeat (go_quiet (fail); try go_wp2)
   go_ret3
   exact ⟨sqE, sqB1 HB.out GE422.out⟩
 rw [if_pos c8] at H
 have c8b0 : decide (x7_1 < (l0_2.length : Int)) = true := decide_eq_true c8
 clear c8
 have H' := Aside0.mk H
 clear H
 obtain ⟨hcz9_0, hcz9_1, hcz9_2, hfz9_0, hfz9_1, hfz9_2⟩ := sqF3 BK422.out
 go_wp2
 repeat (go_quiet (fail); try go_wp2)
 go_loopg [8] k1 (fun kq v8 w' => ∃ (x8_2 : Int), v8 = .int .i64 x8_2 ∧ Aside0 (boarderref13_Find.l1 kq a1 x7_1 x8_2 a0_0 a0_1 l0_2 = some (r1, r2, r3)) ∧ Aside0 (kq ≤ k1) ∧ Aside0 (w'.heap[gb422]? = some (.cells #[.int .i64 a0_0, .int .i64 a0_1, (.slice A0_2 l0_2.length c0_2)] 24 (0, 0))) ∧ Aside0 (Below w.heap.size w w'))
 case atStart => exact ⟨(0), sqI, H', ⟨Nat.le_refl _⟩, ⟨sqK BK422.out⟩, ⟨sqB1 HB.out GE422.out⟩⟩
 clear H'
 try clear c2
 try clear p2
 try clear c4
 try clear c4b0
 try clear c4b1
 try clear c8
 try clear c8b0
 try clear hcz6_0 hcz6_1 hcz6_2
 try clear hcz9_0 hcz9_1 hcz9_2
 try clear hfz6_0 hfz6_1 hfz6_2
 try clear hfz9_0 hfz9_1 hfz9_2
 try clear p2
 obtain ⟨x8_2, rfl, HA, HK2, BK422, HB⟩ := hrel
 cases gk with
 | zero => exact absurd HA.out (by simp [boarderref13_Find.l1])
 | succ k2 => ?_
 have H := HA.out
 clear HA
 simp only [boarderref13_Find.l1] at H
 by_cases c10 : 0 ≤ x7_1
 rotate_left
 · rw [if_neg c10] at H
   exact absurd H (by simp)
 rw [if_pos c10] at H
 have c10b0 : decide (0 ≤ x7_1) = true := decide_eq_true c10
 clear c10
 by_cases c11 : x7_1 < (l0_2.length : Int)
 rotate_left
 · rw [if_neg c11] at H
   exact absurd H (by simp)
 rw [if_pos c11] at H
 have c11b0 : decide (x7_1 < (l0_2.length : Int)) = true := decide_eq_true c11
 clear c11
 by_cases c12 : x8_2 < (((rd_T41 l0_2 x7_1).f0).length : Int)
 rotate_left
 · rw [if_neg c12] at H
   have c12b0 : decide (x8_2 < (((rd_T41 l0_2 x7_1).f0).length : Int)) = false := decide_eq_false c12
   clear c12
   have H' := Aside0.mk H
   clear H
   obtain ⟨hcz18_0, hcz18_1, hcz18_2, hfz18_0, hfz18_1, hfz18_2⟩ := sqF3 BK422.out
   have p424 : 0 ≤ (x7_1 : Int) := of_decide_eq_true sqH
   have q424 : x7_1 < (l0_2.length : Int) := of_decide_eq_true sqH
   obtain ⟨ad424, A424_0, c424_0, e424, hx424_0, hl424_0, hi424_0⟩ := at_T41 HR0_2.out x7_1 p424 q424
   cases e424
   replace hx424_0 := sqx HB.out hx424_0
   have HR424_0 := Aside0.mk hi424_0
   have HC424_0 := Aside0.mk hl424_0
   clear hi424_0 hl424_0
   replace p424 := eq_true p424
   replace q424 := eq_true q424
   go_wp2
   repeat (go_quiet (fail); try go_wp2)
   go_roundg k2
   case measure => have := HK1.out; have := HK2.out; omega
   case rel => exact ⟨(wrap64 (x7_1 + 1)), sqI, H', ⟨by have := HK1.out; have := HK2.out; omega⟩, ⟨sqK BK422.out⟩, ⟨sqB1 HB.out GE422.out⟩⟩
 rw [if_pos c12] at H
 have c12b0 : decide (x8_2 < (((rd_T41 l0_2 x7_1).f0).length : Int)) = true := decide_eq_true c12
 clear c12
 by_cases c13 : 0 ≤ x8_2
 rotate_left
 · rw [if_neg c13] at H
   exact absurd H (by simp)
 rw [if_pos c13] at H
 have c13b0 : decide (0 ≤ x8_2) = true := decide_eq_true c13
 clear c13
 replace H := Option.bind_eq_some_iff.mp H
 obtain ⟨t429, A140, H⟩ := H
 replace H : (if t429 = true then (some (x7_1, x8_2, true)) else (boarderref13_Find.l1 k2 a1 x7_1 (wrap64 (x8_2 + 1)) a0_0 a0_1 l0_2)) = some (r1, r2, r3) := H
 have A14 := Aside0.mk A140
 clear A140
 by_cases c15 : t429 = true
 · subst c15
   have H1 : (some (x7_1, x8_2, true)) = some (r1, r2, r3) := by rw [if_pos rfl] at H; exact H
   clear H
   have H := H1
   clear H1
   simp only [Option.some.injEq, Prod.mk.injEq] at H
   obtain ⟨rfl, rfl, rfl⟩ := H
   obtain ⟨hcz16_0, hcz16_1, hcz16_2, hfz16_0, hfz16_1, hfz16_2⟩ := sqF3 BK422.out
   have p424 : 0 ≤ (x7_1 : Int) := of_decide_eq_true sqH
   have q424 : x7_1 < (l0_2.length : Int) := of_decide_eq_true sqH
   obtain ⟨ad424, A424_0, c424_0, e424, hx424_0, hl424_0, hi424_0⟩ := at_T41 HR0_2.out x7_1 p424 q424
   cases e424
   replace hx424_0 := sqx HB.out hx424_0
   have HR424_0 := Aside0.mk hi424_0
   have HC424_0 := Aside0.mk hl424_0
   clear hi424_0 hl424_0
   replace p424 := eq_true p424
   replace q424 := eq_true q424
   have p425 : 0 ≤ (x7_1 : Int) := of_decide_eq_true sqH
   have q425 : x7_1 < (l0_2.length : Int) := of_decide_eq_true sqH
   obtain ⟨ad425, A425_0, c425_0, e425, hx425_0, hl425_0, hi425_0⟩ := at_T41 HR0_2.out x7_1 p425 q425
   obtain rfl : ad424 = ad425 := (by injection e425)
   replace hx425_0 := sqx HB.out hx425_0
   have HR425_0 := Aside0.mk hi425_0
   have HC425_0 := Aside0.mk hl425_0
   clear hi425_0 hl425_0
   replace p425 := eq_true p425
   replace q425 := eq_true q425
   have ea_ := Option.some.inj (hx424_0.symm.trans hx425_0)
   injection ea_ with ea_ en_ ec_
   subst ea_
   subst ec_
   clear en_
   have p426 : 0 ≤ (x8_2 : Int) := of_decide_eq_true sqH
   have q426 : x8_2 < (((rd_T41 l0_2 x7_1).f0).length : Int) := of_decide_eq_true sqH
   obtain ⟨ad426, A426_2, c426_2, A426_3, c426_3, e426, hx426_0, hx426_1, hx426_2, hx426_3, hx426_4, hx426_5, hx426_6, hl426_2, hi426_2, hl426_3, hi426_3⟩ := at_T57 HR425_0.out x8_2 p426 q426
   cases e426
   replace hx426_0 := sqx HB.out hx426_0
   replace hx426_1 := sqx HB.out hx426_1
   replace hx426_2 := sqx HB.out hx426_2
   replace hx426_3 := sqx HB.out hx426_3
   replace hx426_4 := sqx HB.out hx426_4
   replace hx426_5 := sqx HB.out hx426_5
   replace hx426_6 := sqx HB.out hx426_6
   have HR426_2 := Aside0.mk hi426_2
   have HC426_2 := Aside0.mk hl426_2
   clear hi426_2 hl426_2
   have HR426_3 := Aside0.mk hi426_3
   have HC426_3 := Aside0.mk hl426_3
   clear hi426_3 hl426_3
   replace p426 := eq_true p426
   replace q426 := eq_true q426
   have p427 : 0 ≤ (x7_1 : Int) := of_decide_eq_true sqH
   have q427 : x7_1 < (l0_2.length : Int) := of_decide_eq_true sqH
   obtain ⟨ad427, A427_0, c427_0, e427, hx427_0, hl427_0, hi427_0⟩ := at_T41 HR0_2.out x7_1 p427 q427
   obtain rfl : ad424 = ad427 := (by injection e427)
   replace hx427_0 := sqx HB.out hx427_0
   have HR427_0 := Aside0.mk hi427_0
   have HC427_0 := Aside0.mk hl427_0
   clear hi427_0 hl427_0
   replace p427 := eq_true p427
   replace q427 := eq_true q427
   have ea_ := Option.some.inj (hx424_0.symm.trans hx427_0)
   injection ea_ with ea_ en_ ec_
   subst ea_
   subst ec_
   clear en_
   have p428 : 0 ≤ (x8_2 : Int) := of_decide_eq_true sqH
   have q428 : x8_2 < (((rd_T41 l0_2 x7_1).f0).length : Int) := of_decide_eq_true sqH
   obtain ⟨ad428, A428_2, c428_2, A428_3, c428_3, e428, hx428_0, hx428_1, hx428_2, hx428_3, hx428_4, hx428_5, hx428_6, hl428_2, hi428_2, hl428_3, hi428_3⟩ := at_T57 HR427_0.out x8_2 p428 q428
   cases e428
   replace hx428_0 := sqx HB.out hx428_0
   replace hx428_1 := sqx HB.out hx428_1
   replace hx428_2 := sqx HB.out hx428_2
   replace hx428_3 := sqx HB.out hx428_3
   replace hx428_4 := sqx HB.out hx428_4
   replace hx428_5 := sqx HB.out hx428_5
   replace hx428_6 := sqx HB.out hx428_6
   have HR428_2 := Aside0.mk hi428_2
   have HC428_2 := Aside0.mk hl428_2
   clear hi428_2 hl428_2
   have HR428_3 := Aside0.mk hi428_3
   have HC428_3 := Aside0.mk hl428_3
   clear hi428_3 hl428_3
   replace p428 := eq_true p428
   replace q428 := eq_true q428
   go_wp2_with (first | (go_at_call 50; (with_reducible refine (boarderref01_Has.calls _ _ _ _ _ _ A14.out).mono ?_); rintro e w' ⟨rfl, ⟨nd, rfl⟩⟩; (try first | exact ⟨rfl, _, World.drewN_drewN _ _ _⟩ | exact ⟨rfl, _, Eq.trans (World.drewN_drewN _ _ _) (congrArg (World.drewN _) (Nat.add_assoc _ _ _))⟩)))
   repeat (go_quiet (first | (go_at_call 50; (with_reducible refine (boarderref01_Has.calls _ _ _ _ _ _ A14.out).mono ?_); rintro e w' ⟨rfl, ⟨nd, rfl⟩⟩; (try first | exact ⟨rfl, _, World.drewN_drewN _ _ _⟩ | exact ⟨rfl, _, Eq.trans (World.drewN_drewN _ _ _) (congrArg (World.drewN _) (Nat.add_assoc _ _ _))⟩))); try go_wp2_with (first | (go_at_call 50; (with_reducible refine (boarderref01_Has.calls _ _ _ _ _ _ A14.out).mono ?_); rintro e w' ⟨rfl, ⟨nd, rfl⟩⟩; (try first | exact ⟨rfl, _, World.drewN_drewN _ _ _⟩ | exact ⟨rfl, _, Eq.trans (World.drewN_drewN _ _ _) (congrArg (World.drewN _) (Nat.add_assoc _ _ _))⟩))))
   go_ret3
   exact ⟨sqE, sqB1 HB.out GE422.out⟩
 replace c15 := Bool.eq_false_iff.mpr c15
 subst c15
 have H1 : (boarderref13_Find.l1 k2 a1 x7_1 (wrap64 (x8_2 + 1)) a0_0 a0_1 l0_2) = some (r1, r2, r3) := by rw [if_neg (show ¬ (false = true) by decide)] at H; exact H
 clear H
 have H := H1
 clear H1
 have H' := Aside0.mk H
 clear H
 obtain ⟨hcz17_0, hcz17_1, hcz17_2, hfz17_0, hfz17_1, hfz17_2⟩ := sqF3 BK422.out
 have p424 : 0 ≤ (x7_1 : Int) := of_decide_eq_true sqH
 have q424 : x7_1 < (l0_2.length : Int) := of_decide_eq_true sqH
 obtain ⟨ad424, A424_0, c424_0, e424, hx424_0, hl424_0, hi424_0⟩ := at_T41 HR0_2.out x7_1 p424 q424
 cases e424
 replace hx424_0 := sqx HB.out hx424_0
 have HR424_0 := Aside0.mk hi424_0
 have HC424_0 := Aside0.mk hl424_0
 clear hi424_0 hl424_0
 replace p424 := eq_true p424
 replace q424 := eq_true q424
 have p425 : 0 ≤ (x7_1 : Int) := of_decide_eq_true sqH
 have q425 : x7_1 < (l0_2.length : Int) := of_decide_eq_true sqH
 obtain ⟨ad425, A425_0, c425_0, e425, hx425_0, hl425_0, hi425_0⟩ := at_T41 HR0_2.out x7_1 p425 q425
 obtain rfl : ad424 = ad425 := (by injection e425)
 replace hx425_0 := sqx HB.out hx425_0
 have HR425_0 := Aside0.mk hi425_0
 have HC425_0 := Aside0.mk hl425_0
 clear hi425_0 hl425_0
 replace p425 := eq_true p425
 replace q425 := eq_true q425
 have ea_ := Option.some.inj (hx424_0.symm.trans hx425_0)
 injection ea_ with ea_ en_ ec_
 subst ea_
 subst ec_
 clear en_
 have p426 : 0 ≤ (x8_2 : Int) := of_decide_eq_true sqH
 have q426 : x8_2 < (((rd_T41 l0_2 x7_1).f0).length : Int) := of_decide_eq_true sqH
 obtain ⟨ad426, A426_2, c426_2, A426_3, c426_3, e426, hx426_0, hx426_1, hx426_2, hx426_3, hx426_4, hx426_5, hx426_6, hl426_2, hi426_2, hl426_3, hi426_3⟩ := at_T57 HR425_0.out x8_2 p426 q426
 cases e426
 replace hx426_0 := sqx HB.out hx426_0
 replace hx426_1 := sqx HB.out hx426_1
 replace hx426_2 := sqx HB.out hx426_2
 replace hx426_3 := sqx HB.out hx426_3
 replace hx426_4 := sqx HB.out hx426_4
 replace hx426_5 := sqx HB.out hx426_5
 replace hx426_6 := sqx HB.out hx426_6
 have HR426_2 := Aside0.mk hi426_2
 have HC426_2 := Aside0.mk hl426_2
 clear hi426_2 hl426_2
 have HR426_3 := Aside0.mk hi426_3
 have HC426_3 := Aside0.mk hl426_3
 clear hi426_3 hl426_3
 replace p426 := eq_true p426
 replace q426 := eq_true q426
 have p427 : 0 ≤ (x7_1 : Int) := of_decide_eq_true sqH
 have q427 : x7_1 < (l0_2.length : Int) := of_decide_eq_true sqH
 obtain ⟨ad427, A427_0, c427_0, e427, hx427_0, hl427_0, hi427_0⟩ := at_T41 HR0_2.out x7_1 p427 q427
 obtain rfl : ad424 = ad427 := (by injection e427)
 replace hx427_0 := sqx HB.out hx427_0
 have HR427_0 := Aside0.mk hi427_0
 have HC427_0 := Aside0.mk hl427_0
 clear hi427_0 hl427_0
 replace p427 := eq_true p427
 replace q427 := eq_true q427
 have ea_ := Option.some.inj (hx424_0.symm.trans hx427_0)
 injection ea_ with ea_ en_ ec_
 subst ea_
 subst ec_
 clear en_
 have p428 : 0 ≤ (x8_2 : Int) := of_decide_eq_true sqH
 have q428 : x8_2 < (((rd_T41 l0_2 x7_1).f0).length : Int) := of_decide_eq_true sqH
 obtain ⟨ad428, A428_2, c428_2, A428_3, c428_3, e428, hx428_0, hx428_1, hx428_2, hx428_3, hx428_4, hx428_5, hx428_6, hl428_2, hi428_2, hl428_3, hi428_3⟩ := at_T57 HR427_0.out x8_2 p428 q428
 cases e428
 replace hx428_0 := sqx HB.out hx428_0
 replace hx428_1 := sqx HB.out hx428_1
 replace hx428_2 := sqx HB.out hx428_2
 replace hx428_3 := sqx HB.out hx428_3
 replace hx428_4 := sqx HB.out hx428_4
 replace hx428_5 := sqx HB.out hx428_5
 replace hx428_6 := sqx HB.out hx428_6
 have HR428_2 := Aside0.mk hi428_2
 have HC428_2 := Aside0.mk hl428_2
 clear hi428_2 hl428_2
 have HR428_3 := Aside0.mk hi428_3
 have HC428_3 := Aside0.mk hl428_3
 clear hi428_3 hl428_3
 replace p428 := eq_true p428
 replace q428 := eq_true q428
 go_wp2_with (first | (go_at_call 50; (with_reducible refine (boarderref01_Has.calls _ _ _ _ _ _ A14.out).mono ?_); rintro e w' ⟨rfl, ⟨nd, rfl⟩⟩; (try first | exact ⟨rfl, _, World.drewN_drewN _ _ _⟩ | exact ⟨rfl, _, Eq.trans (World.drewN_drewN _ _ _) (congrArg (World.drewN _) (Nat.add_assoc _ _ _))⟩)))
 repeat (go_quiet (first | (go_at_call 50; (with_reducible refine (boarderref01_Has.calls _ _ _ _ _ _ A14.out).mono ?_); rintro e w' ⟨rfl, ⟨nd, rfl⟩⟩; (try first | exact ⟨rfl, _, World.drewN_drewN _ _ _⟩ | exact ⟨rfl, _, Eq.trans (World.drewN_drewN _ _ _) (congrArg (World.drewN _) (Nat.add_assoc _ _ _))⟩))); try go_wp2_with (first | (go_at_call 50; (with_reducible refine (boarderref01_Has.calls _ _ _ _ _ _ A14.out).mono ?_); rintro e w' ⟨rfl, ⟨nd, rfl⟩⟩; (try first | exact ⟨rfl, _, World.drewN_drewN _ _ _⟩ | exact ⟨rfl, _, Eq.trans (World.drewN_drewN _ _ _) (congrArg (World.drewN _) (Nat.add_assoc _ _ _))⟩))))
 go_roundg k2
 case measure => have := HK1.out; have := HK2.out; omega
 case rel => exact ⟨(wrap64 (x8_2 + 1)), sqI, H', ⟨by have := HK1.out; have := HK2.out; omega⟩, ⟨sqK BK422.out⟩, ⟨sqB1 HB.out GE422.out⟩⟩

/-! ### conf_OnWire: function 26 -/
def conf_OnWire.l0 : Nat → Int → List (S66) → Int → Int → Option (Int × Int × Bool)
  | 0, _, _, _, _ => none
  | k + 1, x1, x10, x11, x12 => if x12 < x11 then (if 0 ≤ x12 then (if x12 < (x10.length : Int) then (if ((rd_T66 x10 x12).f2.f4) = x1 then (if x1 > 0 then (some ((rd_T66 x10 x12).f0, (rd_T66 x10 x12).f1, true)) else (conf_OnWire.l0 k x1 x10 x11 (wrap64 (x12 + 1)))) else (conf_OnWire.l0 k x1 x10 x11 (wrap64 (x12 + 1)))) else (none)) else (none)) else (some (0, 0, false))
def conf_OnWire.f (k : Nat) (a0_0 : Int) (a0_1 : Int) (l0_2 : List (S41)) (a1 : Int) : Option (Int × Int × Bool) := (conf_right.f k a0_0 a0_1 l0_2).bind fun t431 => (conf_OnWire.l0 k a1 t431 (t431.length : Int) 0)
set_option maxHeartbeats 8000000 in
set_option maxRecDepth 100000 in
theorem conf_OnWire.calls (k : Nat) (a0_0 : Int) (a0_1 : Int) (A0_2 : Option Addr) (c0_2 : Nat) (l0_2 : List (S41)) (a1 : Int) (r1 : Int) (r2 : Int) (r3 : Bool) (w : World) (hr0_2 : Kd.C k41 w A0_2 l0_2.length l0_2) (hc0_2 : l0_2.length ≤ c0_2) (h : conf_OnWire.f k a0_0 a0_1 l0_2 a1 = some (r1, r2, r3)) :
    Calls Try.prog 26 #[.agg #[.int .i64 a0_0, .int .i64 a0_1, .slice A0_2 l0_2.length c0_2], .int .i64 a1] w fun e w' => e = .returned (.tuple #[.int .i64 r1, .int .i64 r2, .bool r3]) ∧ Below w.heap.size w w' := by
 have hu24 := Try.underlying24
 have hu66 := Try.underlying66
 have HR0_2 := Aside0.mk hr0_2
 have HC0_2 := Aside0.mk hc0_2
 clear hr0_2 hc0_2
 have HB := Aside0.mk (Below.refl w.heap.size w)
 have H : ((conf_right.f k a0_0 a0_1 l0_2).bind fun t431 => (conf_OnWire.l0 k a1 t431 (t431.length : Int) 0)) = some (r1, r2, r3) := h
 clear h
 replace H := Option.bind_eq_some_iff.mp H
 obtain ⟨t431, A30, H⟩ := H
 replace H : (conf_OnWire.l0 k a1 t431 (t431.length : Int) 0) = some (r1, r2, r3) := H
 have A3 := Aside0.mk A30
 clear A30
 have H' := Aside0.mk H
 clear H
 go_enter Try.func26, Try.ntmps26
 go_wp2_with (first | ((with_reducible refine gate_dst (N := 2) rfl ?_); refine box_event rfl (N := 2) rfl (cs := #[.int .i64 a0_0, .int .i64 a0_1, .slice A0_2 l0_2.length c0_2]) (t := 24) sqs ?_; intro gb430 hg w4 hbox hb; have BK430 := sqM (hbox); have GW430 := sqM (sqZ hg (sqB HB.out)); have GE430 := sqM (sqZ hg (sqB HB.out)); replace HB := sqM (below_step (sqB HB.out) hb); clear hb hbox hg; obtain ⟨hcz5_0, hcz5_1, hcz5_2, hfz5_0, hfz5_1, hfz5_2⟩ := sqF3 BK430.out) | (go_at_call 46; (with_reducible refine (conf_right.calls _ _ _ (fun k_ => k_ < w.heap.size) _ _ _ _ _ ?side1 A3.out).mono ?_); (case side1 => exact Kd.V_mk HC0_2.out (Kd.F_below (Kd.C_F k41_heap HR0_2.out) (sqB1 HB.out GE430.out))); rintro e w6 ⟨v432, rfl, ho0, hb⟩; have HO433 := sqM (Kd.N_lower (Kd.N_mono (ok' := fun k_ => k_ ≠ gb430) ho0 (fun k_ hk_ => Or.elim hk_ (fun hs_ => fun e_ => Nat.not_le.2 hs_ (by rw [e_]; exact GW430.out)) (fun hn_ => (Kd.freshB (g := gb430) (o := .cells #[.int .i64 a0_0, .int .i64 a0_1, .slice A0_2 l0_2.length c0_2] 24 (0, 0)) (sqK BK430.out) k_ hn_)))) (below_size (sqB1 HB.out GE430.out))); replace BK430 := sqM (blk_below (sqK BK430.out) hb); replace HB := sqM (below_step (sqB1 HB.out GE430.out) hb); (try clear hb); (try clear hb2); (try clear hk); (try clear hi); (try clear ho0); obtain ⟨Ao7, co7, eo7⟩ := Kd.N_slice HO433.out; subst eo7))
 repeat (go_quiet (first | ((with_reducible refine gate_dst (N := 2) rfl ?_); refine box_event rfl (N := 2) rfl (cs := #[.int .i64 a0_0, .int .i64 a0_1, .slice A0_2 l0_2.length c0_2]) (t := 24) sqs ?_; intro gb430 hg w4 hbox hb; have BK430 := sqM (hbox); have GW430 := sqM (sqZ hg (sqB HB.out)); have GE430 := sqM (sqZ hg (sqB HB.out)); replace HB := sqM (below_step (sqB HB.out) hb); clear hb hbox hg; obtain ⟨hcz5_0, hcz5_1, hcz5_2, hfz5_0, hfz5_1, hfz5_2⟩ := sqF3 BK430.out) | (go_at_call 46; (with_reducible refine (conf_right.calls _ _ _ (fun k_ => k_ < w.heap.size) _ _ _ _ _ ?side1 A3.out).mono ?_); (case side1 => exact Kd.V_mk HC0_2.out (Kd.F_below (Kd.C_F k41_heap HR0_2.out) (sqB1 HB.out GE430.out))); rintro e w6 ⟨v432, rfl, ho0, hb⟩; have HO433 := sqM (Kd.N_lower (Kd.N_mono (ok' := fun k_ => k_ ≠ gb430) ho0 (fun k_ hk_ => Or.elim hk_ (fun hs_ => fun e_ => Nat.not_le.2 hs_ (by rw [e_]; exact GW430.out)) (fun hn_ => (Kd.freshB (g := gb430) (o := .cells #[.int .i64 a0_0, .int .i64 a0_1, .slice A0_2 l0_2.length c0_2] 24 (0, 0)) (sqK BK430.out) k_ hn_)))) (below_size (sqB1 HB.out GE430.out))); replace BK430 := sqM (blk_below (sqK BK430.out) hb); replace HB := sqM (below_step (sqB1 HB.out GE430.out) hb); (try clear hb); (try clear hb2); (try clear hk); (try clear hi); (try clear ho0); obtain ⟨Ao7, co7, eo7⟩ := Kd.N_slice HO433.out; subst eo7)); try go_wp2_with (first | ((with_reducible refine gate_dst (N := 2) rfl ?_); refine box_event rfl (N := 2) rfl (cs := #[.int .i64 a0_0, .int .i64 a0_1, .slice A0_2 l0_2.length c0_2]) (t := 24) sqs ?_; intro gb430 hg w4 hbox hb; have BK430 := sqM (hbox); have GW430 := sqM (sqZ hg (sqB HB.out)); have GE430 := sqM (sqZ hg (sqB HB.out)); replace HB := sqM (below_step (sqB HB.out) hb); clear hb hbox hg; obtain ⟨hcz5_0, hcz5_1, hcz5_2, hfz5_0, hfz5_1, hfz5_2⟩ := sqF3 BK430.out) | (go_at_call 46; (with_reducible refine (conf_right.calls _ _ _ (fun k_ => k_ < w.heap.size) _ _ _ _ _ ?side1 A3.out).mono ?_); (case side1 => exact Kd.V_mk HC0_2.out (Kd.F_below (Kd.C_F k41_heap HR0_2.out) (sqB1 HB.out GE430.out))); rintro e w6 ⟨v432, rfl, ho0, hb⟩; have HO433 := sqM (Kd.N_lower (Kd.N_mono (ok' := fun k_ => k_ ≠ gb430) ho0 (fun k_ hk_ => Or.elim hk_ (fun hs_ => fun e_ => Nat.not_le.2 hs_ (by rw [e_]; exact GW430.out)) (fun hn_ => (Kd.freshB (g := gb430) (o := .cells #[.int .i64 a0_0, .int .i64 a0_1, .slice A0_2 l0_2.length c0_2] 24 (0, 0)) (sqK BK430.out) k_ hn_)))) (below_size (sqB1 HB.out GE430.out))); replace BK430 := sqM (blk_below (sqK BK430.out) hb); replace HB := sqM (below_step (sqB1 HB.out GE430.out) hb); (try clear hb); (try clear hb2); (try clear hk); (try clear hi); (try clear ho0); obtain ⟨Ao7, co7, eo7⟩ := Kd.N_slice HO433.out; subst eo7)))
 go_loopg [12] k (fun kq v12 w' => ∃ (x12_1 : Int), v12 = .int .i64 x12_1 ∧ Aside0 (conf_OnWire.l0 kq a1 t431 (t431.length : Int) x12_1 = some (r1, r2, r3)) ∧ Aside0 (kq ≤ k) ∧ Aside0 (Kd.N k66 66 w' w.heap.size (fun k_ => k_ ≠ gb430) (.slice Ao7 t431.length co7) t431) ∧ Aside0 (w'.heap[gb430]? = some (.cells #[.int .i64 a0_0, .int .i64 a0_1, (.slice A0_2 l0_2.length c0_2)] 24 (0, 0))) ∧ Aside0 (Below w.heap.size w w'))
 case atStart => exact ⟨(0), sqI, H', ⟨Nat.le_refl _⟩, ⟨sqN HO433.out⟩, ⟨sqK BK430.out⟩, ⟨sqB1 HB.out GE430.out⟩⟩
 clear H'
 try clear c2
 try clear p2
 try clear hcz5_0 hcz5_1 hcz5_2 hfz5_0 hfz5_1 hfz5_2
 obtain ⟨x12_1, rfl, HA, HK1, HO_10, BK430, HB⟩ := hrel
 cases gk with
 | zero => exact absurd HA.out (by simp [conf_OnWire.l0])
 | succ k1 => ?_
 have H := HA.out
 clear HA
 simp only [conf_OnWire.l0] at H
 by_cases c8 : x12_1 < (t431.length : Int)
 rotate_left
 · rw [if_neg c8] at H
   have c8b0 : decide (x12_1 < (t431.length : Int)) = false := decide_eq_false c8
   clear c8
   simp only [Option.some.injEq, Prod.mk.injEq] at H
   obtain ⟨rfl, rfl, rfl⟩ := H
   go_wp2
   repeat (go_quiet (fail); try go_wp2)
   go_ret3
   exact ⟨sqE, sqB1 HB.out GE430.out⟩
 rw [if_pos c8] at H
 have c8b0 : decide (x12_1 < (t431.length : Int)) = true := decide_eq_true c8
 clear c8
 by_cases c9 : 0 ≤ x12_1
 rotate_left
 · rw [if_neg c9] at H
   exact absurd H (by simp)
 rw [if_pos c9] at H
 have c9b0 : decide (0 ≤ x12_1) = true := decide_eq_true c9
 clear c9
 by_cases c10 : x12_1 < (t431.length : Int)
 rotate_left
 · rw [if_neg c10] at H
   exact absurd H (by simp)
 rw [if_pos c10] at H
 have c10b0 : decide (x12_1 < (t431.length : Int)) = true := decide_eq_true c10
 clear c10
 by_cases c11 : ((rd_T66 t431 x12_1).f2.f4) = a1
 rotate_left
 · rw [if_neg c11] at H
   have c11b0 : (((rd_T66 t431 x12_1).f2.f4) == a1) = false := beq_eq_false_iff_ne.mpr c11
   have c11b1 : (((rd_T66 t431 x12_1).f2.f4) != a1) = true := bne_iff_ne.mpr c11
   have H' := Aside0.mk H
   clear H
   have p434 : 0 ≤ (x12_1 : Int) := of_decide_eq_true sqH
   have q434 : x12_1 < (t431.length : Int) := of_decide_eq_true sqH
   obtain ⟨ad434, A434_4, c434_4, A434_5, c434_5, e434, hx434_0, hx434_1, hx434_2, hx434_3, hx434_4, hx434_5, hx434_6, hx434_7, hx434_8, hl434_4, hi434_4, hl434_5, hi434_5⟩ := at_T66 (Kd.N_reads' HO_10.out).2.2 x12_1 p434 q434
   cases e434
   obtain ⟨ce434, hce434, hMe434, hcc434⟩ := Kd.N_get HO_10.out z66 x12_1 p434 (by first | exact q434 | exact of_decide_eq_true sqH | (have e_ := (Kd.N_reads' HO_10.out).1; omega))
   obtain ⟨ua434_4, uc434_4, ua434_5, uc434_5, rfl, ul434_4, ge434_4, ul434_5, ge434_5⟩ := k66_openF hMe434
   have hv434_4 := hcc434 4 _ rfl
   rw [add_field _ _ 4 (by omega)] at hv434_4
   replace hv434_4 := Option.some.inj (hv434_4.symm.trans hx434_4)
   injection hv434_4 with hva_ hvn_ hvc_
   rw [hva_] at ge434_4
   rw [hvc_] at ul434_4
   have HL434_4 := sqM (show Kd.V k62 62 _ w.heap.size _ _ ((rd_T66 t431 x12_1).f2.f2) from Kd.V_mk ul434_4 ge434_4)
   clear hva_ hvn_ hvc_ ge434_4 ul434_4
   have hv434_5 := hcc434 5 _ rfl
   rw [add_field _ _ 5 (by omega)] at hv434_5
   replace hv434_5 := Option.some.inj (hv434_5.symm.trans hx434_5)
   injection hv434_5 with hva_ hvn_ hvc_
   rw [hva_] at ge434_5
   rw [hvc_] at ul434_5
   have HL434_5 := sqM (show Kd.V k59 59 _ w.heap.size _ _ ((rd_T66 t431 x12_1).f2.f3) from Kd.V_mk ul434_5 ge434_5)
   clear hva_ hvn_ hvc_ ge434_5 ul434_5
   clear hcc434 hce434
   have HR434_4 := Aside0.mk hi434_4
   have HC434_4 := Aside0.mk hl434_4
   clear hi434_4 hl434_4
   have HR434_5 := Aside0.mk hi434_5
   have HC434_5 := Aside0.mk hl434_5
   clear hi434_5 hl434_5
   replace p434 := eq_true p434
   replace q434 := eq_true q434
   go_wp2_with (first | ((with_reducible refine gate_dst (N := 8) rfl ?_); refine box_event rfl (N := 8) rfl (cs := #[.int .i64 0, .int .i64 0, .int .i64 0, .int .i64 0, .slice none 0 0, .slice none 0 0, .int .i64 0, .int .i64 0, .int .i64 0]) (t := 66) sqs ?_; intro gb435 hg w19 hbox hb; have BK435 := sqM (hbox); have GW435 := sqM (sqZ hg (sqB1 HB.out GE430.out)); have GE435 := sqM (sqZ hg (sqB1 HB.out GE430.out)); have NB430_435 := sqM (sqL hg (sqK BK430.out)); have NB435_430 := sqM (sqG hg (sqK BK430.out)); replace HO_10 := sqM (sqNe (sqN HO_10.out) hg hb); replace HL434_4 := sqM (sqVe (sqV HL434_4.out) hg hb); replace HL434_5 := sqM (sqVe (sqV HL434_5.out) hg hb); replace BK430 := sqM (blk_below (sqK BK430.out) hb); replace HR434_4 := sqM (Kd.C_below (sqC HR434_4.out) hb); replace HR434_5 := sqM (Kd.C_below (sqC HR434_5.out) hb); replace HB := sqM (below_step (sqB1 HB.out GE430.out) hb); clear hb hbox hg; have hnb20 := NB435_430.out; have hnc20 := NB430_435.out; obtain ⟨hcz21_0, hcz21_1, hcz21_2, hcz21_3, hcz21_4, hcz21_5, hcz21_6, hcz21_7, hcz21_8, hfz21_0, hfz21_1, hfz21_2, hfz21_3, hfz21_4, hfz21_5, hfz21_6, hfz21_7, hfz21_8⟩ := sqF9 BK435.out))
   repeat (go_quiet (first | ((with_reducible refine gate_dst (N := 8) rfl ?_); refine box_event rfl (N := 8) rfl (cs := #[.int .i64 0, .int .i64 0, .int .i64 0, .int .i64 0, .slice none 0 0, .slice none 0 0, .int .i64 0, .int .i64 0, .int .i64 0]) (t := 66) sqs ?_; intro gb435 hg w19 hbox hb; have BK435 := sqM (hbox); have GW435 := sqM (sqZ hg (sqB1 HB.out GE430.out)); have GE435 := sqM (sqZ hg (sqB1 HB.out GE430.out)); have NB430_435 := sqM (sqL hg (sqK BK430.out)); have NB435_430 := sqM (sqG hg (sqK BK430.out)); replace HO_10 := sqM (sqNe (sqN HO_10.out) hg hb); replace HL434_4 := sqM (sqVe (sqV HL434_4.out) hg hb); replace HL434_5 := sqM (sqVe (sqV HL434_5.out) hg hb); replace BK430 := sqM (blk_below (sqK BK430.out) hb); replace HR434_4 := sqM (Kd.C_below (sqC HR434_4.out) hb); replace HR434_5 := sqM (Kd.C_below (sqC HR434_5.out) hb); replace HB := sqM (below_step (sqB1 HB.out GE430.out) hb); clear hb hbox hg; have hnb20 := NB435_430.out; have hnc20 := NB430_435.out; obtain ⟨hcz21_0, hcz21_1, hcz21_2, hcz21_3, hcz21_4, hcz21_5, hcz21_6, hcz21_7, hcz21_8, hfz21_0, hfz21_1, hfz21_2, hfz21_3, hfz21_4, hfz21_5, hfz21_6, hfz21_7, hfz21_8⟩ := sqF9 BK435.out)); try go_wp2_with (first | ((with_reducible refine gate_dst (N := 8) rfl ?_); refine box_event rfl (N := 8) rfl (cs := #[.int .i64 0, .int .i64 0, .int .i64 0, .int .i64 0, .slice none 0 0, .slice none 0 0, .int .i64 0, .int .i64 0, .int .i64 0]) (t := 66) sqs ?_; intro gb435 hg w19 hbox hb; have BK435 := sqM (hbox); have GW435 := sqM (sqZ hg (sqB1 HB.out GE430.out)); have GE435 := sqM (sqZ hg (sqB1 HB.out GE430.out)); have NB430_435 := sqM (sqL hg (sqK BK430.out)); have NB435_430 := sqM (sqG hg (sqK BK430.out)); replace HO_10 := sqM (sqNe (sqN HO_10.out) hg hb); replace HL434_4 := sqM (sqVe (sqV HL434_4.out) hg hb); replace HL434_5 := sqM (sqVe (sqV HL434_5.out) hg hb); replace BK430 := sqM (blk_below (sqK BK430.out) hb); replace HR434_4 := sqM (Kd.C_below (sqC HR434_4.out) hb); replace HR434_5 := sqM (Kd.C_below (sqC HR434_5.out) hb); replace HB := sqM (below_step (sqB1 HB.out GE430.out) hb); clear hb hbox hg; have hnb20 := NB435_430.out; have hnc20 := NB430_435.out; obtain ⟨hcz21_0, hcz21_1, hcz21_2, hcz21_3, hcz21_4, hcz21_5, hcz21_6, hcz21_7, hcz21_8, hfz21_0, hfz21_1, hfz21_2, hfz21_3, hfz21_4, hfz21_5, hfz21_6, hfz21_7, hfz21_8⟩ := sqF9 BK435.out)))
   go_roundg k1
   case measure => have := HK1.out; omega
   case rel => exact ⟨(wrap64 (x12_1 + 1)), sqI, H', ⟨by have := HK1.out; omega⟩, ⟨by refine sqN ?_; exact Kd.N_mono (sqN9 (Kd.N_mono HO_10.out (fun k_ hk => (⟨hk, hk.2⟩ : _ ∧ k_ ≠ gb435))) (fun _ hk => hk.2)) (fun _ hk => hk.1.1)⟩, ⟨(sqK (sqX9 BK430.out NB430_435.out))⟩, ⟨sqB2 HB.out GE430.out GE435.out⟩⟩
 rw [if_pos c11] at H
 have c11b0 : (((rd_T66 t431 x12_1).f2.f4) == a1) = true := beq_iff_eq.mpr c11
 have c11b1 : (((rd_T66 t431 x12_1).f2.f4) != a1) = false := bne_eq_false_iff_eq.mpr c11
 clear c11
 by_cases c12 : a1 > 0
 · rw [if_pos c12] at H
   have c12b0 : decide (0 < a1) = true := decide_eq_true c12
   clear c12
   simp only [Option.some.injEq, Prod.mk.injEq] at H
   obtain ⟨rfl, rfl, rfl⟩ := H
   have p434 : 0 ≤ (x12_1 : Int) := of_decide_eq_true sqH
   have q434 : x12_1 < (t431.length : Int) := of_decide_eq_true sqH
   obtain ⟨ad434, A434_4, c434_4, A434_5, c434_5, e434, hx434_0, hx434_1, hx434_2, hx434_3, hx434_4, hx434_5, hx434_6, hx434_7, hx434_8, hl434_4, hi434_4, hl434_5, hi434_5⟩ := at_T66 (Kd.N_reads' HO_10.out).2.2 x12_1 p434 q434
   cases e434
   obtain ⟨ce434, hce434, hMe434, hcc434⟩ := Kd.N_get HO_10.out z66 x12_1 p434 (by first | exact q434 | exact of_decide_eq_true sqH | (have e_ := (Kd.N_reads' HO_10.out).1; omega))
   obtain ⟨ua434_4, uc434_4, ua434_5, uc434_5, rfl, ul434_4, ge434_4, ul434_5, ge434_5⟩ := k66_openF hMe434
   have hv434_4 := hcc434 4 _ rfl
   rw [add_field _ _ 4 (by omega)] at hv434_4
   replace hv434_4 := Option.some.inj (hv434_4.symm.trans hx434_4)
   injection hv434_4 with hva_ hvn_ hvc_
   rw [hva_] at ge434_4
   rw [hvc_] at ul434_4
   have HL434_4 := sqM (show Kd.V k62 62 _ w.heap.size _ _ ((rd_T66 t431 x12_1).f2.f2) from Kd.V_mk ul434_4 ge434_4)
   clear hva_ hvn_ hvc_ ge434_4 ul434_4
   have hv434_5 := hcc434 5 _ rfl
   rw [add_field _ _ 5 (by omega)] at hv434_5
   replace hv434_5 := Option.some.inj (hv434_5.symm.trans hx434_5)
   injection hv434_5 with hva_ hvn_ hvc_
   rw [hva_] at ge434_5
   rw [hvc_] at ul434_5
   have HL434_5 := sqM (show Kd.V k59 59 _ w.heap.size _ _ ((rd_T66 t431 x12_1).f2.f3) from Kd.V_mk ul434_5 ge434_5)
   clear hva_ hvn_ hvc_ ge434_5 ul434_5
   clear hcc434 hce434
   have HR434_4 := Aside0.mk hi434_4
   have HC434_4 := Aside0.mk hl434_4
   clear hi434_4 hl434_4
   have HR434_5 := Aside0.mk hi434_5
   have HC434_5 := Aside0.mk hl434_5
   clear hi434_5 hl434_5
   replace p434 := eq_true p434
   replace q434 := eq_true q434
   go_wp2_with (first | ((with_reducible refine gate_dst (N := 8) rfl ?_); refine box_event rfl (N := 8) rfl (cs := #[.int .i64 0, .int .i64 0, .int .i64 0, .int .i64 0, .slice none 0 0, .slice none 0 0, .int .i64 0, .int .i64 0, .int .i64 0]) (t := 66) sqs ?_; intro gb435 hg w13 hbox hb; have BK435 := sqM (hbox); have GW435 := sqM (sqZ hg (sqB1 HB.out GE430.out)); have GE435 := sqM (sqZ hg (sqB1 HB.out GE430.out)); have NB430_435 := sqM (sqL hg (sqK BK430.out)); have NB435_430 := sqM (sqG hg (sqK BK430.out)); replace HO_10 := sqM (sqNe (sqN HO_10.out) hg hb); replace HL434_4 := sqM (sqVe (sqV HL434_4.out) hg hb); replace HL434_5 := sqM (sqVe (sqV HL434_5.out) hg hb); replace BK430 := sqM (blk_below (sqK BK430.out) hb); replace HR434_4 := sqM (Kd.C_below (sqC HR434_4.out) hb); replace HR434_5 := sqM (Kd.C_below (sqC HR434_5.out) hb); replace HB := sqM (below_step (sqB1 HB.out GE430.out) hb); clear hb hbox hg; have hnb14 := NB435_430.out; have hnc14 := NB430_435.out; obtain ⟨hcz15_0, hcz15_1, hcz15_2, hcz15_3, hcz15_4, hcz15_5, hcz15_6, hcz15_7, hcz15_8, hfz15_0, hfz15_1, hfz15_2, hfz15_3, hfz15_4, hfz15_5, hfz15_6, hfz15_7, hfz15_8⟩ := sqF9 BK435.out))
   repeat (go_quiet (first | ((with_reducible refine gate_dst (N := 8) rfl ?_); refine box_event rfl (N := 8) rfl (cs := #[.int .i64 0, .int .i64 0, .int .i64 0, .int .i64 0, .slice none 0 0, .slice none 0 0, .int .i64 0, .int .i64 0, .int .i64 0]) (t := 66) sqs ?_; intro gb435 hg w13 hbox hb; have BK435 := sqM (hbox); have GW435 := sqM (sqZ hg (sqB1 HB.out GE430.out)); have GE435 := sqM (sqZ hg (sqB1 HB.out GE430.out)); have NB430_435 := sqM (sqL hg (sqK BK430.out)); have NB435_430 := sqM (sqG hg (sqK BK430.out)); replace HO_10 := sqM (sqNe (sqN HO_10.out) hg hb); replace HL434_4 := sqM (sqVe (sqV HL434_4.out) hg hb); replace HL434_5 := sqM (sqVe (sqV HL434_5.out) hg hb); replace BK430 := sqM (blk_below (sqK BK430.out) hb); replace HR434_4 := sqM (Kd.C_below (sqC HR434_4.out) hb); replace HR434_5 := sqM (Kd.C_below (sqC HR434_5.out) hb); replace HB := sqM (below_step (sqB1 HB.out GE430.out) hb); clear hb hbox hg; have hnb14 := NB435_430.out; have hnc14 := NB430_435.out; obtain ⟨hcz15_0, hcz15_1, hcz15_2, hcz15_3, hcz15_4, hcz15_5, hcz15_6, hcz15_7, hcz15_8, hfz15_0, hfz15_1, hfz15_2, hfz15_3, hfz15_4, hfz15_5, hfz15_6, hfz15_7, hfz15_8⟩ := sqF9 BK435.out)); try go_wp2_with (first | ((with_reducible refine gate_dst (N := 8) rfl ?_); refine box_event rfl (N := 8) rfl (cs := #[.int .i64 0, .int .i64 0, .int .i64 0, .int .i64 0, .slice none 0 0, .slice none 0 0, .int .i64 0, .int .i64 0, .int .i64 0]) (t := 66) sqs ?_; intro gb435 hg w13 hbox hb; have BK435 := sqM (hbox); have GW435 := sqM (sqZ hg (sqB1 HB.out GE430.out)); have GE435 := sqM (sqZ hg (sqB1 HB.out GE430.out)); have NB430_435 := sqM (sqL hg (sqK BK430.out)); have NB435_430 := sqM (sqG hg (sqK BK430.out)); replace HO_10 := sqM (sqNe (sqN HO_10.out) hg hb); replace HL434_4 := sqM (sqVe (sqV HL434_4.out) hg hb); replace HL434_5 := sqM (sqVe (sqV HL434_5.out) hg hb); replace BK430 := sqM (blk_below (sqK BK430.out) hb); replace HR434_4 := sqM (Kd.C_below (sqC HR434_4.out) hb); replace HR434_5 := sqM (Kd.C_below (sqC HR434_5.out) hb); replace HB := sqM (below_step (sqB1 HB.out GE430.out) hb); clear hb hbox hg; have hnb14 := NB435_430.out; have hnc14 := NB430_435.out; obtain ⟨hcz15_0, hcz15_1, hcz15_2, hcz15_3, hcz15_4, hcz15_5, hcz15_6, hcz15_7, hcz15_8, hfz15_0, hfz15_1, hfz15_2, hfz15_3, hfz15_4, hfz15_5, hfz15_6, hfz15_7, hfz15_8⟩ := sqF9 BK435.out)))
   go_ret3
   exact ⟨sqE, sqB2 HB.out GE430.out GE435.out⟩
 rw [if_neg c12] at H
 have c12b0 : decide (0 < a1) = false := decide_eq_false c12
 clear c12
 have H' := Aside0.mk H
 clear H
 have p434 : 0 ≤ (x12_1 : Int) := of_decide_eq_true sqH
 have q434 : x12_1 < (t431.length : Int) := of_decide_eq_true sqH
 obtain ⟨ad434, A434_4, c434_4, A434_5, c434_5, e434, hx434_0, hx434_1, hx434_2, hx434_3, hx434_4, hx434_5, hx434_6, hx434_7, hx434_8, hl434_4, hi434_4, hl434_5, hi434_5⟩ := at_T66 (Kd.N_reads' HO_10.out).2.2 x12_1 p434 q434
 cases e434
 obtain ⟨ce434, hce434, hMe434, hcc434⟩ := Kd.N_get HO_10.out z66 x12_1 p434 (by first | exact q434 | exact of_decide_eq_true sqH | (have e_ := (Kd.N_reads' HO_10.out).1; omega))
 obtain ⟨ua434_4, uc434_4, ua434_5, uc434_5, rfl, ul434_4, ge434_4, ul434_5, ge434_5⟩ := k66_openF hMe434
 have hv434_4 := hcc434 4 _ rfl
 rw [add_field _ _ 4 (by omega)] at hv434_4
 replace hv434_4 := Option.some.inj (hv434_4.symm.trans hx434_4)
 injection hv434_4 with hva_ hvn_ hvc_
 rw [hva_] at ge434_4
 rw [hvc_] at ul434_4
 have HL434_4 := sqM (show Kd.V k62 62 _ w.heap.size _ _ ((rd_T66 t431 x12_1).f2.f2) from Kd.V_mk ul434_4 ge434_4)
 clear hva_ hvn_ hvc_ ge434_4 ul434_4
 have hv434_5 := hcc434 5 _ rfl
 rw [add_field _ _ 5 (by omega)] at hv434_5
 replace hv434_5 := Option.some.inj (hv434_5.symm.trans hx434_5)
 injection hv434_5 with hva_ hvn_ hvc_
 rw [hva_] at ge434_5
 rw [hvc_] at ul434_5
 have HL434_5 := sqM (show Kd.V k59 59 _ w.heap.size _ _ ((rd_T66 t431 x12_1).f2.f3) from Kd.V_mk ul434_5 ge434_5)
 clear hva_ hvn_ hvc_ ge434_5 ul434_5
 clear hcc434 hce434
 have HR434_4 := Aside0.mk hi434_4
 have HC434_4 := Aside0.mk hl434_4
 clear hi434_4 hl434_4
 have HR434_5 := Aside0.mk hi434_5
 have HC434_5 := Aside0.mk hl434_5
 clear hi434_5 hl434_5
 replace p434 := eq_true p434
 replace q434 := eq_true q434
 go_wp2_with (first | ((with_reducible refine gate_dst (N := 8) rfl ?_); refine box_event rfl (N := 8) rfl (cs := #[.int .i64 0, .int .i64 0, .int .i64 0, .int .i64 0, .slice none 0 0, .slice none 0 0, .int .i64 0, .int .i64 0, .int .i64 0]) (t := 66) sqs ?_; intro gb435 hg w16 hbox hb; have BK435 := sqM (hbox); have GW435 := sqM (sqZ hg (sqB1 HB.out GE430.out)); have GE435 := sqM (sqZ hg (sqB1 HB.out GE430.out)); have NB430_435 := sqM (sqL hg (sqK BK430.out)); have NB435_430 := sqM (sqG hg (sqK BK430.out)); replace HO_10 := sqM (sqNe (sqN HO_10.out) hg hb); replace HL434_4 := sqM (sqVe (sqV HL434_4.out) hg hb); replace HL434_5 := sqM (sqVe (sqV HL434_5.out) hg hb); replace BK430 := sqM (blk_below (sqK BK430.out) hb); replace HR434_4 := sqM (Kd.C_below (sqC HR434_4.out) hb); replace HR434_5 := sqM (Kd.C_below (sqC HR434_5.out) hb); replace HB := sqM (below_step (sqB1 HB.out GE430.out) hb); clear hb hbox hg; have hnb17 := NB435_430.out; have hnc17 := NB430_435.out; obtain ⟨hcz18_0, hcz18_1, hcz18_2, hcz18_3, hcz18_4, hcz18_5, hcz18_6, hcz18_7, hcz18_8, hfz18_0, hfz18_1, hfz18_2, hfz18_3, hfz18_4, hfz18_5, hfz18_6, hfz18_7, hfz18_8⟩ := sqF9 BK435.out))
 repeat (go_quiet (first | ((with_reducible refine gate_dst (N := 8) rfl ?_); refine box_event rfl (N := 8) rfl (cs := #[.int .i64 0, .int .i64 0, .int .i64 0, .int .i64 0, .slice none 0 0, .slice none 0 0, .int .i64 0, .int .i64 0, .int .i64 0]) (t := 66) sqs ?_; intro gb435 hg w16 hbox hb; have BK435 := sqM (hbox); have GW435 := sqM (sqZ hg (sqB1 HB.out GE430.out)); have GE435 := sqM (sqZ hg (sqB1 HB.out GE430.out)); have NB430_435 := sqM (sqL hg (sqK BK430.out)); have NB435_430 := sqM (sqG hg (sqK BK430.out)); replace HO_10 := sqM (sqNe (sqN HO_10.out) hg hb); replace HL434_4 := sqM (sqVe (sqV HL434_4.out) hg hb); replace HL434_5 := sqM (sqVe (sqV HL434_5.out) hg hb); replace BK430 := sqM (blk_below (sqK BK430.out) hb); replace HR434_4 := sqM (Kd.C_below (sqC HR434_4.out) hb); replace HR434_5 := sqM (Kd.C_below (sqC HR434_5.out) hb); replace HB := sqM (below_step (sqB1 HB.out GE430.out) hb); clear hb hbox hg; have hnb17 := NB435_430.out; have hnc17 := NB430_435.out; obtain ⟨hcz18_0, hcz18_1, hcz18_2, hcz18_3, hcz18_4, hcz18_5, hcz18_6, hcz18_7, hcz18_8, hfz18_0, hfz18_1, hfz18_2, hfz18_3, hfz18_4, hfz18_5, hfz18_6, hfz18_7, hfz18_8⟩ := sqF9 BK435.out)); try go_wp2_with (first | ((with_reducible refine gate_dst (N := 8) rfl ?_); refine box_event rfl (N := 8) rfl (cs := #[.int .i64 0, .int .i64 0, .int .i64 0, .int .i64 0, .slice none 0 0, .slice none 0 0, .int .i64 0, .int .i64 0, .int .i64 0]) (t := 66) sqs ?_; intro gb435 hg w16 hbox hb; have BK435 := sqM (hbox); have GW435 := sqM (sqZ hg (sqB1 HB.out GE430.out)); have GE435 := sqM (sqZ hg (sqB1 HB.out GE430.out)); have NB430_435 := sqM (sqL hg (sqK BK430.out)); have NB435_430 := sqM (sqG hg (sqK BK430.out)); replace HO_10 := sqM (sqNe (sqN HO_10.out) hg hb); replace HL434_4 := sqM (sqVe (sqV HL434_4.out) hg hb); replace HL434_5 := sqM (sqVe (sqV HL434_5.out) hg hb); replace BK430 := sqM (blk_below (sqK BK430.out) hb); replace HR434_4 := sqM (Kd.C_below (sqC HR434_4.out) hb); replace HR434_5 := sqM (Kd.C_below (sqC HR434_5.out) hb); replace HB := sqM (below_step (sqB1 HB.out GE430.out) hb); clear hb hbox hg; have hnb17 := NB435_430.out; have hnc17 := NB430_435.out; obtain ⟨hcz18_0, hcz18_1, hcz18_2, hcz18_3, hcz18_4, hcz18_5, hcz18_6, hcz18_7, hcz18_8, hfz18_0, hfz18_1, hfz18_2, hfz18_3, hfz18_4, hfz18_5, hfz18_6, hfz18_7, hfz18_8⟩ := sqF9 BK435.out)))
 go_roundg k1
 case measure => have := HK1.out; omega
 case rel => exact ⟨(wrap64 (x12_1 + 1)), sqI, H', ⟨by have := HK1.out; omega⟩, ⟨by refine sqN ?_; exact Kd.N_mono (sqN9 (Kd.N_mono HO_10.out (fun k_ hk => (⟨hk, hk.2⟩ : _ ∧ k_ ≠ gb435))) (fun _ hk => hk.2)) (fun _ hk => hk.1.1)⟩, ⟨(sqK (sqX9 BK430.out NB430_435.out))⟩, ⟨sqB2 HB.out GE430.out GE435.out⟩⟩

/-! ### boarderref13_OnWire: function 27 -/
mutual
def boarderref13_OnWire.j0 : Nat → Int → Bool → Int → Int → List (S41) → Option (Int × Int × Bool)
  | 0, _, _, _, _, _ => none
  | k + 1, x1, x15, x437000, x437001, x437002 => if x15 = true then (some (0, 0, false)) else (boarderref13_OnWire.l0 k x1 0 x437000 x437001 x437002)
def boarderref13_OnWire.l0 : Nat → Int → Int → Int → Int → List (S41) → Option (Int × Int × Bool)
  | 0, _, _, _, _, _ => none
  | k + 1, x1, x7, x437000, x437001, x437002 => if x7 < (x437002.length : Int) then (boarderref13_OnWire.l1 k x1 x7 0 x437000 x437001 x437002) else (some (0, 0, false))
def boarderref13_OnWire.l1 : Nat → Int → Int → Int → Int → Int → List (S41) → Option (Int × Int × Bool)
  | 0, _, _, _, _, _, _ => none
  | k + 1, x1, x7, x8, x437000, x437001, x437002 => if 0 ≤ x7 then (if x7 < (x437002.length : Int) then (if x8 < (((rd_T41 x437002 x7).f0).length : Int) then (if 0 ≤ x8 then (if ((rd_T57 ((rd_T41 x437002 x7).f0) x8).f4) = x1 then (some (x7, x8, true)) else (boarderref13_OnWire.l1 k x1 x7 (wrap64 (x8 + 1)) x437000 x437001 x437002)) else (none)) else (boarderref13_OnWire.l0 k x1 (wrap64 (x7 + 1)) x437000 x437001 x437002)) else (none)) else (none)
end
def boarderref13_OnWire.f (k : Nat) (a0_0 : Int) (a0_1 : Int) (l0_2 : List (S41)) (a1 : Int) : Option (Int × Int × Bool) := (boarderref13_Check.f k a0_0 a0_1 l0_2).bind fun t437 => (if t437 = 0 then (boarderref13_OnWire.j0 k a1 (decide (a1 < 1)) a0_0 a0_1 l0_2) else (boarderref13_OnWire.j0 k a1 true a0_0 a0_1 l0_2))
set_option maxHeartbeats 8000000 in
set_option maxRecDepth 100000 in
theorem boarderref13_OnWire.calls (k : Nat) (a0_0 : Int) (a0_1 : Int) (A0_2 : Option Addr) (c0_2 : Nat) (l0_2 : List (S41)) (a1 : Int) (r1 : Int) (r2 : Int) (r3 : Bool) (w : World) (hr0_2 : Kd.C k41 w A0_2 l0_2.length l0_2) (hc0_2 : l0_2.length ≤ c0_2) (h : boarderref13_OnWire.f k a0_0 a0_1 l0_2 a1 = some (r1, r2, r3)) :
    Calls Try.prog 27 #[.agg #[.int .i64 a0_0, .int .i64 a0_1, .slice A0_2 l0_2.length c0_2], .int .i64 a1] w fun e w' => e = .returned (.tuple #[.int .i64 r1, .int .i64 r2, .bool r3]) ∧ Below w.heap.size w w' := by
 have hu24 := Try.underlying24
 have HR0_2 := Aside0.mk hr0_2
 have HC0_2 := Aside0.mk hc0_2
 clear hr0_2 hc0_2
 have HB := Aside0.mk (Below.refl w.heap.size w)
 have H : ((boarderref13_Check.f k a0_0 a0_1 l0_2).bind fun t437 => (if t437 = 0 then (boarderref13_OnWire.j0 k a1 (decide (a1 < 1)) a0_0 a0_1 l0_2) else (boarderref13_OnWire.j0 k a1 true a0_0 a0_1 l0_2))) = some (r1, r2, r3) := h
 clear h
 have HC3 := Aside0.mk H
 clear H
 go_enter Try.func27, Try.ntmps27
 go_upto_region 1 with (first | ((with_reducible refine gate_dst (N := 2) rfl ?_); refine box_event rfl (N := 2) rfl (cs := #[.int .i64 a0_0, .int .i64 a0_1, .slice A0_2 l0_2.length c0_2]) (t := 24) sqs ?_; intro gb436 hg w4 hbox hb; have BK436 := sqM (hbox); have GW436 := sqM (sqZ hg (sqB HB.out)); have GE436 := sqM (sqZ hg (sqB HB.out)); replace HB := sqM (below_step (sqB HB.out) hb); clear hb hbox hg))
 (try simp only [Act.put, List.setIfInBounds_toArray, List.set_cons_zero, List.set_cons_succ])
 go_cut [15] (fun v15 wc => ∃ (kq : Nat) (x15_2 : Bool), v15 = .bool x15_2 ∧ Aside0 (boarderref13_OnWire.j0 kq a1 x15_2 a0_0 a0_1 l0_2 = some (r1, r2, r3)) ∧ Aside0 (kq ≤ k) ∧ Aside0 (wc.heap[gb436]? = some (.cells #[.int .i64 a0_0, .int .i64 a0_1, (.slice A0_2 l0_2.length c0_2)] 24 (0, 0))) ∧ Aside0 (Below w.heap.size w wc))
 case first =>
  have H := HC3.out
  clear HC3
  replace H := Option.bind_eq_some_iff.mp H
  obtain ⟨t437, A50, H⟩ := H
  replace H : (if t437 = 0 then (boarderref13_OnWire.j0 k a1 (decide (a1 < 1)) a0_0 a0_1 l0_2) else (boarderref13_OnWire.j0 k a1 true a0_0 a0_1 l0_2)) = some (r1, r2, r3) := H
  have A5 := Aside0.mk A50
  clear A50
  by_cases c6 : t437 = 0
  rotate_left
  · rw [if_neg c6] at H
    have c6b0 : (t437 == 0) = false := beq_eq_false_iff_ne.mpr c6
    have c6b1 : (t437 != 0) = true := bne_iff_ne.mpr c6
    (first | rw [c6b0] | (simp only [i64_w, i32_w]; rw [c6b0]) | skip)
    have H' := Aside0.mk H
    clear H
    obtain ⟨hcz9_0, hcz9_1, hcz9_2, hfz9_0, hfz9_1, hfz9_2⟩ := sqF3 BK436.out
    go_wp2_with (first | ((with_reducible refine gate_callee (f := 17) rfl ?_); refine goesL_ (some 10) rfl rfl Try.func17 (by kernel_rfl) rfl #[.agg #[.int .i64 a0_0, .int .i64 a0_1, .slice A0_2 l0_2.length c0_2]] rfl sqA ?_; (with_reducible refine (boarderref13_Check.calls _ _ _ _ _ _ _ _ ?side1 ?side2 A5.out).mono ?_); (case side1 => repeat (first | exact (Kd.C_below HR0_2.out HB.out) | (with_reducible refine Kd.C_alloc ?_ _) | (with_reducible refine Kd.C_drewN ?_ _) | (with_reducible refine Kd.C_drew ?_))); (case side2 => exact HC0_2.out); rintro e w10 ⟨rfl, hb⟩; refine ⟨_, rfl, ?_⟩; replace BK436 := sqM (blk_below (sqK BK436.out) hb); replace HB := sqM (below_step (sqB1 HB.out GE436.out) hb); (try clear hb); (try clear hb2); (try clear hk); (try clear hi)))
    go_meet
    case rel => exact ⟨_, (true), sqI, H', ⟨by first | omega | exact Nat.le_refl _⟩, ⟨sqK BK436.out⟩, ⟨sqB1 HB.out GE436.out⟩⟩
  rw [if_pos c6] at H
  have c6b0 : (t437 == 0) = true := beq_iff_eq.mpr c6
  have c6b1 : (t437 != 0) = false := bne_eq_false_iff_eq.mpr c6
  clear c6
  (first | rw [c6b0] | (simp only [i64_w, i32_w]; rw [c6b0]) | skip)
  have H' := Aside0.mk H
  clear H
  obtain ⟨hcz7_0, hcz7_1, hcz7_2, hfz7_0, hfz7_1, hfz7_2⟩ := sqF3 BK436.out
  go_wp2_with (first | ((with_reducible refine gate_callee (f := 17) rfl ?_); refine goesL_ (some 10) rfl rfl Try.func17 (by kernel_rfl) rfl #[.agg #[.int .i64 a0_0, .int .i64 a0_1, .slice A0_2 l0_2.length c0_2]] rfl sqA ?_; (with_reducible refine (boarderref13_Check.calls _ _ _ _ _ _ _ _ ?side1 ?side2 A5.out).mono ?_); (case side1 => repeat (first | exact (Kd.C_below HR0_2.out HB.out) | (with_reducible refine Kd.C_alloc ?_ _) | (with_reducible refine Kd.C_drewN ?_ _) | (with_reducible refine Kd.C_drew ?_))); (case side2 => exact HC0_2.out); rintro e w8 ⟨rfl, hb⟩; refine ⟨_, rfl, ?_⟩; replace BK436 := sqM (blk_below (sqK BK436.out) hb); replace HB := sqM (below_step (sqB1 HB.out GE436.out) hb); (try clear hb); (try clear hb2); (try clear hk); (try clear hi)))
  go_meet
  case rel => exact ⟨_, (decide (a1 < 1)), sqI, H', ⟨by first | omega | exact Nat.le_refl _⟩, ⟨sqK BK436.out⟩, ⟨sqB1 HB.out GE436.out⟩⟩
 clear HC3
 try clear c1
 try clear c2
 try clear p2
 try clear c6
 try clear c6b0
 try clear c6b1
 try clear hcz7_0 hcz7_1 hcz7_2
 try clear hcz9_0 hcz9_1 hcz9_2
 try clear hfz7_0 hfz7_1 hfz7_2
 try clear hfz9_0 hfz9_1 hfz9_2
 obtain ⟨kq, x15_2, rfl, HA, HJ2, BK436, HB⟩ := hcut
 cases kq with
 | zero => exact absurd HA.out (by simp [boarderref13_OnWire.j0])
 | succ kj2 => ?_
 have H := HA.out
 clear HA
 simp only [boarderref13_OnWire.j0] at H
 by_cases c11 : x15_2 = true
 · subst c11
   have H1 : (some (0, 0, false)) = some (r1, r2, r3) := by rw [if_pos rfl] at H; exact H
   clear H
   have H := H1
   clear H1
   simp only [Option.some.injEq, Prod.mk.injEq] at H
   obtain ⟨rfl, rfl, rfl⟩ := H
   go_wp2
   go_ret3
   exact ⟨sqE, sqB1 HB.out GE436.out⟩
 replace c11 := Bool.eq_false_iff.mpr c11
 subst c11
 have H1 : (boarderref13_OnWire.l0 kj2 a1 0 a0_0 a0_1 l0_2) = some (r1, r2, r3) := by rw [if_neg (show ¬ (false = true) by decide)] at H; exact H
 clear H
 have H := H1
 clear H1
 have H' := Aside0.mk H
 clear H
 go_wp2
 go_loopg [7] kj2 (fun kq v7 w' => ∃ (x7_2 : Int), v7 = .int .i64 x7_2 ∧ Aside0 (boarderref13_OnWire.l0 kq a1 x7_2 a0_0 a0_1 l0_2 = some (r1, r2, r3)) ∧ Aside0 (kq ≤ kj2) ∧ Aside0 (w'.heap[gb436]? = some (.cells #[.int .i64 a0_0, .int .i64 a0_1, (.slice A0_2 l0_2.length c0_2)] 24 (0, 0))) ∧ Aside0 (Below w.heap.size w w'))
 case atStart => exact ⟨(0), sqI, H', ⟨Nat.le_refl _⟩, ⟨sqK BK436.out⟩, ⟨sqB1 HB.out GE436.out⟩⟩
 clear H'
 try clear c1
 try clear c2
 try clear p2
 try clear c6
 try clear c6b0
 try clear c6b1
 try clear c11
 try clear hcz7_0 hcz7_1 hcz7_2
 try clear hcz9_0 hcz9_1 hcz9_2
 try clear hfz7_0 hfz7_1 hfz7_2
 try clear hfz9_0 hfz9_1 hfz9_2
 try clear p2
 obtain ⟨x7_2, rfl, HA, HK2, BK436, HB⟩ := hrel
 cases gk with
 | zero => exact absurd HA.out (by simp [boarderref13_OnWire.l0])
 | succ k2 => ?_
 have H := HA.out
 clear HA
 simp only [boarderref13_OnWire.l0] at H
 by_cases c12 : x7_2 < (l0_2.length : Int)
 rotate_left
 · rw [if_neg c12] at H
   have c12b0 : decide (x7_2 < (l0_2.length : Int)) = false := decide_eq_false c12
   clear c12
   simp only [Option.some.injEq, Prod.mk.injEq] at H
   obtain ⟨rfl, rfl, rfl⟩ := H
   obtain ⟨hcz22_0, hcz22_1, hcz22_2, hfz22_0, hfz22_1, hfz22_2⟩ := sqF3 BK436.out
   go_wp2
   go_ret3
   exact ⟨sqE, sqB1 HB.out GE436.out⟩
 rw [if_pos c12] at H
 have c12b0 : decide (x7_2 < (l0_2.length : Int)) = true := decide_eq_true c12
 clear c12
 have H' := Aside0.mk H
 clear H
 obtain ⟨hcz13_0, hcz13_1, hcz13_2, hfz13_0, hfz13_1, hfz13_2⟩ := sqF3 BK436.out
 go_wp2
 go_loopg [8] k2 (fun kq v8 w' => ∃ (x8_3 : Int), v8 = .int .i64 x8_3 ∧ Aside0 (boarderref13_OnWire.l1 kq a1 x7_2 x8_3 a0_0 a0_1 l0_2 = some (r1, r2, r3)) ∧ Aside0 (kq ≤ k2) ∧ Aside0 (w'.heap[gb436]? = some (.cells #[.int .i64 a0_0, .int .i64 a0_1, (.slice A0_2 l0_2.length c0_2)] 24 (0, 0))) ∧ Aside0 (Below w.heap.size w w'))
 case atStart => exact ⟨(0), sqI, H', ⟨Nat.le_refl _⟩, ⟨sqK BK436.out⟩, ⟨sqB1 HB.out GE436.out⟩⟩
 clear H'
 try clear c1
 try clear c2
 try clear p2
 try clear c6
 try clear c6b0
 try clear c6b1
 try clear c11
 try clear c12
 try clear c12b0
 try clear hcz13_0 hcz13_1 hcz13_2
 try clear hcz7_0 hcz7_1 hcz7_2
 try clear hcz9_0 hcz9_1 hcz9_2
 try clear hfz13_0 hfz13_1 hfz13_2
 try clear hfz7_0 hfz7_1 hfz7_2
 try clear hfz9_0 hfz9_1 hfz9_2
 try clear p2
 obtain ⟨x8_3, rfl, HA, HK3, BK436, HB⟩ := hrel
 cases gk with
 | zero => exact absurd HA.out (by simp [boarderref13_OnWire.l1])
 | succ k3 => ?_
 have H := HA.out
 clear HA
 simp only [boarderref13_OnWire.l1] at H
 by_cases c14 : 0 ≤ x7_2
 rotate_left
 · rw [if_neg c14] at H
   exact absurd H (by simp)
 rw [if_pos c14] at H
 have c14b0 : decide (0 ≤ x7_2) = true := decide_eq_true c14
 clear c14
 by_cases c15 : x7_2 < (l0_2.length : Int)
 rotate_left
 · rw [if_neg c15] at H
   exact absurd H (by simp)
 rw [if_pos c15] at H
 have c15b0 : decide (x7_2 < (l0_2.length : Int)) = true := decide_eq_true c15
 clear c15
 by_cases c16 : x8_3 < (((rd_T41 l0_2 x7_2).f0).length : Int)
 rotate_left
 · rw [if_neg c16] at H
   have c16b0 : decide (x8_3 < (((rd_T41 l0_2 x7_2).f0).length : Int)) = false := decide_eq_false c16
   clear c16
   have H' := Aside0.mk H
   clear H
   obtain ⟨hcz21_0, hcz21_1, hcz21_2, hfz21_0, hfz21_1, hfz21_2⟩ := sqF3 BK436.out
   have p438 : 0 ≤ (x7_2 : Int) := of_decide_eq_true sqH
   have q438 : x7_2 < (l0_2.length : Int) := of_decide_eq_true sqH
   obtain ⟨ad438, A438_0, c438_0, e438, hx438_0, hl438_0, hi438_0⟩ := at_T41 HR0_2.out x7_2 p438 q438
   cases e438
   replace hx438_0 := sqx HB.out hx438_0
   have HR438_0 := Aside0.mk hi438_0
   have HC438_0 := Aside0.mk hl438_0
   clear hi438_0 hl438_0
   replace p438 := eq_true p438
   replace q438 := eq_true q438
   go_wp2
   go_roundg k3
   case measure => have := HJ2.out; have := HK2.out; have := HK3.out; omega
   case rel => exact ⟨(wrap64 (x7_2 + 1)), sqI, H', ⟨by have := HJ2.out; have := HK2.out; have := HK3.out; omega⟩, ⟨sqK BK436.out⟩, ⟨sqB1 HB.out GE436.out⟩⟩
 rw [if_pos c16] at H
 have c16b0 : decide (x8_3 < (((rd_T41 l0_2 x7_2).f0).length : Int)) = true := decide_eq_true c16
 clear c16
 by_cases c17 : 0 ≤ x8_3
 rotate_left
 · rw [if_neg c17] at H
   exact absurd H (by simp)
 rw [if_pos c17] at H
 have c17b0 : decide (0 ≤ x8_3) = true := decide_eq_true c17
 clear c17
 by_cases c18 : ((rd_T57 ((rd_T41 l0_2 x7_2).f0) x8_3).f4) = a1
 · rw [if_pos c18] at H
   have c18b0 : (((rd_T57 ((rd_T41 l0_2 x7_2).f0) x8_3).f4) == a1) = true := beq_iff_eq.mpr c18
   have c18b1 : (((rd_T57 ((rd_T41 l0_2 x7_2).f0) x8_3).f4) != a1) = false := bne_eq_false_iff_eq.mpr c18
   clear c18
   simp only [Option.some.injEq, Prod.mk.injEq] at H
   obtain ⟨rfl, rfl, rfl⟩ := H
   obtain ⟨hcz19_0, hcz19_1, hcz19_2, hfz19_0, hfz19_1, hfz19_2⟩ := sqF3 BK436.out
   have p438 : 0 ≤ (x7_2 : Int) := of_decide_eq_true sqH
   have q438 : x7_2 < (l0_2.length : Int) := of_decide_eq_true sqH
   obtain ⟨ad438, A438_0, c438_0, e438, hx438_0, hl438_0, hi438_0⟩ := at_T41 HR0_2.out x7_2 p438 q438
   cases e438
   replace hx438_0 := sqx HB.out hx438_0
   have HR438_0 := sqM hi438_0
   have HC438_0 := sqM hl438_0
   clear hi438_0 hl438_0
   replace p438 := eq_true p438
   replace q438 := eq_true q438
   have p439 : 0 ≤ (x7_2 : Int) := of_decide_eq_true sqH
   have q439 : x7_2 < (l0_2.length : Int) := of_decide_eq_true sqH
   obtain ⟨ad439, A439_0, c439_0, e439, hx439_0, hl439_0, hi439_0⟩ := at_T41 HR0_2.out x7_2 p439 q439
   obtain rfl : ad438 = ad439 := (by injection e439)
   replace hx439_0 := sqx HB.out hx439_0
   have HR439_0 := sqM hi439_0
   have HC439_0 := sqM hl439_0
   clear hi439_0 hl439_0
   replace p439 := eq_true p439
   replace q439 := eq_true q439
   have ea_ := Option.some.inj (hx438_0.symm.trans hx439_0)
   injection ea_ with ea_ en_ ec_
   subst ea_
   subst ec_
   clear en_
   have p440 : 0 ≤ (x8_3 : Int) := of_decide_eq_true sqH
   have q440 : x8_3 < (((rd_T41 l0_2 x7_2).f0).length : Int) := of_decide_eq_true sqH
   obtain ⟨ad440, A440_2, c440_2, A440_3, c440_3, e440, hx440_0, hx440_1, hx440_2, hx440_3, hx440_4, hx440_5, hx440_6, hl440_2, hi440_2, hl440_3, hi440_3⟩ := at_T57 HR439_0.out x8_3 p440 q440
   cases e440
   replace hx440_0 := sqx HB.out hx440_0
   replace hx440_1 := sqx HB.out hx440_1
   replace hx440_2 := sqx HB.out hx440_2
   replace hx440_3 := sqx HB.out hx440_3
   replace hx440_4 := sqx HB.out hx440_4
   replace hx440_5 := sqx HB.out hx440_5
   replace hx440_6 := sqx HB.out hx440_6
   have HR440_2 := sqM hi440_2
   have HC440_2 := sqM hl440_2
   clear hi440_2 hl440_2
   have HR440_3 := sqM hi440_3
   have HC440_3 := sqM hl440_3
   clear hi440_3 hl440_3
   replace p440 := eq_true p440
   replace q440 := eq_true q440
   go_wp2
   go_ret3
   exact ⟨sqE, sqB1 HB.out GE436.out⟩
 rw [if_neg c18] at H
 have c18b0 : (((rd_T57 ((rd_T41 l0_2 x7_2).f0) x8_3).f4) == a1) = false := beq_eq_false_iff_ne.mpr c18
 have c18b1 : (((rd_T57 ((rd_T41 l0_2 x7_2).f0) x8_3).f4) != a1) = true := bne_iff_ne.mpr c18
 have H' := Aside0.mk H
 clear H
 obtain ⟨hcz20_0, hcz20_1, hcz20_2, hfz20_0, hfz20_1, hfz20_2⟩ := sqF3 BK436.out
 have p438 : 0 ≤ (x7_2 : Int) := of_decide_eq_true sqH
 have q438 : x7_2 < (l0_2.length : Int) := of_decide_eq_true sqH
 obtain ⟨ad438, A438_0, c438_0, e438, hx438_0, hl438_0, hi438_0⟩ := at_T41 HR0_2.out x7_2 p438 q438
 cases e438
 replace hx438_0 := sqx HB.out hx438_0
 have HR438_0 := sqM hi438_0
 have HC438_0 := sqM hl438_0
 clear hi438_0 hl438_0
 replace p438 := eq_true p438
 replace q438 := eq_true q438
 have p439 : 0 ≤ (x7_2 : Int) := of_decide_eq_true sqH
 have q439 : x7_2 < (l0_2.length : Int) := of_decide_eq_true sqH
 obtain ⟨ad439, A439_0, c439_0, e439, hx439_0, hl439_0, hi439_0⟩ := at_T41 HR0_2.out x7_2 p439 q439
 obtain rfl : ad438 = ad439 := (by injection e439)
 replace hx439_0 := sqx HB.out hx439_0
 have HR439_0 := sqM hi439_0
 have HC439_0 := sqM hl439_0
 clear hi439_0 hl439_0
 replace p439 := eq_true p439
 replace q439 := eq_true q439
 have ea_ := Option.some.inj (hx438_0.symm.trans hx439_0)
 injection ea_ with ea_ en_ ec_
 subst ea_
 subst ec_
 clear en_
 have p440 : 0 ≤ (x8_3 : Int) := of_decide_eq_true sqH
 have q440 : x8_3 < (((rd_T41 l0_2 x7_2).f0).length : Int) := of_decide_eq_true sqH
 obtain ⟨ad440, A440_2, c440_2, A440_3, c440_3, e440, hx440_0, hx440_1, hx440_2, hx440_3, hx440_4, hx440_5, hx440_6, hl440_2, hi440_2, hl440_3, hi440_3⟩ := at_T57 HR439_0.out x8_3 p440 q440
 cases e440
 replace hx440_0 := sqx HB.out hx440_0
 replace hx440_1 := sqx HB.out hx440_1
 replace hx440_2 := sqx HB.out hx440_2
 replace hx440_3 := sqx HB.out hx440_3
 replace hx440_4 := sqx HB.out hx440_4
 replace hx440_5 := sqx HB.out hx440_5
 replace hx440_6 := sqx HB.out hx440_6
 have HR440_2 := sqM hi440_2
 have HC440_2 := sqM hl440_2
 clear hi440_2 hl440_2
 have HR440_3 := sqM hi440_3
 have HC440_3 := sqM hl440_3
 clear hi440_3 hl440_3
 replace p440 := eq_true p440
 replace q440 := eq_true q440
 go_wp2
 go_roundg k3
 case measure => have := HJ2.out; have := HK2.out; have := HK3.out; omega
 case rel => exact ⟨(wrap64 (x8_3 + 1)), sqI, H', ⟨by have := HJ2.out; have := HK2.out; have := HK3.out; omega⟩, ⟨sqK BK436.out⟩, ⟨sqB1 HB.out GE436.out⟩⟩

/-! ### boarderlaw13_ConfFinds: function 7 -/
def boarderlaw13_ConfFinds.f (k : Nat) (a0_0 : Int) (a0_1 : Int) (l0_2 : List (S41)) (a1 : Int) (a2 : Int) : Option (Bool) := (boarderlaw13_Great.f k a0_0 a0_1 l0_2).bind fun t442 => (if t442 = true then ((boarderlaw13_knows.f k).bind fun t443 => (some t443)) else ((conf_Find.f k a0_0 a0_1 l0_2 a1).bind fun bt444 => ((boarderref13_Find.f k a0_0 a0_1 l0_2 a1).bind fun bt447 => ((conf_OnWire.f k a0_0 a0_1 l0_2 a2).bind fun bt450 => ((boarderref13_OnWire.f k a0_0 a0_1 l0_2 a2).bind fun bt453 => (if bt444.1 = bt447.1 then (if bt444.2.1 = bt447.2.1 then (if (bt444.2.2 == bt447.2.2) = true then (if bt450.1 = bt453.1 then (if bt450.2.1 = bt453.2.1 then (if (bt450.2.2 == bt453.2.2) = true then ((boarderlaw13_knows.f k).bind fun t456 => (some t456)) else (none)) else (none)) else (none)) else (none)) else (none)) else (none)))))))
set_option maxHeartbeats 8000000 in
set_option maxRecDepth 100000 in
theorem boarderlaw13_ConfFinds.calls (k : Nat) (a0_0 : Int) (a0_1 : Int) (A0_2 : Option Addr) (c0_2 : Nat) (l0_2 : List (S41)) (a1 : Int) (a2 : Int) (r : Bool) (w : World) (hr0_2 : Kd.C k41 w A0_2 l0_2.length l0_2) (hc0_2 : l0_2.length ≤ c0_2) (h : boarderlaw13_ConfFinds.f k a0_0 a0_1 l0_2 a1 a2 = some r) :
    Calls Try.prog 7 #[.agg #[.int .i64 a0_0, .int .i64 a0_1, .slice A0_2 l0_2.length c0_2], .int .i64 a1, .int .i64 a2] w fun e w' => e = .returned (.bool r) ∧ Below w.heap.size w w' := by
 have hu24 := Try.underlying24
 have HR0_2 := Aside0.mk hr0_2
 have HC0_2 := Aside0.mk hc0_2
 clear hr0_2 hc0_2
 have HB := Aside0.mk (Below.refl w.heap.size w)
 have H : ((boarderlaw13_Great.f k a0_0 a0_1 l0_2).bind fun t442 => (if t442 = true then ((boarderlaw13_knows.f k).bind fun t443 => (some t443)) else ((conf_Find.f k a0_0 a0_1 l0_2 a1).bind fun bt444 => ((boarderref13_Find.f k a0_0 a0_1 l0_2 a1).bind fun bt447 => ((conf_OnWire.f k a0_0 a0_1 l0_2 a2).bind fun bt450 => ((boarderref13_OnWire.f k a0_0 a0_1 l0_2 a2).bind fun bt453 => (if bt444.1 = bt447.1 then (if bt444.2.1 = bt447.2.1 then (if (bt444.2.2 == bt447.2.2) = true then (if bt450.1 = bt453.1 then (if bt450.2.1 = bt453.2.1 then (if (bt450.2.2 == bt453.2.2) = true then ((boarderlaw13_knows.f k).bind fun t456 => (some t456)) else (none)) else (none)) else (none)) else (none)) else (none)) else (none)))))))) = some r := h
 clear h
 replace H := Option.bind_eq_some_iff.mp H
 obtain ⟨t442, A40, H⟩ := H
 replace H : (if t442 = true then ((boarderlaw13_knows.f k).bind fun t443 => (some t443)) else ((conf_Find.f k a0_0 a0_1 l0_2 a1).bind fun bt444 => ((boarderref13_Find.f k a0_0 a0_1 l0_2 a1).bind fun bt447 => ((conf_OnWire.f k a0_0 a0_1 l0_2 a2).bind fun bt450 => ((boarderref13_OnWire.f k a0_0 a0_1 l0_2 a2).bind fun bt453 => (if bt444.1 = bt447.1 then (if bt444.2.1 = bt447.2.1 then (if (bt444.2.2 == bt447.2.2) = true then (if bt450.1 = bt453.1 then (if bt450.2.1 = bt453.2.1 then (if (bt450.2.2 == bt453.2.2) = true then ((boarderlaw13_knows.f k).bind fun t456 => (some t456)) else (none)) else (none)) else (none)) else (none)) else (none)) else (none))))))) = some r := H
 have A4 := Aside0.mk A40
 clear A40
 by_cases c5 : t442 = true
 · subst c5
   have H1 : ((boarderlaw13_knows.f k).bind fun t443 => (some t443)) = some r := by rw [if_pos rfl] at H; exact H
   clear H
   have H := H1
   clear H1
   replace H := Option.bind_eq_some_iff.mp H
   obtain ⟨t443, A60, H⟩ := H
   replace H : (some t443) = some r := H
   have A6 := Aside0.mk A60
   clear A60
   obtain rfl := Option.some.inj H
   go_enter Try.func7, Try.ntmps7
   go_wp2_with (first | ((with_reducible refine gate_dst (N := 3) rfl ?_); refine box_event rfl (N := 3) rfl (cs := #[.int .i64 a0_0, .int .i64 a0_1, .slice A0_2 l0_2.length c0_2]) (t := 24) sqs ?_; intro gb441 hg w7 hbox hb; have BK441 := sqM (hbox); have GW441 := sqM (sqZ hg (sqB HB.out)); have GE441 := sqM (sqZ hg (sqB HB.out)); replace HB := sqM (below_step (sqB HB.out) hb); clear hb hbox hg; obtain ⟨hcz8_0, hcz8_1, hcz8_2, hfz8_0, hfz8_1, hfz8_2⟩ := sqF3 BK441.out) | ((with_reducible refine gate_callee (f := 14) rfl ?_); refine goesL_ (some 20) rfl rfl Try.func14 (by kernel_rfl) rfl #[.agg #[.int .i64 a0_0, .int .i64 a0_1, .slice A0_2 l0_2.length c0_2]] rfl sqA ?_; (with_reducible refine (boarderlaw13_Great.calls _ _ _ _ _ _ _ _ ?side1 ?side2 A4.out).mono ?_); (case side1 => repeat (first | exact (Kd.C_below HR0_2.out HB.out) | (with_reducible refine Kd.C_alloc ?_ _) | (with_reducible refine Kd.C_drewN ?_ _) | (with_reducible refine Kd.C_drew ?_))); (case side2 => exact HC0_2.out); rintro e w9 ⟨rfl, hb⟩; refine ⟨_, rfl, ?_⟩; replace BK441 := sqM (blk_below (sqK BK441.out) hb); replace HB := sqM (below_step (sqB1 HB.out GE441.out) hb); (try clear hb); (try clear hb2); (try clear hk); (try clear hi)) | ((with_reducible refine gate_callee (f := 15) rfl ?_); refine goesL_ (some 21) rfl rfl Try.func15 (by kernel_rfl) rfl #[] rfl sqA ?_; (with_reducible refine (boarderlaw13_knows.calls k  t443 _ A6.out).mono ?_); rintro e w10 ⟨rfl, hb⟩; refine ⟨_, rfl, ?_⟩; replace BK441 := sqM (blk_below (sqK BK441.out) hb); replace HB := sqM (below_step (sqB1 HB.out GE441.out) hb); (try clear hb); (try clear hb2); (try clear hk); (try clear hi)))
   go_ret
   exact ⟨sqE, sqB1 HB.out GE441.out⟩
 replace c5 := Bool.eq_false_iff.mpr c5
 subst c5
 have H1 : ((conf_Find.f k a0_0 a0_1 l0_2 a1).bind fun bt444 => ((boarderref13_Find.f k a0_0 a0_1 l0_2 a1).bind fun bt447 => ((conf_OnWire.f k a0_0 a0_1 l0_2 a2).bind fun bt450 => ((boarderref13_OnWire.f k a0_0 a0_1 l0_2 a2).bind fun bt453 => (if bt444.1 = bt447.1 then (if bt444.2.1 = bt447.2.1 then (if (bt444.2.2 == bt447.2.2) = true then (if bt450.1 = bt453.1 then (if bt450.2.1 = bt453.2.1 then (if (bt450.2.2 == bt453.2.2) = true then ((boarderlaw13_knows.f k).bind fun t456 => (some t456)) else (none)) else (none)) else (none)) else (none)) else (none)) else (none)))))) = some r := by rw [if_neg (show ¬ (false = true) by decide)] at H; exact H
 clear H
 have H := H1
 clear H1
 replace H := Option.bind_eq_some_iff.mp H
 obtain ⟨⟨t444, t445, t446⟩, A110, H⟩ := H
 replace H : ((boarderref13_Find.f k a0_0 a0_1 l0_2 a1).bind fun bt447 => ((conf_OnWire.f k a0_0 a0_1 l0_2 a2).bind fun bt450 => ((boarderref13_OnWire.f k a0_0 a0_1 l0_2 a2).bind fun bt453 => (if t444 = bt447.1 then (if t445 = bt447.2.1 then (if (t446 == bt447.2.2) = true then (if bt450.1 = bt453.1 then (if bt450.2.1 = bt453.2.1 then (if (bt450.2.2 == bt453.2.2) = true then ((boarderlaw13_knows.f k).bind fun t456 => (some t456)) else (none)) else (none)) else (none)) else (none)) else (none)) else (none))))) = some r := H
 have A11 := Aside0.mk A110
 clear A110
 replace H := Option.bind_eq_some_iff.mp H
 obtain ⟨⟨t447, t448, t449⟩, A120, H⟩ := H
 replace H : ((conf_OnWire.f k a0_0 a0_1 l0_2 a2).bind fun bt450 => ((boarderref13_OnWire.f k a0_0 a0_1 l0_2 a2).bind fun bt453 => (if t444 = t447 then (if t445 = t448 then (if (t446 == t449) = true then (if bt450.1 = bt453.1 then (if bt450.2.1 = bt453.2.1 then (if (bt450.2.2 == bt453.2.2) = true then ((boarderlaw13_knows.f k).bind fun t456 => (some t456)) else (none)) else (none)) else (none)) else (none)) else (none)) else (none)))) = some r := H
 have A12 := Aside0.mk A120
 clear A120
 replace H := Option.bind_eq_some_iff.mp H
 obtain ⟨⟨t450, t451, t452⟩, A130, H⟩ := H
 replace H : ((boarderref13_OnWire.f k a0_0 a0_1 l0_2 a2).bind fun bt453 => (if t444 = t447 then (if t445 = t448 then (if (t446 == t449) = true then (if t450 = bt453.1 then (if t451 = bt453.2.1 then (if (t452 == bt453.2.2) = true then ((boarderlaw13_knows.f k).bind fun t456 => (some t456)) else (none)) else (none)) else (none)) else (none)) else (none)) else (none))) = some r := H
 have A13 := Aside0.mk A130
 clear A130
 replace H := Option.bind_eq_some_iff.mp H
 obtain ⟨⟨t453, t454, t455⟩, A140, H⟩ := H
 replace H : (if t444 = t447 then (if t445 = t448 then (if (t446 == t449) = true then (if t450 = t453 then (if t451 = t454 then (if (t452 == t455) = true then ((boarderlaw13_knows.f k).bind fun t456 => (some t456)) else (none)) else (none)) else (none)) else (none)) else (none)) else (none)) = some r := H
 have A14 := Aside0.mk A140
 clear A140
 by_cases c15 : t444 = t447
 rotate_left
 · rw [if_neg c15] at H
   exact absurd H (by simp)
 rw [if_pos c15] at H
 have c15b0 : (t444 == t447) = true := beq_iff_eq.mpr c15
 have c15b1 : (t444 != t447) = false := bne_eq_false_iff_eq.mpr c15
 clear c15
 by_cases c16 : t445 = t448
 rotate_left
 · rw [if_neg c16] at H
   exact absurd H (by simp)
 rw [if_pos c16] at H
 have c16b0 : (t445 == t448) = true := beq_iff_eq.mpr c16
 have c16b1 : (t445 != t448) = false := bne_eq_false_iff_eq.mpr c16
 clear c16
 by_cases c17 : (t446 == t449) = true
 rotate_left
 · rw [if_neg c17] at H
   exact absurd H (by simp)
 rw [if_pos c17] at H
 have c17b0 : (t446 == t449) = true := c17
 (try (have c17b1 : decide (t446 = t449) = true := by simpa using c17))
 (try (have c17b2 : (t446 == t449) = true := by simpa using c17))
 clear c17
 by_cases c18 : t450 = t453
 rotate_left
 · rw [if_neg c18] at H
   exact absurd H (by simp)
 rw [if_pos c18] at H
 have c18b0 : (t450 == t453) = true := beq_iff_eq.mpr c18
 have c18b1 : (t450 != t453) = false := bne_eq_false_iff_eq.mpr c18
 clear c18
 by_cases c19 : t451 = t454
 rotate_left
 · rw [if_neg c19] at H
   exact absurd H (by simp)
 rw [if_pos c19] at H
 have c19b0 : (t451 == t454) = true := beq_iff_eq.mpr c19
 have c19b1 : (t451 != t454) = false := bne_eq_false_iff_eq.mpr c19
 clear c19
 by_cases c20 : (t452 == t455) = true
 rotate_left
 · rw [if_neg c20] at H
   exact absurd H (by simp)
 rw [if_pos c20] at H
 have c20b0 : (t452 == t455) = true := c20
 (try (have c20b1 : decide (t452 = t455) = true := by simpa using c20))
 (try (have c20b2 : (t452 == t455) = true := by simpa using c20))
 clear c20
 replace H := Option.bind_eq_some_iff.mp H
 obtain ⟨t456, A210, H⟩ := H
 replace H : (some t456) = some r := H
 have A21 := Aside0.mk A210
 clear A210
 obtain rfl := Option.some.inj H
 go_enter Try.func7, Try.ntmps7
 go_wp2_with (first | ((with_reducible refine gate_dst (N := 3) rfl ?_); refine box_event rfl (N := 3) rfl (cs := #[.int .i64 a0_0, .int .i64 a0_1, .slice A0_2 l0_2.length c0_2]) (t := 24) sqs ?_; intro gb441 hg w22 hbox hb; have BK441 := sqM (hbox); have GW441 := sqM (sqZ hg (sqB HB.out)); have GE441 := sqM (sqZ hg (sqB HB.out)); replace HB := sqM (below_step (sqB HB.out) hb); clear hb hbox hg; obtain ⟨hcz23_0, hcz23_1, hcz23_2, hfz23_0, hfz23_1, hfz23_2⟩ := sqF3 BK441.out) | ((with_reducible refine gate_callee (f := 14) rfl ?_); refine goesL_ (some 20) rfl rfl Try.func14 (by kernel_rfl) rfl #[.agg #[.int .i64 a0_0, .int .i64 a0_1, .slice A0_2 l0_2.length c0_2]] rfl sqA ?_; (with_reducible refine (boarderlaw13_Great.calls _ _ _ _ _ _ _ _ ?side1 ?side2 A4.out).mono ?_); (case side1 => repeat (first | exact (Kd.C_below HR0_2.out HB.out) | (with_reducible refine Kd.C_alloc ?_ _) | (with_reducible refine Kd.C_drewN ?_ _) | (with_reducible refine Kd.C_drew ?_))); (case side2 => exact HC0_2.out); rintro e w24 ⟨rfl, hb⟩; refine ⟨_, rfl, ?_⟩; replace BK441 := sqM (blk_below (sqK BK441.out) hb); replace HB := sqM (below_step (sqB1 HB.out GE441.out) hb); (try clear hb); (try clear hb2); (try clear hk); (try clear hi); obtain ⟨hcz25_0, hcz25_1, hcz25_2, hfz25_0, hfz25_1, hfz25_2⟩ := sqF3 BK441.out) | ((with_reducible refine gate_callee (f := 24) rfl ?_); refine goesL_ (some 25) rfl rfl Try.func24 (by kernel_rfl) rfl #[.agg #[.int .i64 a0_0, .int .i64 a0_1, .slice A0_2 l0_2.length c0_2], .int .i64 a1] rfl sqA ?_; (with_reducible refine (conf_Find.calls _ _ _ _ _ _ _ _ _ _ _ ?side1 ?side2 A11.out).mono ?_); (case side1 => repeat (first | exact (Kd.C_below HR0_2.out HB.out) | (with_reducible refine Kd.C_alloc ?_ _) | (with_reducible refine Kd.C_drewN ?_ _) | (with_reducible refine Kd.C_drew ?_))); (case side2 => exact HC0_2.out); rintro e w26 ⟨rfl, hb⟩; refine ⟨_, rfl, ?_⟩; replace BK441 := sqM (blk_below (sqK BK441.out) hb); replace HB := sqM (below_step (sqB1 HB.out GE441.out) hb); (try clear hb); (try clear hb2); (try clear hk); (try clear hi); obtain ⟨hcz27_0, hcz27_1, hcz27_2, hfz27_0, hfz27_1, hfz27_2⟩ := sqF3 BK441.out) | ((with_reducible refine gate_callee (f := 25) rfl ?_); refine goesL_ (some 32) rfl rfl Try.func25 (by kernel_rfl) rfl #[.agg #[.int .i64 a0_0, .int .i64 a0_1, .slice A0_2 l0_2.length c0_2], .int .i64 a1] rfl sqA ?_; (with_reducible refine (boarderref13_Find.calls _ _ _ _ _ _ _ _ _ _ _ ?side1 ?side2 A12.out).mono ?_); (case side1 => repeat (first | exact (Kd.C_below HR0_2.out HB.out) | (with_reducible refine Kd.C_alloc ?_ _) | (with_reducible refine Kd.C_drewN ?_ _) | (with_reducible refine Kd.C_drew ?_))); (case side2 => exact HC0_2.out); rintro e w28 ⟨rfl, hb⟩; refine ⟨_, rfl, ?_⟩; replace BK441 := sqM (blk_below (sqK BK441.out) hb); replace HB := sqM (below_step (sqB1 HB.out GE441.out) hb); (try clear hb); (try clear hb2); (try clear hk); (try clear hi); obtain ⟨hcz29_0, hcz29_1, hcz29_2, hfz29_0, hfz29_1, hfz29_2⟩ := sqF3 BK441.out) | ((with_reducible refine gate_callee (f := 26) rfl ?_); refine goesL_ (some 39) rfl rfl Try.func26 (by kernel_rfl) rfl #[.agg #[.int .i64 a0_0, .int .i64 a0_1, .slice A0_2 l0_2.length c0_2], .int .i64 a2] rfl sqA ?_; (with_reducible refine (conf_OnWire.calls _ _ _ _ _ _ _ _ _ _ _ ?side1 ?side2 A13.out).mono ?_); (case side1 => repeat (first | exact (Kd.C_below HR0_2.out HB.out) | (with_reducible refine Kd.C_alloc ?_ _) | (with_reducible refine Kd.C_drewN ?_ _) | (with_reducible refine Kd.C_drew ?_))); (case side2 => exact HC0_2.out); rintro e w30 ⟨rfl, hb⟩; refine ⟨_, rfl, ?_⟩; replace BK441 := sqM (blk_below (sqK BK441.out) hb); replace HB := sqM (below_step (sqB1 HB.out GE441.out) hb); (try clear hb); (try clear hb2); (try clear hk); (try clear hi); obtain ⟨hcz31_0, hcz31_1, hcz31_2, hfz31_0, hfz31_1, hfz31_2⟩ := sqF3 BK441.out) | ((with_reducible refine gate_callee (f := 27) rfl ?_); refine goesL_ (some 46) rfl rfl Try.func27 (by kernel_rfl) rfl #[.agg #[.int .i64 a0_0, .int .i64 a0_1, .slice A0_2 l0_2.length c0_2], .int .i64 a2] rfl sqA ?_; (with_reducible refine (boarderref13_OnWire.calls _ _ _ _ _ _ _ _ _ _ _ ?side1 ?side2 A14.out).mono ?_); (case side1 => repeat (first | exact (Kd.C_below HR0_2.out HB.out) | (with_reducible refine Kd.C_alloc ?_ _) | (with_reducible refine Kd.C_drewN ?_ _) | (with_reducible refine Kd.C_drew ?_))); (case side2 => exact HC0_2.out); rintro e w32 ⟨rfl, hb⟩; refine ⟨_, rfl, ?_⟩; replace BK441 := sqM (blk_below (sqK BK441.out) hb); replace HB := sqM (below_step (sqB1 HB.out GE441.out) hb); (try clear hb); (try clear hb2); (try clear hk); (try clear hi)) | (go_at_call 15; (with_reducible refine (boarderlaw13_knows.calls k  t456 _ A21.out).mono ?_); rintro e w33 ⟨rfl, hb⟩; replace BK441 := sqM (blk_below (sqK BK441.out) hb); replace HB := sqM (below_step (sqB1 HB.out GE441.out) hb); (try clear hb); (try clear hb2); (try clear hk); (try clear hi)))
 go_ret
 exact ⟨sqE, sqB1 HB.out GE441.out⟩

end Go.Proofs.Ytdcabfonjmeajaa.PConf
