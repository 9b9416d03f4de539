/- Lean functions for Go functions of the given program, and proofs that the code computes them, each under its theorem's own conditions. Written by a program of this session. -/
import Derived.Test.YtdcabfonjmeajaaPConfx0
import Derived.Test.YtdcabfonjmeajaaPConfx1
import Derived.Test.YtdcabfonjmeajaaPConfx6
import Derived.Test.YtdcabfonjmeajaaPConfx7
import Derived.Test.YtdcabfonjmeajaaPConfx13
import Derived.Test.YtdcabfonjmeajaaPConfx16
namespace Go.Proofs.Ytdcabfonjmeajaa.PConf
open Go.RowKit Go.Proofs.YtdcabfonjmeajaaW.PrintWords Go.Proofs.YtdcabfonjmeajaaW.PrintLast Go.Proofs.YtdcabfonjmeajaaW.PrintMore
attribute [local go_sem] max2_int min2_int max_two min_two max_three min_three max_four min_four   -- for this text's walks alone
set_option linter.unusedVariables false
set_option linter.unusedSimpArgs false

/-! ### boarderref13_InPool: function 23 -/
mutual
def boarderref13_InPool.j0 : Nat → Int → Int → Bool → Int → Int → List (S41) → Option (Bool)
  | 0, _, _, _, _, _, _ => none
  | k + 1, x1, x2, x23, x367000, x367001, x367002 => if x23 = true then (some false) else (if 0 ≤ x1 then (if x1 < (x367002.length : Int) then (boarderref13_InPool.l0 k x2 ((rd_T41 x367002 x1).f0) 0) else (none)) else (none))
def boarderref13_InPool.l0 : Nat → Int → List (S57) → Int → Option (Bool)
  | 0, _, _, _ => none
  | k + 1, x2, x7, x8 => if x8 < (x7.length : Int) then (boarderref13_InPool.l1 k x2 x7 x8 0) else (some false)
def boarderref13_InPool.l1 : Nat → Int → List (S57) → Int → Int → Option (Bool)
  | 0, _, _, _, _ => none
  | k + 1, x2, x7, x8, x9 => if 0 ≤ x8 then (if x8 < (x7.length : Int) then (if x9 < (((rd_T57 x7 x8).f2).length : Int) then (if 0 ≤ x9 then (if x2 ≥ ((rd_T62 ((rd_T57 x7 x8).f2) x9).f0) then (if x2 ≤ ((rd_T62 ((rd_T57 x7 x8).f2) x9).f1) then (some true) else (boarderref13_InPool.l1 k x2 x7 x8 (wrap64 (x9 + 1)))) else (boarderref13_InPool.l1 k x2 x7 x8 (wrap64 (x9 + 1)))) else (none)) else (boarderref13_InPool.l0 k x2 x7 (wrap64 (x8 + 1)))) else (none)) else (none)
end
def boarderref13_InPool.f (k : Nat) (a0_0 : Int) (a0_1 : Int) (l0_2 : List (S41)) (a1 : Int) (a2 : Int) : Option (Bool) := (boarderref13_Check.f k a0_0 a0_1 l0_2).bind fun t367 => (if t367 = 0 then (if a1 < 0 then (boarderref13_InPool.j0 k a1 a2 true a0_0 a0_1 l0_2) else (boarderref13_InPool.j0 k a1 a2 (decide (a1 ≥ (l0_2.length : Int))) a0_0 a0_1 l0_2)) else (boarderref13_InPool.j0 k a1 a2 true a0_0 a0_1 l0_2))
set_option maxHeartbeats 8000000 in
set_option maxRecDepth 100000 in
theorem boarderref13_InPool.calls (k : Nat) (a0_0 : Int) (a0_1 : Int) (A0_2 : Option Addr) (c0_2 : Nat) (l0_2 : List (S41)) (a1 : Int) (a2 : Int) (r : Bool) (w : World) (hr0_2 : Kd.C k41 w A0_2 l0_2.length l0_2) (hc0_2 : l0_2.length ≤ c0_2) (h : boarderref13_InPool.f k a0_0 a0_1 l0_2 a1 a2 = some r) :
    Calls Try.prog 23 #[.agg #[.int .i64 a0_0, .int .i64 a0_1, .slice A0_2 l0_2.length c0_2], .int .i64 a1, .int .i64 a2] w fun e w' => e = .returned (.bool r) ∧ Below w.heap.size w w' := by
 have hu24 := Try.underlying24
 have HR0_2 := Aside0.mk hr0_2
 have HC0_2 := Aside0.mk hc0_2
 clear hr0_2 hc0_2
 have HB := Aside0.mk (Below.refl w.heap.size w)
 have H : ((boarderref13_Check.f k a0_0 a0_1 l0_2).bind fun t367 => (if t367 = 0 then (if a1 < 0 then (boarderref13_InPool.j0 k a1 a2 true a0_0 a0_1 l0_2) else (boarderref13_InPool.j0 k a1 a2 (decide (a1 ≥ (l0_2.length : Int))) a0_0 a0_1 l0_2)) else (boarderref13_InPool.j0 k a1 a2 true a0_0 a0_1 l0_2))) = some r := h
 clear h
 have HC4 := Aside0.mk H
 clear H
 go_enter Try.func23, Try.ntmps23
 go_upto_region 1 with (first | ((with_reducible refine gate_dst (N := 3) rfl ?_); (try (refine gate_guard (by rfl) ?_; dsimp only)); refine box_event rfl (N := 3) rfl (cs := #[.int .i64 a0_0, .int .i64 a0_1, .slice A0_2 l0_2.length c0_2]) (t := 24) sqs ?_; intro gb366 hg w5 hbox hb; have BK366 := sqM (hbox); have GW366 := sqM (sqZ hg (sqB HB.out)); have GE366 := sqM (sqZ hg (sqB HB.out)); replace HB := sqM (below_step (sqB HB.out) hb); clear hb hbox hg))
 (try simp only [Act.put, List.setIfInBounds_toArray, List.set_cons_zero, List.set_cons_succ])
 go_cut [23] (fun v23 wc => ∃ (kq : Nat) (x23_3 : Bool), v23 = .bool x23_3 ∧ Aside0 (boarderref13_InPool.j0 kq a1 a2 x23_3 a0_0 a0_1 l0_2 = some r) ∧ Aside0 (kq ≤ k) ∧ Aside0 (wc.heap[gb366]? = some (.cells #[.int .i64 a0_0, .int .i64 a0_1, (.slice A0_2 l0_2.length c0_2)] 24 (0, 0))) ∧ Aside0 (Below w.heap.size w wc))
 case first =>
  have H := HC4.out
  clear HC4
  replace H := Option.bind_eq_some_iff.mp H
  obtain ⟨t367, A60, H⟩ := H
  replace H : (if t367 = 0 then (if a1 < 0 then (boarderref13_InPool.j0 k a1 a2 true a0_0 a0_1 l0_2) else (boarderref13_InPool.j0 k a1 a2 (decide (a1 ≥ (l0_2.length : Int))) a0_0 a0_1 l0_2)) else (boarderref13_InPool.j0 k a1 a2 true a0_0 a0_1 l0_2)) = some r := H
  have A6 := Aside0.mk A60
  clear A60
  by_cases c7 : t367 = 0
  rotate_left
  · rw [if_neg c7] at H
    have c7b0 : (t367 == 0) = false := beq_eq_false_iff_ne.mpr c7
    have c7b1 : (t367 != 0) = true := bne_iff_ne.mpr c7
    (first | rw [c7b0] | (simp only [i64_w, i32_w]; rw [c7b0]) | skip)
    have H' := Aside0.mk H
    clear H
    obtain ⟨hcz14_0, hcz14_1, hcz14_2, hfz14_0, hfz14_1, hfz14_2⟩ := sqF3 BK366.out
    go_wp2_with (first | ((with_reducible refine gate_callee (f := 17) rfl ?_); refine goesL_ (some 11) rfl rfl Try.func17 (by kernel_rfl) rfl #[.agg #[.int .i64 a0_0, .int .i64 a0_1, .slice A0_2 l0_2.length c0_2]] rfl sqA ?_; (with_reducible refine (boarderref13_Check.calls _ _ _ _ _ _ _ _ ?side1 ?side2 A6.out).mono ?_); (case side1 => repeat (first | exact (Kd.C_below HR0_2.out HB.out) | (with_reducible refine Kd.C_alloc ?_ _) | (with_reducible refine Kd.C_drewN ?_ _) | (with_reducible refine Kd.C_drew ?_))); (case side2 => exact HC0_2.out); rintro e w15 ⟨rfl, hb⟩; refine ⟨_, rfl, ?_⟩; replace BK366 := sqM (blk_below (sqK BK366.out) hb); replace HB := sqM (below_step (sqB1 HB.out GE366.out) hb); (try clear hb); (try clear hb2); (try clear hk); (try clear hi)))
    go_meet
    case rel => exact ⟨_, (true), sqI, H', ⟨by first | omega | exact Nat.le_refl _⟩, ⟨sqK BK366.out⟩, ⟨sqB1 HB.out GE366.out⟩⟩
  rw [if_pos c7] at H
  have c7b0 : (t367 == 0) = true := beq_iff_eq.mpr c7
  have c7b1 : (t367 != 0) = false := bne_eq_false_iff_eq.mpr c7
  clear c7
  (first | rw [c7b0] | (simp only [i64_w, i32_w]; rw [c7b0]) | skip)
  by_cases c8 : a1 < 0
  · rw [if_pos c8] at H
    have c8b0 : decide (a1 < 0) = true := decide_eq_true c8
    clear c8
    have H' := Aside0.mk H
    clear H
    obtain ⟨hcz9_0, hcz9_1, hcz9_2, hfz9_0, hfz9_1, hfz9_2⟩ := sqF3 BK366.out
    go_wp2_with (first | ((with_reducible refine gate_callee (f := 17) rfl ?_); refine goesL_ (some 11) rfl rfl Try.func17 (by kernel_rfl) rfl #[.agg #[.int .i64 a0_0, .int .i64 a0_1, .slice A0_2 l0_2.length c0_2]] rfl sqA ?_; (with_reducible refine (boarderref13_Check.calls _ _ _ _ _ _ _ _ ?side1 ?side2 A6.out).mono ?_); (case side1 => repeat (first | exact (Kd.C_below HR0_2.out HB.out) | (with_reducible refine Kd.C_alloc ?_ _) | (with_reducible refine Kd.C_drewN ?_ _) | (with_reducible refine Kd.C_drew ?_))); (case side2 => exact HC0_2.out); rintro e w10 ⟨rfl, hb⟩; refine ⟨_, rfl, ?_⟩; replace BK366 := sqM (blk_below (sqK BK366.out) hb); replace HB := sqM (below_step (sqB1 HB.out GE366.out) hb); (try clear hb); (try clear hb2); (try clear hk); (try clear hi)))
    go_meet
    case rel => exact ⟨_, (true), sqI, H', ⟨by first | omega | exact Nat.le_refl _⟩, ⟨sqK BK366.out⟩, ⟨sqB1 HB.out GE366.out⟩⟩
  rw [if_neg c8] at H
  have c8b0 : decide (a1 < 0) = false := decide_eq_false c8
  clear c8
  have H' := Aside0.mk H
  clear H
  obtain ⟨hcz11_0, hcz11_1, hcz11_2, hfz11_0, hfz11_1, hfz11_2⟩ := sqF3 BK366.out
  go_wp2_with (first | ((with_reducible refine gate_callee (f := 17) rfl ?_); refine goesL_ (some 11) rfl rfl Try.func17 (by kernel_rfl) rfl #[.agg #[.int .i64 a0_0, .int .i64 a0_1, .slice A0_2 l0_2.length c0_2]] rfl sqA ?_; (with_reducible refine (boarderref13_Check.calls _ _ _ _ _ _ _ _ ?side1 ?side2 A6.out).mono ?_); (case side1 => repeat (first | exact (Kd.C_below HR0_2.out HB.out) | (with_reducible refine Kd.C_alloc ?_ _) | (with_reducible refine Kd.C_drewN ?_ _) | (with_reducible refine Kd.C_drew ?_))); (case side2 => exact HC0_2.out); rintro e w12 ⟨rfl, hb⟩; refine ⟨_, rfl, ?_⟩; replace BK366 := sqM (blk_below (sqK BK366.out) hb); replace HB := sqM (below_step (sqB1 HB.out GE366.out) hb); (try clear hb); (try clear hb2); (try clear hk); (try clear hi); obtain ⟨hcz13_0, hcz13_1, hcz13_2, hfz13_0, hfz13_1, hfz13_2⟩ := sqF3 BK366.out))
  go_meet
  case rel => exact ⟨_, (decide (a1 ≥ (l0_2.length : Int))), sqI, H', ⟨by first | omega | exact Nat.le_refl _⟩, ⟨sqK BK366.out⟩, ⟨sqB1 HB.out GE366.out⟩⟩
 clear HC4
 try clear c1
 try clear c2
 try clear p2
 try clear c7
 try clear c7b0
 try clear c7b1
 try clear c8
 try clear c8b0
 try clear hcz11_0 hcz11_1 hcz11_2
 try clear hcz13_0 hcz13_1 hcz13_2
 try clear hcz14_0 hcz14_1 hcz14_2
 try clear hcz9_0 hcz9_1 hcz9_2
 try clear hfz11_0 hfz11_1 hfz11_2
 try clear hfz13_0 hfz13_1 hfz13_2
 try clear hfz14_0 hfz14_1 hfz14_2
 try clear hfz9_0 hfz9_1 hfz9_2
 obtain ⟨kq, x23_3, rfl, HA, HJ3, BK366, HB⟩ := hcut
 cases kq with
 | zero => exact absurd HA.out (by simp [boarderref13_InPool.j0])
 | succ kj3 => ?_
 have H := HA.out
 clear HA
 simp only [boarderref13_InPool.j0] at H
 by_cases c16 : x23_3 = true
 · subst c16
   have H1 : (some false) = some r := by rw [if_pos rfl] at H; exact H
   clear H
   have H := H1
   clear H1
   obtain rfl := Option.some.inj H
   go_wp2
   go_ret
   exact ⟨sqE, sqB1 HB.out GE366.out⟩
 replace c16 := Bool.eq_false_iff.mpr c16
 subst c16
 have H1 : (if 0 ≤ a1 then (if a1 < (l0_2.length : Int) then (boarderref13_InPool.l0 kj3 a2 ((rd_T41 l0_2 a1).f0) 0) else (none)) else (none)) = some r := by rw [if_neg (show ¬ (false = true) by decide)] at H; exact H
 clear H
 have H := H1
 clear H1
 by_cases c17 : 0 ≤ a1
 rotate_left
 · rw [if_neg c17] at H
   exact absurd H (by simp)
 rw [if_pos c17] at H
 have c17b0 : decide (0 ≤ a1) = true := decide_eq_true c17
 clear c17
 by_cases c18 : a1 < (l0_2.length : Int)
 rotate_left
 · rw [if_neg c18] at H
   exact absurd H (by simp)
 rw [if_pos c18] at H
 have c18b0 : decide (a1 < (l0_2.length : Int)) = true := decide_eq_true c18
 clear c18
 have H' := Aside0.mk H
 clear H
 obtain ⟨hcz19_0, hcz19_1, hcz19_2, hfz19_0, hfz19_1, hfz19_2⟩ := sqF3 BK366.out
 have p368 : 0 ≤ (a1 : Int) := of_decide_eq_true sqH
 have q368 : a1 < (l0_2.length : Int) := of_decide_eq_true sqH
 obtain ⟨ad368, A368_0, c368_0, e368, hx368_0, hl368_0, hi368_0⟩ := at_T41 HR0_2.out a1 p368 q368
 cases e368
 replace hx368_0 := sqx HB.out hx368_0
 have HR368_0 := Aside0.mk hi368_0
 have HC368_0 := Aside0.mk hl368_0
 clear hi368_0 hl368_0
 replace p368 := eq_true p368
 replace q368 := eq_true q368
 go_wp2
 go_loopg [8] kj3 (fun kq v8 w' => ∃ (x8_2 : Int), v8 = .int .i64 x8_2 ∧ Aside0 (boarderref13_InPool.l0 kq a2 ((rd_T41 l0_2 a1).f0) x8_2 = some r) ∧ Aside0 (kq ≤ kj3) ∧ Aside0 (w'.heap[gb366]? = some (.cells #[.int .i64 a0_0, .int .i64 a0_1, (.slice (some ad368) l0_2.length c0_2)] 24 (0, 0))) ∧ Aside0 (Below w.heap.size w w'))
 case atStart => exact ⟨(0), sqI, H', ⟨Nat.le_refl _⟩, ⟨sqK BK366.out⟩, ⟨sqB1 HB.out GE366.out⟩⟩
 clear H'
 try clear c1
 try clear c2
 try clear p2
 try clear c3
 try clear p3
 try clear q3
 try clear hx3
 try clear c7
 try clear c7b0
 try clear c7b1
 try clear c8
 try clear c8b0
 try clear c16
 try clear c17
 try clear c17b0
 try clear c18
 try clear c18b0
 try clear hcz11_0 hcz11_1 hcz11_2
 try clear hcz13_0 hcz13_1 hcz13_2
 try clear hcz14_0 hcz14_1 hcz14_2
 try clear hcz19_0 hcz19_1 hcz19_2
 try clear hcz9_0 hcz9_1 hcz9_2
 try clear hfz11_0 hfz11_1 hfz11_2
 try clear hfz13_0 hfz13_1 hfz13_2
 try clear hfz14_0 hfz14_1 hfz14_2
 try clear hfz19_0 hfz19_1 hfz19_2
 try clear hfz9_0 hfz9_1 hfz9_2
 try clear hx368_0
 try clear p2
 try clear p368
 try clear q368
 obtain ⟨x8_2, rfl, HA, HK2, BK366, HB⟩ := hrel
 cases gk with
 | zero => exact absurd HA.out (by simp [boarderref13_InPool.l0])
 | succ k2 => ?_
 have H := HA.out
 clear HA
 simp only [boarderref13_InPool.l0] at H
 by_cases c20 : x8_2 < (((rd_T41 l0_2 a1).f0).length : Int)
 rotate_left
 · rw [if_neg c20] at H
   have c20b0 : decide (x8_2 < (((rd_T41 l0_2 a1).f0).length : Int)) = false := decide_eq_false c20
   clear c20
   obtain rfl := Option.some.inj H
   go_wp2
   go_ret
   exact ⟨sqE, sqB1 HB.out GE366.out⟩
 rw [if_pos c20] at H
 have c20b0 : decide (x8_2 < (((rd_T41 l0_2 a1).f0).length : Int)) = true := decide_eq_true c20
 clear c20
 have H' := Aside0.mk H
 clear H
 go_wp2
 go_loopg [9] k2 (fun kq v9 w' => ∃ (x9_3 : Int), v9 = .int .i64 x9_3 ∧ Aside0 (boarderref13_InPool.l1 kq a2 ((rd_T41 l0_2 a1).f0) x8_2 x9_3 = some r) ∧ Aside0 (kq ≤ k2) ∧ Aside0 (w'.heap[gb366]? = some (.cells #[.int .i64 a0_0, .int .i64 a0_1, (.slice (some ad368) l0_2.length c0_2)] 24 (0, 0))) ∧ Aside0 (Below w.heap.size w w'))
 case atStart => exact ⟨(0), sqI, H', ⟨Nat.le_refl _⟩, ⟨sqK BK366.out⟩, ⟨sqB1 HB.out GE366.out⟩⟩
 clear H'
 try clear c1
 try clear c2
 try clear p2
 try clear c3
 try clear p3
 try clear q3
 try clear hx3
 try clear c7
 try clear c7b0
 try clear c7b1
 try clear c8
 try clear c8b0
 try clear c16
 try clear c17
 try clear c17b0
 try clear c18
 try clear c18b0
 try clear c20
 try clear c20b0
 try clear hcz11_0 hcz11_1 hcz11_2
 try clear hcz13_0 hcz13_1 hcz13_2
 try clear hcz14_0 hcz14_1 hcz14_2
 try clear hcz19_0 hcz19_1 hcz19_2
 try clear hcz9_0 hcz9_1 hcz9_2
 try clear hfz11_0 hfz11_1 hfz11_2
 try clear hfz13_0 hfz13_1 hfz13_2
 try clear hfz14_0 hfz14_1 hfz14_2
 try clear hfz19_0 hfz19_1 hfz19_2
 try clear hfz9_0 hfz9_1 hfz9_2
 try clear hx368_0
 try clear p2
 try clear p3
 try clear p368
 try clear q3
 try clear q368
 obtain ⟨x9_3, rfl, HA, HK3, BK366, HB⟩ := hrel
 cases gk with
 | zero => exact absurd HA.out (by simp [boarderref13_InPool.l1])
 | succ k3 => ?_
 have H := HA.out
 clear HA
 simp only [boarderref13_InPool.l1] at H
 by_cases c21 : 0 ≤ x8_2
 rotate_left
 · rw [if_neg c21] at H
   exact absurd H (by simp)
 rw [if_pos c21] at H
 have c21b0 : decide (0 ≤ x8_2) = true := decide_eq_true c21
 clear c21
 by_cases c22 : x8_2 < (((rd_T41 l0_2 a1).f0).length : Int)
 rotate_left
 · rw [if_neg c22] at H
   exact absurd H (by simp)
 rw [if_pos c22] at H
 have c22b0 : decide (x8_2 < (((rd_T41 l0_2 a1).f0).length : Int)) = true := decide_eq_true c22
 clear c22
 by_cases c23 : x9_3 < (((rd_T57 ((rd_T41 l0_2 a1).f0) x8_2).f2).length : Int)
 rotate_left
 · rw [if_neg c23] at H
   have c23b0 : decide (x9_3 < (((rd_T57 ((rd_T41 l0_2 a1).f0) x8_2).f2).length : Int)) = false := decide_eq_false c23
   clear c23
   have H' := Aside0.mk H
   clear H
   have p369 : 0 ≤ (x8_2 : Int) := of_decide_eq_true sqH
   have q369 : x8_2 < (((rd_T41 l0_2 a1).f0).length : Int) := of_decide_eq_true sqH
   obtain ⟨ad369, A369_2, c369_2, A369_3, c369_3, e369, hx369_0, hx369_1, hx369_2, hx369_3, hx369_4, hx369_5, hx369_6, hl369_2, hi369_2, hl369_3, hi369_3⟩ := at_T57 HR368_0.out x8_2 p369 q369
   cases e369
   replace hx369_0 := sqx HB.out hx369_0
   replace hx369_1 := sqx HB.out hx369_1
   replace hx369_2 := sqx HB.out hx369_2
   replace hx369_3 := sqx HB.out hx369_3
   replace hx369_4 := sqx HB.out hx369_4
   replace hx369_5 := sqx HB.out hx369_5
   replace hx369_6 := sqx HB.out hx369_6
   have HR369_2 := sqM hi369_2
   have HC369_2 := sqM hl369_2
   clear hi369_2 hl369_2
   have HR369_3 := sqM hi369_3
   have HC369_3 := sqM hl369_3
   clear hi369_3 hl369_3
   replace p369 := eq_true p369
   replace q369 := eq_true q369
   go_wp2
   go_roundg k3
   case measure => have := HJ3.out; have := HK2.out; have := HK3.out; omega
   case rel => exact ⟨(wrap64 (x8_2 + 1)), sqI, H', ⟨by have := HJ3.out; have := HK2.out; have := HK3.out; omega⟩, ⟨sqK BK366.out⟩, ⟨sqB1 HB.out GE366.out⟩⟩
 rw [if_pos c23] at H
 have c23b0 : decide (x9_3 < (((rd_T57 ((rd_T41 l0_2 a1).f0) x8_2).f2).length : Int)) = true := decide_eq_true c23
 clear c23
 by_cases c24 : 0 ≤ x9_3
 rotate_left
 · rw [if_neg c24] at H
   exact absurd H (by simp)
 rw [if_pos c24] at H
 have c24b0 : decide (0 ≤ x9_3) = true := decide_eq_true c24
 clear c24
 by_cases c25 : a2 ≥ ((rd_T62 ((rd_T57 ((rd_T41 l0_2 a1).f0) x8_2).f2) x9_3).f0)
 rotate_left
 · rw [if_neg c25] at H
   have c25b0 : decide (((rd_T62 ((rd_T57 ((rd_T41 l0_2 a1).f0) x8_2).f2) x9_3).f0) ≤ a2) = false := decide_eq_false c25
   clear c25
   have H' := Aside0.mk H
   clear H
   have p369 : 0 ≤ (x8_2 : Int) := of_decide_eq_true sqH
   have q369 : x8_2 < (((rd_T41 l0_2 a1).f0).length : Int) := of_decide_eq_true sqH
   obtain ⟨ad369, A369_2, c369_2, A369_3, c369_3, e369, hx369_0, hx369_1, hx369_2, hx369_3, hx369_4, hx369_5, hx369_6, hl369_2, hi369_2, hl369_3, hi369_3⟩ := at_T57 HR368_0.out x8_2 p369 q369
   cases e369
   replace hx369_0 := sqx HB.out hx369_0
   replace hx369_1 := sqx HB.out hx369_1
   replace hx369_2 := sqx HB.out hx369_2
   replace hx369_3 := sqx HB.out hx369_3
   replace hx369_4 := sqx HB.out hx369_4
   replace hx369_5 := sqx HB.out hx369_5
   replace hx369_6 := sqx HB.out hx369_6
   have HR369_2 := sqM hi369_2
   have HC369_2 := sqM hl369_2
   clear hi369_2 hl369_2
   have HR369_3 := sqM hi369_3
   have HC369_3 := sqM hl369_3
   clear hi369_3 hl369_3
   replace p369 := eq_true p369
   replace q369 := eq_true q369
   have p370 : 0 ≤ (x8_2 : Int) := of_decide_eq_true sqH
   have q370 : x8_2 < (((rd_T41 l0_2 a1).f0).length : Int) := of_decide_eq_true sqH
   obtain ⟨ad370, A370_2, c370_2, A370_3, c370_3, e370, hx370_0, hx370_1, hx370_2, hx370_3, hx370_4, hx370_5, hx370_6, hl370_2, hi370_2, hl370_3, hi370_3⟩ := at_T57 HR368_0.out x8_2 p370 q370
   obtain rfl : ad369 = ad370 := (by injection e370)
   replace hx370_0 := sqx HB.out hx370_0
   replace hx370_1 := sqx HB.out hx370_1
   replace hx370_2 := sqx HB.out hx370_2
   replace hx370_3 := sqx HB.out hx370_3
   replace hx370_4 := sqx HB.out hx370_4
   replace hx370_5 := sqx HB.out hx370_5
   replace hx370_6 := sqx HB.out hx370_6
   have HR370_2 := sqM hi370_2
   have HC370_2 := sqM hl370_2
   clear hi370_2 hl370_2
   have HR370_3 := sqM hi370_3
   have HC370_3 := sqM hl370_3
   clear hi370_3 hl370_3
   replace p370 := eq_true p370
   replace q370 := eq_true q370
   have ea_ := Option.some.inj (hx369_2.symm.trans hx370_2)
   injection ea_ with ea_ en_ ec_
   subst ea_
   subst ec_
   clear en_
   have ea_ := Option.some.inj (hx369_3.symm.trans hx370_3)
   injection ea_ with ea_ en_ ec_
   subst ea_
   subst ec_
   clear en_
   have p371 : 0 ≤ (x9_3 : Int) := of_decide_eq_true sqH
   have q371 : x9_3 < (((rd_T57 ((rd_T41 l0_2 a1).f0) x8_2).f2).length : Int) := of_decide_eq_true sqH
   obtain ⟨ad371, e371, hx371_0, hx371_1⟩ := at_T62 HR370_2.out x9_3 p371 q371
   cases e371
   replace hx371_0 := sqx HB.out hx371_0
   replace hx371_1 := sqx HB.out hx371_1
   replace p371 := eq_true p371
   replace q371 := eq_true q371
   go_wp2
   go_roundg k3
   case measure => have := HJ3.out; have := HK2.out; have := HK3.out; omega
   case rel => exact ⟨(wrap64 (x9_3 + 1)), sqI, H', ⟨by have := HJ3.out; have := HK2.out; have := HK3.out; omega⟩, ⟨sqK BK366.out⟩, ⟨sqB1 HB.out GE366.out⟩⟩
 rw [if_pos c25] at H
 have c25b0 : decide (((rd_T62 ((rd_T57 ((rd_T41 l0_2 a1).f0) x8_2).f2) x9_3).f0) ≤ a2) = true := decide_eq_true c25
 clear c25
 by_cases c26 : a2 ≤ ((rd_T62 ((rd_T57 ((rd_T41 l0_2 a1).f0) x8_2).f2) x9_3).f1)
 · rw [if_pos c26] at H
   have c26b0 : decide (a2 ≤ ((rd_T62 ((rd_T57 ((rd_T41 l0_2 a1).f0) x8_2).f2) x9_3).f1)) = true := decide_eq_true c26
   clear c26
   obtain rfl := Option.some.inj H
   have p369 : 0 ≤ (x8_2 : Int) := of_decide_eq_true sqH
   have q369 : x8_2 < (((rd_T41 l0_2 a1).f0).length : Int) := of_decide_eq_true sqH
   obtain ⟨ad369, A369_2, c369_2, A369_3, c369_3, e369, hx369_0, hx369_1, hx369_2, hx369_3, hx369_4, hx369_5, hx369_6, hl369_2, hi369_2, hl369_3, hi369_3⟩ := at_T57 HR368_0.out x8_2 p369 q369
   cases e369
   replace hx369_0 := sqx HB.out hx369_0
   replace hx369_1 := sqx HB.out hx369_1
   replace hx369_2 := sqx HB.out hx369_2
   replace hx369_3 := sqx HB.out hx369_3
   replace hx369_4 := sqx HB.out hx369_4
   replace hx369_5 := sqx HB.out hx369_5
   replace hx369_6 := sqx HB.out hx369_6
   have HR369_2 := sqM hi369_2
   have HC369_2 := sqM hl369_2
   clear hi369_2 hl369_2
   have HR369_3 := sqM hi369_3
   have HC369_3 := sqM hl369_3
   clear hi369_3 hl369_3
   replace p369 := eq_true p369
   replace q369 := eq_true q369
   have p370 : 0 ≤ (x8_2 : Int) := of_decide_eq_true sqH
   have q370 : x8_2 < (((rd_T41 l0_2 a1).f0).length : Int) := of_decide_eq_true sqH
   obtain ⟨ad370, A370_2, c370_2, A370_3, c370_3, e370, hx370_0, hx370_1, hx370_2, hx370_3, hx370_4, hx370_5, hx370_6, hl370_2, hi370_2, hl370_3, hi370_3⟩ := at_T57 HR368_0.out x8_2 p370 q370
   obtain rfl : ad369 = ad370 := (by injection e370)
   replace hx370_0 := sqx HB.out hx370_0
   replace hx370_1 := sqx HB.out hx370_1
   replace hx370_2 := sqx HB.out hx370_2
   replace hx370_3 := sqx HB.out hx370_3
   replace hx370_4 := sqx HB.out hx370_4
   replace hx370_5 := sqx HB.out hx370_5
   replace hx370_6 := sqx HB.out hx370_6
   have HR370_2 := sqM hi370_2
   have HC370_2 := sqM hl370_2
   clear hi370_2 hl370_2
   have HR370_3 := sqM hi370_3
   have HC370_3 := sqM hl370_3
   clear hi370_3 hl370_3
   replace p370 := eq_true p370
   replace q370 := eq_true q370
   have ea_ := Option.some.inj (hx369_2.symm.trans hx370_2)
   injection ea_ with ea_ en_ ec_
   subst ea_
   subst ec_
   clear en_
   have ea_ := Option.some.inj (hx369_3.symm.trans hx370_3)
   injection ea_ with ea_ en_ ec_
   subst ea_
   subst ec_
   clear en_
   have p371 : 0 ≤ (x9_3 : Int) := of_decide_eq_true sqH
   have q371 : x9_3 < (((rd_T57 ((rd_T41 l0_2 a1).f0) x8_2).f2).length : Int) := of_decide_eq_true sqH
   obtain ⟨ad371, e371, hx371_0, hx371_1⟩ := at_T62 HR370_2.out x9_3 p371 q371
   cases e371
   replace hx371_0 := sqx HB.out hx371_0
   replace hx371_1 := sqx HB.out hx371_1
   replace p371 := eq_true p371
   replace q371 := eq_true q371
   have p372 : 0 ≤ (x8_2 : Int) := of_decide_eq_true sqH
   have q372 : x8_2 < (((rd_T41 l0_2 a1).f0).length : Int) := of_decide_eq_true sqH
   obtain ⟨ad372, A372_2, c372_2, A372_3, c372_3, e372, hx372_0, hx372_1, hx372_2, hx372_3, hx372_4, hx372_5, hx372_6, hl372_2, hi372_2, hl372_3, hi372_3⟩ := at_T57 HR368_0.out x8_2 p372 q372
   obtain rfl : ad369 = ad372 := (by injection e372)
   replace hx372_0 := sqx HB.out hx372_0
   replace hx372_1 := sqx HB.out hx372_1
   replace hx372_2 := sqx HB.out hx372_2
   replace hx372_3 := sqx HB.out hx372_3
   replace hx372_4 := sqx HB.out hx372_4
   replace hx372_5 := sqx HB.out hx372_5
   replace hx372_6 := sqx HB.out hx372_6
   have HR372_2 := sqM hi372_2
   have HC372_2 := sqM hl372_2
   clear hi372_2 hl372_2
   have HR372_3 := sqM hi372_3
   have HC372_3 := sqM hl372_3
   clear hi372_3 hl372_3
   replace p372 := eq_true p372
   replace q372 := eq_true q372
   have ea_ := Option.some.inj (hx369_2.symm.trans hx372_2)
   injection ea_ with ea_ en_ ec_
   subst ea_
   subst ec_
   clear en_
   have ea_ := Option.some.inj (hx369_3.symm.trans hx372_3)
   injection ea_ with ea_ en_ ec_
   subst ea_
   subst ec_
   clear en_
   have p373 : 0 ≤ (x9_3 : Int) := of_decide_eq_true sqH
   have q373 : x9_3 < (((rd_T57 ((rd_T41 l0_2 a1).f0) x8_2).f2).length : Int) := of_decide_eq_true sqH
   obtain ⟨ad373, e373, hx373_0, hx373_1⟩ := at_T62 HR372_2.out x9_3 p373 q373
   cases e373
   replace hx373_0 := sqx HB.out hx373_0
   replace hx373_1 := sqx HB.out hx373_1
   replace p373 := eq_true p373
   replace q373 := eq_true q373
   go_wp2
   go_ret
   exact ⟨sqE, sqB1 HB.out GE366.out⟩
 rw [if_neg c26] at H
 have c26b0 : decide (a2 ≤ ((rd_T62 ((rd_T57 ((rd_T41 l0_2 a1).f0) x8_2).f2) x9_3).f1)) = false := decide_eq_false c26
 clear c26
 have H' := Aside0.mk H
 clear H
 have p369 : 0 ≤ (x8_2 : Int) := of_decide_eq_true sqH
 have q369 : x8_2 < (((rd_T41 l0_2 a1).f0).length : Int) := of_decide_eq_true sqH
 obtain ⟨ad369, A369_2, c369_2, A369_3, c369_3, e369, hx369_0, hx369_1, hx369_2, hx369_3, hx369_4, hx369_5, hx369_6, hl369_2, hi369_2, hl369_3, hi369_3⟩ := at_T57 HR368_0.out x8_2 p369 q369
 cases e369
 replace hx369_0 := sqx HB.out hx369_0
 replace hx369_1 := sqx HB.out hx369_1
 replace hx369_2 := sqx HB.out hx369_2
 replace hx369_3 := sqx HB.out hx369_3
 replace hx369_4 := sqx HB.out hx369_4
 replace hx369_5 := sqx HB.out hx369_5
 replace hx369_6 := sqx HB.out hx369_6
 have HR369_2 := sqM hi369_2
 have HC369_2 := sqM hl369_2
 clear hi369_2 hl369_2
 have HR369_3 := sqM hi369_3
 have HC369_3 := sqM hl369_3
 clear hi369_3 hl369_3
 replace p369 := eq_true p369
 replace q369 := eq_true q369
 have p370 : 0 ≤ (x8_2 : Int) := of_decide_eq_true sqH
 have q370 : x8_2 < (((rd_T41 l0_2 a1).f0).length : Int) := of_decide_eq_true sqH
 obtain ⟨ad370, A370_2, c370_2, A370_3, c370_3, e370, hx370_0, hx370_1, hx370_2, hx370_3, hx370_4, hx370_5, hx370_6, hl370_2, hi370_2, hl370_3, hi370_3⟩ := at_T57 HR368_0.out x8_2 p370 q370
 obtain rfl : ad369 = ad370 := (by injection e370)
 replace hx370_0 := sqx HB.out hx370_0
 replace hx370_1 := sqx HB.out hx370_1
 replace hx370_2 := sqx HB.out hx370_2
 replace hx370_3 := sqx HB.out hx370_3
 replace hx370_4 := sqx HB.out hx370_4
 replace hx370_5 := sqx HB.out hx370_5
 replace hx370_6 := sqx HB.out hx370_6
 have HR370_2 := sqM hi370_2
 have HC370_2 := sqM hl370_2
 clear hi370_2 hl370_2
 have HR370_3 := sqM hi370_3
 have HC370_3 := sqM hl370_3
 clear hi370_3 hl370_3
 replace p370 := eq_true p370
 replace q370 := eq_true q370
 have ea_ := Option.some.inj (hx369_2.symm.trans hx370_2)
 injection ea_ with ea_ en_ ec_
 subst ea_
 subst ec_
 clear en_
 have ea_ := Option.some.inj (hx369_3.symm.trans hx370_3)
 injection ea_ with ea_ en_ ec_
 subst ea_
 subst ec_
 clear en_
 have p371 : 0 ≤ (x9_3 : Int) := of_decide_eq_true sqH
 have q371 : x9_3 < (((rd_T57 ((rd_T41 l0_2 a1).f0) x8_2).f2).length : Int) := of_decide_eq_true sqH
 obtain ⟨ad371, e371, hx371_0, hx371_1⟩ := at_T62 HR370_2.out x9_3 p371 q371
 cases e371
 replace hx371_0 := sqx HB.out hx371_0
 replace hx371_1 := sqx HB.out hx371_1
 replace p371 := eq_true p371
 replace q371 := eq_true q371
 have p372 : 0 ≤ (x8_2 : Int) := of_decide_eq_true sqH
 have q372 : x8_2 < (((rd_T41 l0_2 a1).f0).length : Int) := of_decide_eq_true sqH
 obtain ⟨ad372, A372_2, c372_2, A372_3, c372_3, e372, hx372_0, hx372_1, hx372_2, hx372_3, hx372_4, hx372_5, hx372_6, hl372_2, hi372_2, hl372_3, hi372_3⟩ := at_T57 HR368_0.out x8_2 p372 q372
 obtain rfl : ad369 = ad372 := (by injection e372)
 replace hx372_0 := sqx HB.out hx372_0
 replace hx372_1 := sqx HB.out hx372_1
 replace hx372_2 := sqx HB.out hx372_2
 replace hx372_3 := sqx HB.out hx372_3
 replace hx372_4 := sqx HB.out hx372_4
 replace hx372_5 := sqx HB.out hx372_5
 replace hx372_6 := sqx HB.out hx372_6
 have HR372_2 := sqM hi372_2
 have HC372_2 := sqM hl372_2
 clear hi372_2 hl372_2
 have HR372_3 := sqM hi372_3
 have HC372_3 := sqM hl372_3
 clear hi372_3 hl372_3
 replace p372 := eq_true p372
 replace q372 := eq_true q372
 have ea_ := Option.some.inj (hx369_2.symm.trans hx372_2)
 injection ea_ with ea_ en_ ec_
 subst ea_
 subst ec_
 clear en_
 have ea_ := Option.some.inj (hx369_3.symm.trans hx372_3)
 injection ea_ with ea_ en_ ec_
 subst ea_
 subst ec_
 clear en_
 have p373 : 0 ≤ (x9_3 : Int) := of_decide_eq_true sqH
 have q373 : x9_3 < (((rd_T57 ((rd_T41 l0_2 a1).f0) x8_2).f2).length : Int) := of_decide_eq_true sqH
 obtain ⟨ad373, e373, hx373_0, hx373_1⟩ := at_T62 HR372_2.out x9_3 p373 q373
 cases e373
 replace hx373_0 := sqx HB.out hx373_0
 replace hx373_1 := sqx HB.out hx373_1
 replace p373 := eq_true p373
 replace q373 := eq_true q373
 go_wp2
 go_roundg k3
 case measure => have := HJ3.out; have := HK2.out; have := HK3.out; omega
 case rel => exact ⟨(wrap64 (x9_3 + 1)), sqI, H', ⟨by have := HJ3.out; have := HK2.out; have := HK3.out; omega⟩, ⟨sqK BK366.out⟩, ⟨sqB1 HB.out GE366.out⟩⟩

/-! ### boarderlaw13_ConfKeeps: function 4 -/
def boarderlaw13_ConfKeeps.j0 : Nat → Int → Int → ByteArray → Bool → Int → Int → List (S41) → Option (Bool)
  | 0, _, _, _, _, _, _, _ => none
  | k + 1, x1, x2, x3, x23, x375000, x375001, x375002 => if x23 = true then ((boarderlaw13_knows.f k).bind fun t376 => (some t376)) else ((conf_KeptFor.f k x375000 x375001 x375002 x1 x3).bind fun bt377 => ((boarderref13_KeptFor.f k x375000 x375001 x375002 x1 x3).bind fun bt379 => ((conf_Keeper.f k x375000 x375001 x375002 x2).bind fun bt381 => ((boarderref13_Keeper.f k x375000 x375001 x375002 x2).bind fun bt383 => (if bt377.1 = bt379.1 then (if (bt377.2 == bt379.2) = true then (if bt381.1.toList = bt383.1.toList then (if (bt381.2 == bt383.2) = true then ((conf_InPool.f k x375000 x375001 x375002 x1 x2).bind fun t385 => ((boarderref13_InPool.f k x375000 x375001 x375002 x1 x2).bind fun t386 => (if (t385 == t386) = true then ((boarderlaw13_knows.f k).bind fun t387 => (some t387)) else (none)))) else (none)) else (none)) else (none)) else (none))))))
def boarderlaw13_ConfKeeps.f (k : Nat) (a0_0 : Int) (a0_1 : Int) (l0_2 : List (S41)) (a1 : Int) (a2 : Int) (a3 : ByteArray) : Option (Bool) := (boarderlaw13_Great.f k a0_0 a0_1 l0_2).bind fun t375 => (if t375 = true then (boarderlaw13_ConfKeeps.j0 k a1 a2 a3 true a0_0 a0_1 l0_2) else (boarderlaw13_ConfKeeps.j0 k a1 a2 a3 (decide ((a3.size : Int) > 1000)) a0_0 a0_1 l0_2))
def boarderlaw13_ConfKeeps.T7 : Bool × List (List Nat × List Nat) := (true, [([], []), ([], []), ([0, 1], [0, 1]), ([2], [2]), ([3], [3]), ([3], [3]), ([4, 5, 3], [3, 4, 5]), ([3, 6], [3, 6]), ([7, 3], [7]), ([8], [8]), ([8], [8]), ([9, 10, 8], [8, 9, 10]), ([8, 11], [8, 11]), ([12, 8], [12]), ([13], [13]), ([13], [13]), ([14, 15, 13], [13, 14, 15]), ([13, 16], [13, 16]), ([17, 13], [17]), ([18], [18]), ([18], [18]), ([18], [18]), ([19, 20, 21, 18, 18], [18, 19, 20, 21]), ([18], [18]), ([18], [18]), ([18], [18]), ([23, 24, 25, 22, 18], [18, 23, 24, 25]), ([22, 26, 18], [18, 22, 26]), ([18, 27], [18, 27]), ([28, 26], [28]), ([29, 29], [29]), ([29, 30], [29, 30]), ([31, 30, 0, 1, 2, 3, 4, 5, 6, 7, 8, 9, 10, 11, 12, 13, 14, 15, 16, 17, 18, 19, 20, 21, 22, 23, 24, 25, 26, 27, 28, 29, 30, 31], [31])])
def boarderlaw13_ConfKeeps.B7 : List Nat := [0, 0, 3, 7, 15, 15, 63, 127, 255, 511, 511, 2047, 4095, 8191, 16383, 16383, 65535, 131071, 262143, 524287, 524287, 524287, 4194303, 524287, 524287, 524287, 67108863, 134217727, 268435455, 536870911, 1073741823, 2147483647, 4294967295]
theorem boarderlaw13_ConfKeeps.tab7 : rtab .any (opsOf Try.f4 7) = boarderlaw13_ConfKeeps.T7 := by kernel_rfl
theorem boarderlaw13_ConfKeeps.bits7 : waitsOk boarderlaw13_ConfKeeps.T7.2 boarderlaw13_ConfKeeps.B7 = true := by kernel_rfl
set_option maxHeartbeats 8000000 in
set_option maxRecDepth 100000 in
theorem boarderlaw13_ConfKeeps.calls (k : Nat) (a0_0 : Int) (a0_1 : Int) (A0_2 : Option Addr) (c0_2 : Nat) (l0_2 : List (S41)) (a1 : Int) (a2 : Int) (a3 : ByteArray) (r : Bool) (w : World) (hr0_2 : Kd.C k41 w A0_2 l0_2.length l0_2) (hc0_2 : l0_2.length ≤ c0_2) (h : boarderlaw13_ConfKeeps.f k a0_0 a0_1 l0_2 a1 a2 a3 = some r) :
    Calls Try.prog 4 #[.agg #[.int .i64 a0_0, .int .i64 a0_1, .slice A0_2 l0_2.length c0_2], .int .i64 a1, .int .i64 a2, .string a3] w fun e w' => e = .returned (.bool r) ∧ Below w.heap.size w w' := by
 have hu24 := Try.underlying24
 have HR0_2 := Aside0.mk hr0_2
 have HC0_2 := Aside0.mk hc0_2
 clear hr0_2 hc0_2
 have HB := Aside0.mk (Below.refl w.heap.size w)
 have H : ((boarderlaw13_Great.f k a0_0 a0_1 l0_2).bind fun t375 => (if t375 = true then (boarderlaw13_ConfKeeps.j0 k a1 a2 a3 true a0_0 a0_1 l0_2) else (boarderlaw13_ConfKeeps.j0 k a1 a2 a3 (decide ((a3.size : Int) > 1000)) a0_0 a0_1 l0_2))) = some r := h
 clear h
 have HC5 := Aside0.mk H
 clear H
 go_enter Try.func4, Try.ntmps4
 go_upto_region 1 with (first | ((with_reducible refine gate_dst (N := 4) rfl ?_); (try (refine gate_guard (by rfl) ?_; dsimp only)); refine box_event rfl (N := 4) rfl (cs := #[.int .i64 a0_0, .int .i64 a0_1, .slice A0_2 l0_2.length c0_2]) (t := 24) sqs ?_; intro gb374 hg w6 hbox hb; have BK374 := sqM (hbox); have GW374 := sqM (sqZ hg (sqB HB.out)); have GE374 := sqM (sqZ hg (sqB HB.out)); replace HB := sqM (below_step (sqB HB.out) hb); clear hb hbox hg))
 (try simp only [Act.put, List.setIfInBounds_toArray, List.set_cons_zero, List.set_cons_succ])
 go_cut [23] (fun v23 wc => ∃ (kq : Nat) (x23_4 : Bool), v23 = .bool x23_4 ∧ Aside0 (boarderlaw13_ConfKeeps.j0 kq a1 a2 a3 x23_4 a0_0 a0_1 l0_2 = some r) ∧ Aside0 (kq ≤ k) ∧ Aside0 (wc.heap[gb374]? = some (.cells #[.int .i64 a0_0, .int .i64 a0_1, (.slice A0_2 l0_2.length c0_2)] 24 (0, 0))) ∧ Aside0 (Below w.heap.size w wc))
 case first =>
  have H := HC5.out
  clear HC5
  replace H := Option.bind_eq_some_iff.mp H
  obtain ⟨t375, A70, H⟩ := H
  replace H : (if t375 = true then (boarderlaw13_ConfKeeps.j0 k a1 a2 a3 true a0_0 a0_1 l0_2) else (boarderlaw13_ConfKeeps.j0 k a1 a2 a3 (decide ((a3.size : Int) > 1000)) a0_0 a0_1 l0_2)) = some r := H
  have A7 := Aside0.mk A70
  clear A70
  by_cases c8 : t375 = true
  · subst c8
    have H1 : (boarderlaw13_ConfKeeps.j0 k a1 a2 a3 true a0_0 a0_1 l0_2) = some r := by rw [if_pos rfl] at H; exact H
    clear H
    have H := H1
    clear H1
    have H' := Aside0.mk H
    clear H
    obtain ⟨hcz9_0, hcz9_1, hcz9_2, hfz9_0, hfz9_1, hfz9_2⟩ := sqF3 BK374.out
    go_wp2_with (first | ((with_reducible refine gate_callee (f := 14) rfl ?_); refine goesL_ (some 18) rfl rfl Try.func14 (by kernel_rfl) rfl #[.agg #[.int .i64 a0_0, .int .i64 a0_1, .slice A0_2 l0_2.length c0_2]] rfl sqA ?_; (with_reducible refine (boarderlaw13_Great.calls _ _ _ _ _ _ _ _ ?side1 ?side2 A7.out).mono ?_); (case side1 => repeat (first | exact (Kd.C_below HR0_2.out HB.out) | (with_reducible refine Kd.C_alloc ?_ _) | (with_reducible refine Kd.C_drewN ?_ _) | (with_reducible refine Kd.C_drew ?_))); (case side2 => exact HC0_2.out); rintro e w10 ⟨rfl, hb⟩; refine ⟨_, rfl, ?_⟩; replace BK374 := sqM (blk_below (sqK BK374.out) hb); replace HB := sqM (below_step (sqB1 HB.out GE374.out) hb); (try clear hb); (try clear hb2); (try clear hk); (try clear hi)))
    go_meet
    case rel => exact ⟨_, (true), sqI, H', ⟨by first | omega | exact Nat.le_refl _⟩, ⟨sqK BK374.out⟩, ⟨sqB1 HB.out GE374.out⟩⟩
  replace c8 := Bool.eq_false_iff.mpr c8
  subst c8
  have H1 : (boarderlaw13_ConfKeeps.j0 k a1 a2 a3 (decide ((a3.size : Int) > 1000)) a0_0 a0_1 l0_2) = some r := by rw [if_neg (show ¬ (false = true) by decide)] at H; exact H
  clear H
  have H := H1
  clear H1
  have H' := Aside0.mk H
  clear H
  obtain ⟨hcz11_0, hcz11_1, hcz11_2, hfz11_0, hfz11_1, hfz11_2⟩ := sqF3 BK374.out
  go_wp2_with (first | ((with_reducible refine gate_callee (f := 14) rfl ?_); refine goesL_ (some 18) rfl rfl Try.func14 (by kernel_rfl) rfl #[.agg #[.int .i64 a0_0, .int .i64 a0_1, .slice A0_2 l0_2.length c0_2]] rfl sqA ?_; (with_reducible refine (boarderlaw13_Great.calls _ _ _ _ _ _ _ _ ?side1 ?side2 A7.out).mono ?_); (case side1 => repeat (first | exact (Kd.C_below HR0_2.out HB.out) | (with_reducible refine Kd.C_alloc ?_ _) | (with_reducible refine Kd.C_drewN ?_ _) | (with_reducible refine Kd.C_drew ?_))); (case side2 => exact HC0_2.out); rintro e w12 ⟨rfl, hb⟩; refine ⟨_, rfl, ?_⟩; replace BK374 := sqM (blk_below (sqK BK374.out) hb); replace HB := sqM (below_step (sqB1 HB.out GE374.out) hb); (try clear hb); (try clear hb2); (try clear hk); (try clear hi)))
  go_meet
  case rel => exact ⟨_, (decide ((a3.size : Int) > 1000)), sqI, H', ⟨by first | omega | exact Nat.le_refl _⟩, ⟨sqK BK374.out⟩, ⟨sqB1 HB.out GE374.out⟩⟩
 clear HC5
 try clear c1
 try clear p2
 try clear c4
 try clear c8
 try clear hcz11_0 hcz11_1 hcz11_2
 try clear hcz9_0 hcz9_1 hcz9_2
 try clear hfz11_0 hfz11_1 hfz11_2
 try clear hfz9_0 hfz9_1 hfz9_2
 obtain ⟨kq, x23_4, rfl, HA, HJ4, BK374, HB⟩ := hcut
 cases kq with
 | zero => exact absurd HA.out (by simp [boarderlaw13_ConfKeeps.j0])
 | succ kj4 => ?_
 have H := HA.out
 clear HA
 simp only [boarderlaw13_ConfKeeps.j0] at H
 by_cases c13 : x23_4 = true
 · subst c13
   have H1 : ((boarderlaw13_knows.f kj4).bind fun t376 => (some t376)) = some r := by rw [if_pos rfl] at H; exact H
   clear H
   have H := H1
   clear H1
   replace H := Option.bind_eq_some_iff.mp H
   obtain ⟨t376, A140, H⟩ := H
   replace H : (some t376) = some r := H
   have A14 := Aside0.mk A140
   clear A140
   obtain rfl := Option.some.inj H
   go_wp2_with (first | ((with_reducible refine gate_callee (f := 15) rfl ?_); refine goesL_ (some 24) rfl rfl Try.func15 (by kernel_rfl) rfl #[] rfl sqA ?_; (with_reducible refine (boarderlaw13_knows.calls kj4  t376 _ A14.out).mono ?_); rintro e w15 ⟨rfl, hb⟩; refine ⟨_, rfl, ?_⟩; replace BK374 := sqM (blk_below (sqK BK374.out) hb); replace HB := sqM (below_step (sqB1 HB.out GE374.out) hb); (try clear hb); (try clear hb2); (try clear hk); (try clear hi)))
   go_ret
   exact ⟨sqE, sqB1 HB.out GE374.out⟩
 replace c13 := Bool.eq_false_iff.mpr c13
 subst c13
 have H1 : ((conf_KeptFor.f kj4 a0_0 a0_1 l0_2 a1 a3).bind fun bt377 => ((boarderref13_KeptFor.f kj4 a0_0 a0_1 l0_2 a1 a3).bind fun bt379 => ((conf_Keeper.f kj4 a0_0 a0_1 l0_2 a2).bind fun bt381 => ((boarderref13_Keeper.f kj4 a0_0 a0_1 l0_2 a2).bind fun bt383 => (if bt377.1 = bt379.1 then (if (bt377.2 == bt379.2) = true then (if bt381.1.toList = bt383.1.toList then (if (bt381.2 == bt383.2) = true then ((conf_InPool.f kj4 a0_0 a0_1 l0_2 a1 a2).bind fun t385 => ((boarderref13_InPool.f kj4 a0_0 a0_1 l0_2 a1 a2).bind fun t386 => (if (t385 == t386) = true then ((boarderlaw13_knows.f kj4).bind fun t387 => (some t387)) else (none)))) else (none)) else (none)) else (none)) else (none)))))) = some r := by rw [if_neg (show ¬ (false = true) by decide)] at H; exact H
 clear H
 have H := H1
 clear H1
 replace H := Option.bind_eq_some_iff.mp H
 obtain ⟨⟨t377, t378⟩, A160, H⟩ := H
 replace H : ((boarderref13_KeptFor.f kj4 a0_0 a0_1 l0_2 a1 a3).bind fun bt379 => ((conf_Keeper.f kj4 a0_0 a0_1 l0_2 a2).bind fun bt381 => ((boarderref13_Keeper.f kj4 a0_0 a0_1 l0_2 a2).bind fun bt383 => (if t377 = bt379.1 then (if (t378 == bt379.2) = true then (if bt381.1.toList = bt383.1.toList then (if (bt381.2 == bt383.2) = true then ((conf_InPool.f kj4 a0_0 a0_1 l0_2 a1 a2).bind fun t385 => ((boarderref13_InPool.f kj4 a0_0 a0_1 l0_2 a1 a2).bind fun t386 => (if (t385 == t386) = true then ((boarderlaw13_knows.f kj4).bind fun t387 => (some t387)) else (none)))) else (none)) else (none)) else (none)) else (none))))) = some r := H
 have A16 := Aside0.mk A160
 clear A160
 replace H := Option.bind_eq_some_iff.mp H
 obtain ⟨⟨t379, t380⟩, A170, H⟩ := H
 replace H : ((conf_Keeper.f kj4 a0_0 a0_1 l0_2 a2).bind fun bt381 => ((boarderref13_Keeper.f kj4 a0_0 a0_1 l0_2 a2).bind fun bt383 => (if t377 = t379 then (if (t378 == t380) = true then (if bt381.1.toList = bt383.1.toList then (if (bt381.2 == bt383.2) = true then ((conf_InPool.f kj4 a0_0 a0_1 l0_2 a1 a2).bind fun t385 => ((boarderref13_InPool.f kj4 a0_0 a0_1 l0_2 a1 a2).bind fun t386 => (if (t385 == t386) = true then ((boarderlaw13_knows.f kj4).bind fun t387 => (some t387)) else (none)))) else (none)) else (none)) else (none)) else (none)))) = some r := H
 have A17 := Aside0.mk A170
 clear A170
 replace H := Option.bind_eq_some_iff.mp H
 obtain ⟨⟨t381, t382⟩, A180, H⟩ := H
 replace H : ((boarderref13_Keeper.f kj4 a0_0 a0_1 l0_2 a2).bind fun bt383 => (if t377 = t379 then (if (t378 == t380) = true then (if t381.toList = bt383.1.toList then (if (t382 == bt383.2) = true then ((conf_InPool.f kj4 a0_0 a0_1 l0_2 a1 a2).bind fun t385 => ((boarderref13_InPool.f kj4 a0_0 a0_1 l0_2 a1 a2).bind fun t386 => (if (t385 == t386) = true then ((boarderlaw13_knows.f kj4).bind fun t387 => (some t387)) else (none)))) else (none)) else (none)) else (none)) else (none))) = some r := H
 have A18 := Aside0.mk A180
 clear A180
 replace H := Option.bind_eq_some_iff.mp H
 obtain ⟨⟨t383, t384⟩, A190, H⟩ := H
 replace H : (if t377 = t379 then (if (t378 == t380) = true then (if t381.toList = t383.toList then (if (t382 == t384) = true then ((conf_InPool.f kj4 a0_0 a0_1 l0_2 a1 a2).bind fun t385 => ((boarderref13_InPool.f kj4 a0_0 a0_1 l0_2 a1 a2).bind fun t386 => (if (t385 == t386) = true then ((boarderlaw13_knows.f kj4).bind fun t387 => (some t387)) else (none)))) else (none)) else (none)) else (none)) else (none)) = some r := H
 have A19 := Aside0.mk A190
 clear A190
 by_cases c20 : t377 = t379
 rotate_left
 · rw [if_neg c20] at H
   have c20b0 : (t377 == t379) = false := beq_eq_false_iff_ne.mpr c20
   have c20b1 : (t377 != t379) = true := bne_iff_ne.mpr c20
   exact absurd H (by simp)
 rw [if_pos c20] at H
 have c20b0 : (t377 == t379) = true := beq_iff_eq.mpr c20
 have c20b1 : (t377 != t379) = false := bne_eq_false_iff_eq.mpr c20
 clear c20
 by_cases c21 : (t378 == t380) = true
 rotate_left
 · rw [if_neg c21] at H
   have c21b0 : (t378 == t380) = false := by simpa using c21
   (try (have c21b1 : decide (t378 = t380) = false := by simpa using c21))
   (try (have c21b2 : (t378 == t380) = false := by simpa using c21))
   (try (have c21b3 : ¬ (t378 = t380) := by simpa using c21))
   clear c21
   exact absurd H (by simp)
 rw [if_pos c21] at H
 have c21b0 : (t378 == t380) = true := c21
 (try (have c21b1 : decide (t378 = t380) = true := by simpa using c21))
 (try (have c21b2 : (t378 == t380) = true := by simpa using c21))
 clear c21
 by_cases c22 : t381.toList = t383.toList
 rotate_left
 · rw [if_neg c22] at H
   have c22b0 : (t381.toList == t383.toList) = false := beq_eq_false_iff_ne.mpr c22
   have c22b1 : (t381.toList != t383.toList) = true := bne_iff_ne.mpr c22
   exact absurd H (by simp)
 rw [if_pos c22] at H
 have c22b0 : (t381.toList == t383.toList) = true := beq_iff_eq.mpr c22
 have c22b1 : (t381.toList != t383.toList) = false := bne_eq_false_iff_eq.mpr c22
 clear c22
 by_cases c23 : (t382 == t384) = true
 rotate_left
 · rw [if_neg c23] at H
   have c23b0 : (t382 == t384) = false := by simpa using c23
   (try (have c23b1 : decide (t382 = t384) = false := by simpa using c23))
   (try (have c23b2 : (t382 == t384) = false := by simpa using c23))
   (try (have c23b3 : ¬ (t382 = t384) := by simpa using c23))
   clear c23
   exact absurd H (by simp)
 rw [if_pos c23] at H
 have c23b0 : (t382 == t384) = true := c23
 (try (have c23b1 : decide (t382 = t384) = true := by simpa using c23))
 (try (have c23b2 : (t382 == t384) = true := by simpa using c23))
 clear c23
 replace H := Option.bind_eq_some_iff.mp H
 obtain ⟨t385, A240, H⟩ := H
 replace H : ((boarderref13_InPool.f kj4 a0_0 a0_1 l0_2 a1 a2).bind fun t386 => (if (t385 == t386) = true then ((boarderlaw13_knows.f kj4).bind fun t387 => (some t387)) else (none))) = some r := H
 have A24 := Aside0.mk A240
 clear A240
 replace H := Option.bind_eq_some_iff.mp H
 obtain ⟨t386, A250, H⟩ := H
 replace H : (if (t385 == t386) = true then ((boarderlaw13_knows.f kj4).bind fun t387 => (some t387)) else (none)) = some r := H
 have A25 := Aside0.mk A250
 clear A250
 by_cases c26 : (t385 == t386) = true
 rotate_left
 · rw [if_neg c26] at H
   have c26b0 : (t385 == t386) = false := by simpa using c26
   (try (have c26b1 : decide (t385 = t386) = false := by simpa using c26))
   (try (have c26b2 : (t385 == t386) = false := by simpa using c26))
   (try (have c26b3 : ¬ (t385 = t386) := by simpa using c26))
   clear c26
   exact absurd H (by simp)
 rw [if_pos c26] at H
 have c26b0 : (t385 == t386) = true := c26
 (try (have c26b1 : decide (t385 = t386) = true := by simpa using c26))
 (try (have c26b2 : (t385 == t386) = true := by simpa using c26))
 clear c26
 replace H := Option.bind_eq_some_iff.mp H
 obtain ⟨t387, A270, H⟩ := H
 replace H : (some t387) = some r := H
 have A27 := Aside0.mk A270
 clear A270
 obtain rfl := Option.some.inj H
 obtain ⟨hcz28_0, hcz28_1, hcz28_2, hfz28_0, hfz28_1, hfz28_2⟩ := sqF3 BK374.out
 try go_wp2_with (first | ((with_reducible refine gate_callee (f := 18) rfl ?_); refine goesL_ (some 29) rfl rfl Try.func18 (by kernel_rfl) rfl #[.agg #[.int .i64 a0_0, .int .i64 a0_1, .slice A0_2 l0_2.length c0_2], .int .i64 a1, .string a3] rfl sqA ?_; (with_reducible refine (conf_KeptFor.calls _ _ _ _ _ _ _ _ _ _ _ ?side1 ?side2 A16.out).mono ?_); (case side1 => repeat (first | exact (Kd.C_below HR0_2.out HB.out) | (with_reducible refine Kd.C_alloc ?_ _) | (with_reducible refine Kd.C_drewN ?_ _) | (with_reducible refine Kd.C_drew ?_))); (case side2 => exact HC0_2.out); rintro e w29 ⟨rfl, hb⟩; refine ⟨_, rfl, ?_⟩; replace BK374 := sqM (blk_below (sqK BK374.out) hb); replace HB := sqM (below_step (sqB1 HB.out GE374.out) hb); (try clear hb); (try clear hb2); (try clear hk); (try clear hi); obtain ⟨hcz30_0, hcz30_1, hcz30_2, hfz30_0, hfz30_1, hfz30_2⟩ := sqF3 BK374.out) | ((with_reducible refine gate_callee (f := 19) rfl ?_); refine goesL_ (some 36) rfl rfl Try.func19 (by kernel_rfl) rfl #[.agg #[.int .i64 a0_0, .int .i64 a0_1, .slice A0_2 l0_2.length c0_2], .int .i64 a1, .string a3] rfl sqA ?_; (with_reducible refine (boarderref13_KeptFor.calls _ _ _ _ _ _ _ _ _ _ _ ?side1 ?side2 A17.out).mono ?_); (case side1 => repeat (first | exact (Kd.C_below HR0_2.out HB.out) | (with_reducible refine Kd.C_alloc ?_ _) | (with_reducible refine Kd.C_drewN ?_ _) | (with_reducible refine Kd.C_drew ?_))); (case side2 => exact HC0_2.out); rintro e w31 ⟨rfl, hb⟩; refine ⟨_, rfl, ?_⟩; replace BK374 := sqM (blk_below (sqK BK374.out) hb); replace HB := sqM (below_step (sqB1 HB.out GE374.out) hb); (try clear hb); (try clear hb2); (try clear hk); (try clear hi); obtain ⟨hcz32_0, hcz32_1, hcz32_2, hfz32_0, hfz32_1, hfz32_2⟩ := sqF3 BK374.out) | ((with_reducible refine gate_callee (f := 20) rfl ?_); refine goesL_ (some 42) rfl rfl Try.func20 (by kernel_rfl) rfl #[.agg #[.int .i64 a0_0, .int .i64 a0_1, .slice A0_2 l0_2.length c0_2], .int .i64 a2] rfl sqA ?_; (with_reducible refine (conf_Keeper.calls _ _ _ _ _ _ _ _ _ _ ?side1 ?side2 A18.out).mono ?_); (case side1 => repeat (first | exact (Kd.C_below HR0_2.out HB.out) | (with_reducible refine Kd.C_alloc ?_ _) | (with_reducible refine Kd.C_drewN ?_ _) | (with_reducible refine Kd.C_drew ?_))); (case side2 => exact HC0_2.out); rintro e w33 ⟨rfl, hb⟩; refine ⟨_, rfl, ?_⟩; replace BK374 := sqM (blk_below (sqK BK374.out) hb); replace HB := sqM (below_step (sqB1 HB.out GE374.out) hb); (try clear hb); (try clear hb2); (try clear hk); (try clear hi); obtain ⟨hcz34_0, hcz34_1, hcz34_2, hfz34_0, hfz34_1, hfz34_2⟩ := sqF3 BK374.out) | ((with_reducible refine gate_callee (f := 21) rfl ?_); refine goesL_ (some 48) rfl rfl Try.func21 (by kernel_rfl) rfl #[.agg #[.int .i64 a0_0, .int .i64 a0_1, .slice A0_2 l0_2.length c0_2], .int .i64 a2] rfl sqA ?_; (with_reducible refine (boarderref13_Keeper.calls _ _ _ _ _ _ _ _ _ _ ?side1 ?side2 A19.out).mono ?_); (case side1 => repeat (first | exact (Kd.C_below HR0_2.out HB.out) | (with_reducible refine Kd.C_alloc ?_ _) | (with_reducible refine Kd.C_drewN ?_ _) | (with_reducible refine Kd.C_drew ?_))); (case side2 => exact HC0_2.out); rintro e w35 ⟨rfl, hb⟩; refine ⟨_, rfl, ?_⟩; replace BK374 := sqM (blk_below (sqK BK374.out) hb); replace HB := sqM (below_step (sqB1 HB.out GE374.out) hb); (try clear hb); (try clear hb2); (try clear hk); (try clear hi)))
 replace BK374 := Aside0.mk (blk_drew BK374.out)
 replace HB := Aside0.mk (below_drew1 HB.out)
 refine start_ (n := 33) (S := fun w' => w'.cell? ⟨gb374, 0, none⟩ = some (.int .i64 a0_0) ∧ w'.cell? ⟨gb374, 1, none⟩ = some (.int .i64 a0_1) ∧ w'.cell? ⟨gb374, 2, none⟩ = some (.slice A0_2 l0_2.length c0_2)) (ds := []) #[false, false, false, false, false, false, false, false, false, false, false, false, false, false, false, false, false, false, false, false, false, false, false, false, false, false, false, false, false, false, false, false, false] (by kernel_rfl) rfl rfl ⟨(blk_cell BK374.out 0).trans rfl, (blk_cell BK374.out 1).trans rfl, (blk_cell BK374.out 2).trans rfl⟩ (fun hHeld => ?_); refine with_tabW boarderlaw13_ConfKeeps.tab7 boarderlaw13_ConfKeeps.bits7 (fun HT_ HW_ => ?_)
 generalize w35.drew = w36 at BK374 HB hHeld ⊢
 refine pure_ (i := 0) (N := some 51) (v := ?_) (a' := ?_) #[true, false, false, false, false, false, false, false, false, false, false, false, false, false, false, false, false, false, false, false, false, false, false, false, false, false, false, false, false, false, false, false, false] rfl rfl (any_of HT_.out (by kernel_rfl)) (fun _ _ _ h => h) (Or.inl ⟨by rfl, ?_⟩) ?_ ?_
 rotate_left
 · intro w'
   go_simp
   with_reducible rfl
 rotate_left
 · simp only [Act.put, List.setIfInBounds_toArray, List.set_cons_zero, List.set_cons_succ, i64_w, i32_w]
   rfl
 refine pure_ (i := 1) (N := some 52) (v := ?_) (a' := ?_) #[true, true, false, false, false, false, false, false, false, false, false, false, false, false, false, false, false, false, false, false, false, false, false, false, false, false, false, false, false, false, false, false, false] rfl rfl (any_of HT_.out (by kernel_rfl)) (fun _ _ _ h => h) (Or.inl ⟨by rfl, ?_⟩) ?_ ?_
 rotate_left
 · intro w'
   go_simp
   with_reducible rfl
 rotate_left
 · simp only [Act.put, List.setIfInBounds_toArray, List.set_cons_zero, List.set_cons_succ, i64_w, i32_w]
   rfl
 refine pure_ (i := 2) (N := some 53) (v := ?_) (a' := ?_) #[true, true, true, false, false, false, false, false, false, false, false, false, false, false, false, false, false, false, false, false, false, false, false, false, false, false, false, false, false, false, false, false, false] rfl rfl (any_of HT_.out (by kernel_rfl)) (fun _ _ _ h => h) (Or.inl ⟨by rfl, ?_⟩) ?_ ?_
 rotate_left
 · intro w'
   go_simp
   with_reducible rfl
 rotate_left
 · simp only [Act.put, List.setIfInBounds_toArray, List.set_cons_zero, List.set_cons_succ, i64_w, i32_w]
   rfl
 refine pure_ (i := 3) (N := some 54) (v := ?_) (a' := ?_) #[true, true, true, true, false, false, false, false, false, false, false, false, false, false, false, false, false, false, false, false, false, false, false, false, false, false, false, false, false, false, false, false, false] rfl rfl (any_of HT_.out (by kernel_rfl)) (fun _ _ _ h => h) (Or.inl ⟨by rfl, ?_⟩) ?_ ?_
 rotate_left
 · intro w'
   go_simp
   with_reducible rfl
 rotate_left
 · simp only [Act.put, List.setIfInBounds_toArray, List.set_cons_zero, List.set_cons_succ, i64_w, i32_w]
   rfl
 refine pure_ (i := 4) (N := some 55) (v := ?_) (a' := ?_) #[true, true, true, true, true, false, false, false, false, false, false, false, false, false, false, false, false, false, false, false, false, false, false, false, false, false, false, false, false, false, false, false, false] rfl rfl (any_of HT_.out (by kernel_rfl)) (fun _ _ _ h => h) (Or.inl ⟨by rfl, ?_⟩) ?_ ?_
 rotate_left
 · intro w'
   go_simp
   with_reducible rfl
 rotate_left
 · simp only [Act.put, List.setIfInBounds_toArray, List.set_cons_zero, List.set_cons_succ, i64_w, i32_w]
   rfl
 refine pure_ (i := 5) (N := some 56) (v := ?_) (a' := ?_) #[true, true, true, true, true, true, false, false, false, false, false, false, false, false, false, false, false, false, false, false, false, false, false, false, false, false, false, false, false, false, false, false, false] rfl rfl (any_of HT_.out (by kernel_rfl)) (fun _ _ _ h => h) (Or.inl ⟨by rfl, ?_⟩) ?_ ?_
 rotate_left
 · intro w'
   go_simp
   with_reducible rfl
 rotate_left
 · simp only [Act.put, List.setIfInBounds_toArray, List.set_cons_zero, List.set_cons_succ, i64_w, i32_w]
   rfl
 refine pure_ (i := 6) (N := some 57) (v := ?_) (a' := ?_) #[true, true, true, true, true, true, true, false, false, false, false, false, false, false, false, false, false, false, false, false, false, false, false, false, false, false, false, false, false, false, false, false, false] rfl rfl (any_of HT_.out (by kernel_rfl)) (fun _ _ _ h => h) (Or.inl ⟨by rfl, ?_⟩) ?_ ?_
 rotate_left
 · intro w'
   go_simp
   with_reducible rfl
 rotate_left
 · simp only [Act.put, List.setIfInBounds_toArray, List.set_cons_zero, List.set_cons_succ, i64_w, i32_w]
   rfl
 refine pure_ (i := 7) (N := some 58) (v := ?_) (a' := ?_) #[true, true, true, true, true, true, true, true, false, false, false, false, false, false, false, false, false, false, false, false, false, false, false, false, false, false, false, false, false, false, false, false, false] rfl rfl (any_of HT_.out (by kernel_rfl)) (fun _ _ _ h => h) (Or.inl ⟨by rfl, ?_⟩) ?_ ?_
 rotate_left
 · intro w'
   go_simp
   with_reducible rfl
 rotate_left
 · simp only [Act.put, List.setIfInBounds_toArray, List.set_cons_zero, List.set_cons_succ, i64_w, i32_w]
   rfl
 refine pure_ (i := 8) (N := some 59) (v := ?_) (a' := ?_) #[true, true, true, true, true, true, true, true, true, false, false, false, false, false, false, false, false, false, false, false, false, false, false, false, false, false, false, false, false, false, false, false, false] rfl rfl (any_of HT_.out (by kernel_rfl)) (fun _ _ _ h => h) (Or.inl ⟨by rfl, ?_⟩) ?_ ?_
 rotate_left
 · intro w'
   go_simp
   with_reducible rfl
 rotate_left
 · simp only [Act.put, List.setIfInBounds_toArray, List.set_cons_zero, List.set_cons_succ, i64_w, i32_w]
   rfl
 refine pure_ (i := 9) (N := some 60) (v := ?_) (a' := ?_) #[true, true, true, true, true, true, true, true, true, true, false, false, false, false, false, false, false, false, false, false, false, false, false, false, false, false, false, false, false, false, false, false, false] rfl rfl (any_of HT_.out (by kernel_rfl)) (fun _ _ _ h => h) (Or.inl ⟨by rfl, ?_⟩) ?_ ?_
 rotate_left
 · intro w'
   go_simp
   with_reducible rfl
 rotate_left
 · simp only [Act.put, List.setIfInBounds_toArray, List.set_cons_zero, List.set_cons_succ, i64_w, i32_w]
   rfl
 refine pure_ (i := 10) (N := some 61) (v := ?_) (a' := ?_) #[true, true, true, true, true, true, true, true, true, true, true, false, false, false, false, false, false, false, false, false, false, false, false, false, false, false, false, false, false, false, false, false, false] rfl rfl (any_of HT_.out (by kernel_rfl)) (fun _ _ _ h => h) (Or.inl ⟨by rfl, ?_⟩) ?_ ?_
 rotate_left
 · intro w'
   go_simp
   with_reducible rfl
 rotate_left
 · simp only [Act.put, List.setIfInBounds_toArray, List.set_cons_zero, List.set_cons_succ, i64_w, i32_w]
   rfl
 refine pure_ (i := 11) (N := some 62) (v := ?_) (a' := ?_) #[true, true, true, true, true, true, true, true, true, true, true, true, false, false, false, false, false, false, false, false, false, false, false, false, false, false, false, false, false, false, false, false, false] rfl rfl (any_of HT_.out (by kernel_rfl)) (fun _ _ _ h => h) (Or.inl ⟨by rfl, ?_⟩) ?_ ?_
 rotate_left
 · intro w'
   go_simp
   with_reducible rfl
 rotate_left
 · simp only [Act.put, List.setIfInBounds_toArray, List.set_cons_zero, List.set_cons_succ, i64_w, i32_w]
   rfl
 refine pure_ (i := 12) (N := some 63) (v := ?_) (a' := ?_) #[true, true, true, true, true, true, true, true, true, true, true, true, true, false, false, false, false, false, false, false, false, false, false, false, false, false, false, false, false, false, false, false, false] rfl rfl (any_of HT_.out (by kernel_rfl)) (fun _ _ _ h => h) (Or.inl ⟨by rfl, ?_⟩) ?_ ?_
 rotate_left
 · intro w'
   go_simp
   with_reducible rfl
 rotate_left
 · simp only [Act.put, List.setIfInBounds_toArray, List.set_cons_zero, List.set_cons_succ, i64_w, i32_w]
   rfl
 refine pure_ (i := 13) (N := some 64) (v := ?_) (a' := ?_) #[true, true, true, true, true, true, true, true, true, true, true, true, true, true, false, false, false, false, false, false, false, false, false, false, false, false, false, false, false, false, false, false, false] rfl rfl (any_of HT_.out (by kernel_rfl)) (fun _ _ _ h => h) (Or.inl ⟨by rfl, ?_⟩) ?_ ?_
 rotate_left
 · intro w'
   go_simp
   with_reducible rfl
 rotate_left
 · simp only [Act.put, List.setIfInBounds_toArray, List.set_cons_zero, List.set_cons_succ, i64_w, i32_w]
   rfl
 refine pure_ (i := 14) (N := some 65) (v := ?_) (a' := ?_) #[true, true, true, true, true, true, true, true, true, true, true, true, true, true, true, false, false, false, false, false, false, false, false, false, false, false, false, false, false, false, false, false, false] rfl rfl (any_of HT_.out (by kernel_rfl)) (fun _ _ _ h => h) (Or.inl ⟨by rfl, ?_⟩) ?_ ?_
 rotate_left
 · intro w'
   go_simp
   with_reducible rfl
 rotate_left
 · simp only [Act.put, List.setIfInBounds_toArray, List.set_cons_zero, List.set_cons_succ, i64_w, i32_w]
   rfl
 refine pure_ (i := 15) (N := some 66) (v := ?_) (a' := ?_) #[true, true, true, true, true, true, true, true, true, true, true, true, true, true, true, true, false, false, false, false, false, false, false, false, false, false, false, false, false, false, false, false, false] rfl rfl (any_of HT_.out (by kernel_rfl)) (fun _ _ _ h => h) (Or.inl ⟨by rfl, ?_⟩) ?_ ?_
 rotate_left
 · intro w'
   go_simp
   with_reducible rfl
 rotate_left
 · simp only [Act.put, List.setIfInBounds_toArray, List.set_cons_zero, List.set_cons_succ, i64_w, i32_w]
   rfl
 refine pure_ (i := 16) (N := some 67) (v := ?_) (a' := ?_) #[true, true, true, true, true, true, true, true, true, true, true, true, true, true, true, true, true, false, false, false, false, false, false, false, false, false, false, false, false, false, false, false, false] rfl rfl (any_of HT_.out (by kernel_rfl)) (fun _ _ _ h => h) (Or.inl ⟨by rfl, ?_⟩) ?_ ?_
 rotate_left
 · intro w'
   go_simp
   with_reducible rfl
 rotate_left
 · simp only [Act.put, List.setIfInBounds_toArray, List.set_cons_zero, List.set_cons_succ, i64_w, i32_w]
   rfl
 refine pure_ (i := 17) (N := some 68) (v := ?_) (a' := ?_) #[true, true, true, true, true, true, true, true, true, true, true, true, true, true, true, true, true, true, false, false, false, false, false, false, false, false, false, false, false, false, false, false, false] rfl rfl (any_of HT_.out (by kernel_rfl)) (fun _ _ _ h => h) (Or.inl ⟨by rfl, ?_⟩) ?_ ?_
 rotate_left
 · intro w'
   go_simp
   with_reducible rfl
 rotate_left
 · simp only [Act.put, List.setIfInBounds_toArray, List.set_cons_zero, List.set_cons_succ, i64_w, i32_w]
   rfl
 refine pure_ (i := 18) (N := some 69) (v := ?_) (a' := ?_) #[true, true, true, true, true, true, true, true, true, true, true, true, true, true, true, true, true, true, true, false, false, false, false, false, false, false, false, false, false, false, false, false, false] rfl rfl (any_of HT_.out (by kernel_rfl)) (fun _ _ _ h => h) (Or.inl ⟨by rfl, ?_⟩) ?_ ?_
 rotate_left
 · intro w'
   go_simp
   with_reducible rfl
 rotate_left
 · simp only [Act.put, List.setIfInBounds_toArray, List.set_cons_zero, List.set_cons_succ, i64_w, i32_w]
   rfl
 refine pure_ (i := 20) (N := some 71) (v := ?_) (a' := ?_) #[true, true, true, true, true, true, true, true, true, true, true, true, true, true, true, true, true, true, true, false, true, false, false, false, false, false, false, false, false, false, false, false, false] rfl rfl (any_of HT_.out (by kernel_rfl)) (fun _ _ _ h => h) (Or.inl ⟨by rfl, ?_⟩) ?_ ?_
 rotate_left
 · intro w'
   go_simp
   with_reducible rfl
 rotate_left
 · simp only [Act.put, List.setIfInBounds_toArray, List.set_cons_zero, List.set_cons_succ, i64_w, i32_w]
   rfl
 refine pure_ (i := 21) (N := some 72) (v := ?_) (a' := ?_) #[true, true, true, true, true, true, true, true, true, true, true, true, true, true, true, true, true, true, true, false, true, true, false, false, false, false, false, false, false, false, false, false, false] rfl rfl (any_of HT_.out (by kernel_rfl)) (fun _ _ _ h => h) (Or.inl ⟨by rfl, ?_⟩) ?_ ?_
 rotate_left
 · intro w'
   go_simp
   with_reducible rfl
 rotate_left
 · simp only [Act.put, List.setIfInBounds_toArray, List.set_cons_zero, List.set_cons_succ, i64_w, i32_w]
   rfl
 refine pure_ (i := 24) (N := some 75) (v := ?_) (a' := ?_) #[true, true, true, true, true, true, true, true, true, true, true, true, true, true, true, true, true, true, true, false, true, true, false, false, true, false, false, false, false, false, false, false, false] rfl rfl (any_of HT_.out (by kernel_rfl)) (fun _ _ _ h => h) (Or.inl ⟨by rfl, ?_⟩) ?_ ?_
 rotate_left
 · intro w'
   go_simp
   with_reducible rfl
 rotate_left
 · simp only [Act.put, List.setIfInBounds_toArray, List.set_cons_zero, List.set_cons_succ, i64_w, i32_w]
   rfl
 refine pure_ (i := 25) (N := some 76) (v := ?_) (a' := ?_) #[true, true, true, true, true, true, true, true, true, true, true, true, true, true, true, true, true, true, true, false, true, true, false, false, true, true, false, false, false, false, false, false, false] rfl rfl (any_of HT_.out (by kernel_rfl)) (fun _ _ _ h => h) (Or.inl ⟨by rfl, ?_⟩) ?_ ?_
 rotate_left
 · intro w'
   go_simp
   with_reducible rfl
 rotate_left
 · simp only [Act.put, List.setIfInBounds_toArray, List.set_cons_zero, List.set_cons_succ, i64_w, i32_w]
   rfl
 refine take_ (i := 19) (N := some 70) (v := ?_) (a' := ?_) #[true, true, true, true, true, true, true, true, true, true, true, true, true, true, true, true, true, true, true, true, true, true, false, false, true, true, false, false, false, false, false, false, false] rfl rfl (take_ofW HT_.out HW_.out (by kernel_rfl)) (fun _ _ _ h => h) (Or.inl ⟨by rfl, ?_⟩) hHeld ?_ ?_
 rotate_left
 · rintro w' ⟨s0, s1, s2⟩
   go_simp
   with_reducible rfl
 rotate_left
 · simp only [Act.put, List.setIfInBounds_toArray, List.set_cons_zero, List.set_cons_succ, i64_w, i32_w]
   rfl
 refine take_ (i := 23) (N := some 74) (v := ?_) (a' := ?_) #[true, true, true, true, true, true, true, true, true, true, true, true, true, true, true, true, true, true, true, true, true, true, false, true, true, true, false, false, false, false, false, false, false] rfl rfl (take_ofW HT_.out HW_.out (by kernel_rfl)) (fun _ _ _ h => h) (Or.inl ⟨by rfl, ?_⟩) hHeld ?_ ?_
 rotate_left
 · rintro w' ⟨s0, s1, s2⟩
   go_simp
   with_reducible rfl
 rotate_left
 · simp only [Act.put, List.setIfInBounds_toArray, List.set_cons_zero, List.set_cons_succ, i64_w, i32_w]
   rfl
 refine one_ (i := 22) (N := some 73) #[true, true, true, true, true, true, true, true, true, true, true, true, true, true, true, true, true, true, true, true, true, true, true, true, true, true, false, false, false, false, false, false, false] rfl rfl (one_of HT_.out (by kernel_rfl)) (by decide) (fun K hK => ?_)
 refine goes_ Try.func22 (by kernel_rfl) rfl #[.agg #[.int .i64 a0_0, .int .i64 a0_1, .slice A0_2 l0_2.length c0_2], .int .i64 a1, .int .i64 a2] (by rfl) rfl rfl sqA ?_
 with_reducible refine (conf_InPool.calls _ _ _ _ _ _ _ _ _ _ ?side1 ?side2 A24.out).mono ?_
 (case side1 => repeat (first | exact (Kd.C_below HR0_2.out HB.out) | (with_reducible refine Kd.C_alloc ?_ _) | (with_reducible refine Kd.C_drewN ?_ _) | (with_reducible refine Kd.C_drew ?_)))
 (case side2 => exact HC0_2.out)
 rintro e w37 ⟨rfl, hb⟩
 refine ⟨_, rfl, ?_⟩
 replace BK374 := sqM (blk_below (sqK BK374.out) hb)
 replace HB := sqM (below_step (sqB1 HB.out GE374.out) hb)
 (try clear hb)
 (try clear hb2)
 (try clear hk)
 (try clear hi)
 refine hK.out _ _ ⟨(blk_cell BK374.out 0).trans rfl, (blk_cell BK374.out 1).trans rfl, (blk_cell BK374.out 2).trans rfl⟩ (fun hHeld => ?_)
 clear hK K
 refine norm_ (a' := ?_) ?_ ?_
 rotate_left
 · show Act.put _ (some 73) _ = _
   simp only [Act.put, List.setIfInBounds_toArray, List.set_cons_zero, List.set_cons_succ, i64_w, i32_w]
   rfl
 refine one_ (i := 26) (N := some 77) #[true, true, true, true, true, true, true, true, true, true, true, true, true, true, true, true, true, true, true, true, true, true, true, true, true, true, true, false, false, false, false, false, false] rfl rfl (one_of HT_.out (by kernel_rfl)) (by decide) (fun K hK => ?_)
 refine goes_ Try.func23 (by kernel_rfl) rfl #[.agg #[.int .i64 a0_0, .int .i64 a0_1, .slice A0_2 l0_2.length c0_2], .int .i64 a1, .int .i64 a2] (by rfl) rfl rfl sqA ?_
 with_reducible refine (boarderref13_InPool.calls _ _ _ _ _ _ _ _ _ _ ?side1 ?side2 A25.out).mono ?_
 (case side1 => repeat (first | exact (Kd.C_below HR0_2.out HB.out) | (with_reducible refine Kd.C_alloc ?_ _) | (with_reducible refine Kd.C_drewN ?_ _) | (with_reducible refine Kd.C_drew ?_)))
 (case side2 => exact HC0_2.out)
 rintro e w38 ⟨rfl, hb⟩
 refine ⟨_, rfl, ?_⟩
 replace BK374 := sqM (blk_below (sqK BK374.out) hb)
 replace HB := sqM (below_step (sqB1 HB.out GE374.out) hb)
 (try clear hb)
 (try clear hb2)
 (try clear hk)
 (try clear hi)
 refine hK.out _ _ ⟨(blk_cell BK374.out 0).trans rfl, (blk_cell BK374.out 1).trans rfl, (blk_cell BK374.out 2).trans rfl⟩ (fun hHeld => ?_)
 clear hK K
 refine norm_ (a' := ?_) ?_ ?_
 rotate_left
 · show Act.put _ (some 77) _ = _
   simp only [Act.put, List.setIfInBounds_toArray, List.set_cons_zero, List.set_cons_succ, i64_w, i32_w]
   rfl
 refine pure_ (i := 27) (N := some 78) (v := ?_) (a' := ?_) #[true, true, true, true, true, true, true, true, true, true, true, true, true, true, true, true, true, true, true, true, true, true, true, true, true, true, true, true, false, false, false, false, false] rfl rfl (any_of HT_.out (by kernel_rfl)) (fun _ _ _ h => h) (Or.inl ⟨by rfl, ?_⟩) ?_ ?_
 rotate_left
 · intro w'
   go_simp
   with_reducible rfl
 rotate_left
 · simp only [Act.put, List.setIfInBounds_toArray, List.set_cons_zero, List.set_cons_succ, i64_w, i32_w]
   rfl
 refine pure_ (i := 28) (N := some 79) (v := ?_) (a' := ?_) #[true, true, true, true, true, true, true, true, true, true, true, true, true, true, true, true, true, true, true, true, true, true, true, true, true, true, true, true, true, false, false, false, false] rfl rfl (any_of HT_.out (by kernel_rfl)) (fun _ _ _ h => h) (Or.inl ⟨by rfl, ?_⟩) ?_ ?_
 rotate_left
 · intro w'
   go_simp
   with_reducible rfl
 rotate_left
 · simp only [Act.put, List.setIfInBounds_toArray, List.set_cons_zero, List.set_cons_succ, i64_w, i32_w]
   rfl
 refine pure_ (i := 29) (N := some 80) (v := ?_) (a' := ?_) #[true, true, true, true, true, true, true, true, true, true, true, true, true, true, true, true, true, true, true, true, true, true, true, true, true, true, true, true, true, true, false, false, false] rfl rfl (any_of HT_.out (by kernel_rfl)) (fun _ _ _ h => h) (Or.inl ⟨by rfl, ?_⟩) ?_ ?_
 rotate_left
 · intro w'
   go_simp
   with_reducible rfl
 rotate_left
 · simp only [Act.put, List.setIfInBounds_toArray, List.set_cons_zero, List.set_cons_succ, i64_w, i32_w]
   rfl
 refine one_ (i := 30) (N := some 81) #[true, true, true, true, true, true, true, true, true, true, true, true, true, true, true, true, true, true, true, true, true, true, true, true, true, true, true, true, true, true, true, false, false] rfl rfl (one_of HT_.out (by kernel_rfl)) (by decide) (fun K hK => ?_)
 refine goes_ Try.func15 (by kernel_rfl) rfl #[] (by rfl) rfl rfl sqA ?_
 with_reducible refine (boarderlaw13_knows.calls kj4  t387 _ A27.out).mono ?_
 rintro e w39 ⟨rfl, hb⟩
 refine ⟨_, rfl, ?_⟩
 replace BK374 := sqM (blk_below (sqK BK374.out) hb)
 replace HB := sqM (below_step (sqB1 HB.out GE374.out) hb)
 (try clear hb)
 (try clear hb2)
 (try clear hk)
 (try clear hi)
 refine hK.out _ _ ⟨(blk_cell BK374.out 0).trans rfl, (blk_cell BK374.out 1).trans rfl, (blk_cell BK374.out 2).trans rfl⟩ (fun hHeld => ?_)
 clear hK K
 refine norm_ (a' := ?_) ?_ ?_
 rotate_left
 · show Act.put _ (some 81) _ = _
   simp only [Act.put, List.setIfInBounds_toArray, List.set_cons_zero, List.set_cons_succ, i64_w, i32_w]
   rfl
 refine pure_ (i := 31) (N := some 82) (v := ?_) (a' := ?_) #[true, true, true, true, true, true, true, true, true, true, true, true, true, true, true, true, true, true, true, true, true, true, true, true, true, true, true, true, true, true, true, true, false] rfl rfl (any_of HT_.out (by kernel_rfl)) (fun _ _ _ h => h) (Or.inl ⟨by rfl, ?_⟩) ?_ ?_
 rotate_left
 · intro w'
   go_simp
   with_reducible rfl
 rotate_left
 · simp only [Act.put, List.setIfInBounds_toArray, List.set_cons_zero, List.set_cons_succ, i64_w, i32_w]
   rfl
 refine pure_ (i := 32) (N := some 8) (v := ?_) (a' := ?_) #[true, true, true, true, true, true, true, true, true, true, true, true, true, true, true, true, true, true, true, true, true, true, true, true, true, true, true, true, true, true, true, true, true] rfl rfl (any_of HT_.out (by kernel_rfl)) (fun _ _ _ h => h) (Or.inl ⟨by rfl, ?_⟩) ?_ ?_
 rotate_left
 · intro w'
   go_simp
   with_reducible rfl
 rotate_left
 · simp only [Act.put, List.setIfInBounds_toArray, List.set_cons_zero, List.set_cons_succ, i64_w, i32_w]
   rfl
 refine done_ (done_of HT_.out (by kernel_rfl)) ?_
 try go_wp2
 go_ret
 exact ⟨sqE, sqB1 HB.out GE374.out⟩

end Go.Proofs.Ytdcabfonjmeajaa.PConf
