/- Lean functions for Go functions of the given program, and proofs that the code computes them, each under its theorem's own conditions. Written by a program of this session. -/
import Derived.Test.YtdcabfonjmeajaaPConfx0
import Derived.Test.YtdcabfonjmeajaaPConfx11
import Derived.Test.YtdcabfonjmeajaaPConfx13
namespace Go.Proofs.Ytdcabfonjmeajaa.PConf
open Go.RowKit Go.Proofs.YtdcabfonjmeajaaW.PrintWords Go.Proofs.YtdcabfonjmeajaaW.PrintLast Go.Proofs.YtdcabfonjmeajaaW.PrintMore
attribute [local go_sem] max2_int min2_int max_two min_two max_three min_three max_four min_four   -- for this text's walks alone
set_option linter.unusedVariables false
set_option linter.unusedSimpArgs false

/-! ### boarderref13_KeptFor: function 19 -/
mutual
def boarderref13_KeptFor.j0 : Nat → Int → ByteArray → Bool → Int → Int → List (S41) → Option (Int × Bool)
  | 0, _, _, _, _, _, _ => none
  | k + 1, x1, x2, x24, x346000, x346001, x346002 => if x24 = true then (some (0, false)) else (if 0 ≤ x1 then (if x1 < (x346002.length : Int) then (boarderref13_KeptFor.l0 k x2 ((rd_T41 x346002 x1).f0) 0) else (none)) else (none))
def boarderref13_KeptFor.l0 : Nat → ByteArray → List (S57) → Int → Option (Int × Bool)
  | 0, _, _, _ => none
  | k + 1, x2, x8, x9 => if x9 < (x8.length : Int) then (boarderref13_KeptFor.l1 k x2 x8 x9 0) else (some (0, false))
def boarderref13_KeptFor.l1 : Nat → ByteArray → List (S57) → Int → Int → Option (Int × Bool)
  | 0, _, _, _, _ => none
  | k + 1, x2, x8, x9, x10 => if 0 ≤ x9 then (if x9 < (x8.length : Int) then (if x10 < (((rd_T57 x8 x9).f3).length : Int) then (if 0 ≤ x10 then (if ((rd_T59 ((rd_T57 x8 x9).f3) x10).f0).toList = x2.toList then (some ((rd_T59 ((rd_T57 x8 x9).f3) x10).f1, true)) else (boarderref13_KeptFor.l1 k x2 x8 x9 (wrap64 (x10 + 1)))) else (none)) else (boarderref13_KeptFor.l0 k x2 x8 (wrap64 (x9 + 1)))) else (none)) else (none)
end
def boarderref13_KeptFor.f (k : Nat) (a0_0 : Int) (a0_1 : Int) (l0_2 : List (S41)) (a1 : Int) (a2 : ByteArray) : Option (Int × Bool) := (boarderref13_Check.f k a0_0 a0_1 l0_2).bind fun t346 => (if t346 = 0 then (if a1 < 0 then (boarderref13_KeptFor.j0 k a1 a2 true a0_0 a0_1 l0_2) else (boarderref13_KeptFor.j0 k a1 a2 (decide (a1 ≥ (l0_2.length : Int))) a0_0 a0_1 l0_2)) else (boarderref13_KeptFor.j0 k a1 a2 true a0_0 a0_1 l0_2))
set_option maxHeartbeats 8000000 in
set_option maxRecDepth 100000 in
theorem boarderref13_KeptFor.calls (k : Nat) (a0_0 : Int) (a0_1 : Int) (A0_2 : Option Addr) (c0_2 : Nat) (l0_2 : List (S41)) (a1 : Int) (a2 : ByteArray) (r1 : Int) (r2 : Bool) (w : World) (hr0_2 : Kd.C k41 w A0_2 l0_2.length l0_2) (hc0_2 : l0_2.length ≤ c0_2) (h : boarderref13_KeptFor.f k a0_0 a0_1 l0_2 a1 a2 = some (r1, r2)) :
    Calls Try.prog 19 #[.agg #[.int .i64 a0_0, .int .i64 a0_1, .slice A0_2 l0_2.length c0_2], .int .i64 a1, .string a2] w fun e w' => e = .returned (.tuple #[.int .i64 r1, .bool r2]) ∧ Below w.heap.size w w' := by
 have hu24 := Try.underlying24
 have HR0_2 := Aside0.mk hr0_2
 have HC0_2 := Aside0.mk hc0_2
 clear hr0_2 hc0_2
 have HB := Aside0.mk (Below.refl w.heap.size w)
 have H : ((boarderref13_Check.f k a0_0 a0_1 l0_2).bind fun t346 => (if t346 = 0 then (if a1 < 0 then (boarderref13_KeptFor.j0 k a1 a2 true a0_0 a0_1 l0_2) else (boarderref13_KeptFor.j0 k a1 a2 (decide (a1 ≥ (l0_2.length : Int))) a0_0 a0_1 l0_2)) else (boarderref13_KeptFor.j0 k a1 a2 true a0_0 a0_1 l0_2))) = some (r1, r2) := h
 clear h
 have HC4 := Aside0.mk H
 clear H
 go_enter Try.func19, Try.ntmps19
 go_upto_region 1 with (first | ((with_reducible refine gate_dst (N := 3) rfl ?_); (try (refine gate_guard (by rfl) ?_; dsimp only)); refine box_event rfl (N := 3) rfl (cs := #[.int .i64 a0_0, .int .i64 a0_1, .slice A0_2 l0_2.length c0_2]) (t := 24) sqs ?_; intro gb345 hg w5 hbox hb; have BK345 := sqM (hbox); have GW345 := sqM (sqZ hg (sqB HB.out)); have GE345 := sqM (sqZ hg (sqB HB.out)); replace HB := sqM (below_step (sqB HB.out) hb); clear hb hbox hg))
 (try simp only [Act.put, List.setIfInBounds_toArray, List.set_cons_zero, List.set_cons_succ])
 go_cut [24] (fun v24 wc => ∃ (kq : Nat) (x24_3 : Bool), v24 = .bool x24_3 ∧ Aside0 (boarderref13_KeptFor.j0 kq a1 a2 x24_3 a0_0 a0_1 l0_2 = some (r1, r2)) ∧ Aside0 (kq ≤ k) ∧ Aside0 (wc.heap[gb345]? = some (.cells #[.int .i64 a0_0, .int .i64 a0_1, (.slice A0_2 l0_2.length c0_2)] 24 (0, 0))) ∧ Aside0 (Below w.heap.size w wc))
 case first =>
  have H := HC4.out
  clear HC4
  replace H := Option.bind_eq_some_iff.mp H
  obtain ⟨t346, A60, H⟩ := H
  replace H : (if t346 = 0 then (if a1 < 0 then (boarderref13_KeptFor.j0 k a1 a2 true a0_0 a0_1 l0_2) else (boarderref13_KeptFor.j0 k a1 a2 (decide (a1 ≥ (l0_2.length : Int))) a0_0 a0_1 l0_2)) else (boarderref13_KeptFor.j0 k a1 a2 true a0_0 a0_1 l0_2)) = some (r1, r2) := H
  have A6 := Aside0.mk A60
  clear A60
  by_cases c7 : t346 = 0
  rotate_left
  · rw [if_neg c7] at H
    have c7b0 : (t346 == 0) = false := beq_eq_false_iff_ne.mpr c7
    have c7b1 : (t346 != 0) = true := bne_iff_ne.mpr c7
    (first | rw [c7b0] | (simp only [i64_w, i32_w]; rw [c7b0]) | skip)
    have H' := Aside0.mk H
    clear H
    obtain ⟨hcz14_0, hcz14_1, hcz14_2, hfz14_0, hfz14_1, hfz14_2⟩ := sqF3 BK345.out
    go_wp2_with (first | ((with_reducible refine gate_callee (f := 17) rfl ?_); refine goesL_ (some 12) rfl rfl Try.func17 (by kernel_rfl) rfl #[.agg #[.int .i64 a0_0, .int .i64 a0_1, .slice A0_2 l0_2.length c0_2]] rfl sqA ?_; (with_reducible refine (boarderref13_Check.calls _ _ _ _ _ _ _ _ ?side1 ?side2 A6.out).mono ?_); (case side1 => repeat (first | exact (Kd.C_below HR0_2.out HB.out) | (with_reducible refine Kd.C_alloc ?_ _) | (with_reducible refine Kd.C_drewN ?_ _) | (with_reducible refine Kd.C_drew ?_))); (case side2 => exact HC0_2.out); rintro e w15 ⟨rfl, hb⟩; refine ⟨_, rfl, ?_⟩; replace BK345 := sqM (blk_below (sqK BK345.out) hb); replace HB := sqM (below_step (sqB1 HB.out GE345.out) hb); (try clear hb); (try clear hb2); (try clear hk); (try clear hi)))
    go_meet
    case rel => exact ⟨_, (true), sqI, H', ⟨by first | omega | exact Nat.le_refl _⟩, ⟨sqK BK345.out⟩, ⟨sqB1 HB.out GE345.out⟩⟩
  rw [if_pos c7] at H
  have c7b0 : (t346 == 0) = true := beq_iff_eq.mpr c7
  have c7b1 : (t346 != 0) = false := bne_eq_false_iff_eq.mpr c7
  clear c7
  (first | rw [c7b0] | (simp only [i64_w, i32_w]; rw [c7b0]) | skip)
  by_cases c8 : a1 < 0
  · rw [if_pos c8] at H
    have c8b0 : decide (a1 < 0) = true := decide_eq_true c8
    clear c8
    have H' := Aside0.mk H
    clear H
    obtain ⟨hcz9_0, hcz9_1, hcz9_2, hfz9_0, hfz9_1, hfz9_2⟩ := sqF3 BK345.out
    go_wp2_with (first | ((with_reducible refine gate_callee (f := 17) rfl ?_); refine goesL_ (some 12) rfl rfl Try.func17 (by kernel_rfl) rfl #[.agg #[.int .i64 a0_0, .int .i64 a0_1, .slice A0_2 l0_2.length c0_2]] rfl sqA ?_; (with_reducible refine (boarderref13_Check.calls _ _ _ _ _ _ _ _ ?side1 ?side2 A6.out).mono ?_); (case side1 => repeat (first | exact (Kd.C_below HR0_2.out HB.out) | (with_reducible refine Kd.C_alloc ?_ _) | (with_reducible refine Kd.C_drewN ?_ _) | (with_reducible refine Kd.C_drew ?_))); (case side2 => exact HC0_2.out); rintro e w10 ⟨rfl, hb⟩; refine ⟨_, rfl, ?_⟩; replace BK345 := sqM (blk_below (sqK BK345.out) hb); replace HB := sqM (below_step (sqB1 HB.out GE345.out) hb); (try clear hb); (try clear hb2); (try clear hk); (try clear hi)))
    go_meet
    case rel => exact ⟨_, (true), sqI, H', ⟨by first | omega | exact Nat.le_refl _⟩, ⟨sqK BK345.out⟩, ⟨sqB1 HB.out GE345.out⟩⟩
  rw [if_neg c8] at H
  have c8b0 : decide (a1 < 0) = false := decide_eq_false c8
  clear c8
  have H' := Aside0.mk H
  clear H
  obtain ⟨hcz11_0, hcz11_1, hcz11_2, hfz11_0, hfz11_1, hfz11_2⟩ := sqF3 BK345.out
  go_wp2_with (first | ((with_reducible refine gate_callee (f := 17) rfl ?_); refine goesL_ (some 12) rfl rfl Try.func17 (by kernel_rfl) rfl #[.agg #[.int .i64 a0_0, .int .i64 a0_1, .slice A0_2 l0_2.length c0_2]] rfl sqA ?_; (with_reducible refine (boarderref13_Check.calls _ _ _ _ _ _ _ _ ?side1 ?side2 A6.out).mono ?_); (case side1 => repeat (first | exact (Kd.C_below HR0_2.out HB.out) | (with_reducible refine Kd.C_alloc ?_ _) | (with_reducible refine Kd.C_drewN ?_ _) | (with_reducible refine Kd.C_drew ?_))); (case side2 => exact HC0_2.out); rintro e w12 ⟨rfl, hb⟩; refine ⟨_, rfl, ?_⟩; replace BK345 := sqM (blk_below (sqK BK345.out) hb); replace HB := sqM (below_step (sqB1 HB.out GE345.out) hb); (try clear hb); (try clear hb2); (try clear hk); (try clear hi); obtain ⟨hcz13_0, hcz13_1, hcz13_2, hfz13_0, hfz13_1, hfz13_2⟩ := sqF3 BK345.out))
  go_meet
  case rel => exact ⟨_, (decide (a1 ≥ (l0_2.length : Int))), sqI, H', ⟨by first | omega | exact Nat.le_refl _⟩, ⟨sqK BK345.out⟩, ⟨sqB1 HB.out GE345.out⟩⟩
 clear HC4
 try clear c1
 try clear p2
 try clear c7
 try clear c7b0
 try clear c7b1
 try clear c8
 try clear c8b0
 try clear hcz11_0 hcz11_1 hcz11_2
 try clear hcz13_0 hcz13_1 hcz13_2
 try clear hcz14_0 hcz14_1 hcz14_2
 try clear hcz9_0 hcz9_1 hcz9_2
 try clear hfz11_0 hfz11_1 hfz11_2
 try clear hfz13_0 hfz13_1 hfz13_2
 try clear hfz14_0 hfz14_1 hfz14_2
 try clear hfz9_0 hfz9_1 hfz9_2
 obtain ⟨kq, x24_3, rfl, HA, HJ3, BK345, HB⟩ := hcut
 cases kq with
 | zero => exact absurd HA.out (by simp [boarderref13_KeptFor.j0])
 | succ kj3 => ?_
 have H := HA.out
 clear HA
 simp only [boarderref13_KeptFor.j0] at H
 by_cases c16 : x24_3 = true
 · subst c16
   have H1 : (some (0, false)) = some (r1, r2) := by rw [if_pos rfl] at H; exact H
   clear H
   have H := H1
   clear H1
   simp only [Option.some.injEq, Prod.mk.injEq] at H
   obtain ⟨rfl, rfl⟩ := H
   go_wp2
   go_ret2
   exact ⟨sqE, sqB1 HB.out GE345.out⟩
 replace c16 := Bool.eq_false_iff.mpr c16
 subst c16
 have H1 : (if 0 ≤ a1 then (if a1 < (l0_2.length : Int) then (boarderref13_KeptFor.l0 kj3 a2 ((rd_T41 l0_2 a1).f0) 0) else (none)) else (none)) = some (r1, r2) := by rw [if_neg (show ¬ (false = true) by decide)] at H; exact H
 clear H
 have H := H1
 clear H1
 by_cases c17 : 0 ≤ a1
 rotate_left
 · rw [if_neg c17] at H
   exact absurd H (by simp)
 rw [if_pos c17] at H
 have c17b0 : decide (0 ≤ a1) = true := decide_eq_true c17
 clear c17
 by_cases c18 : a1 < (l0_2.length : Int)
 rotate_left
 · rw [if_neg c18] at H
   exact absurd H (by simp)
 rw [if_pos c18] at H
 have c18b0 : decide (a1 < (l0_2.length : Int)) = true := decide_eq_true c18
 clear c18
 have H' := Aside0.mk H
 clear H
 obtain ⟨hcz19_0, hcz19_1, hcz19_2, hfz19_0, hfz19_1, hfz19_2⟩ := sqF3 BK345.out
 have p347 : 0 ≤ (a1 : Int) := of_decide_eq_true sqH
 have q347 : a1 < (l0_2.length : Int) := of_decide_eq_true sqH
 obtain ⟨ad347, A347_0, c347_0, e347, hx347_0, hl347_0, hi347_0⟩ := at_T41 HR0_2.out a1 p347 q347
 cases e347
 replace hx347_0 := sqx HB.out hx347_0
 have HR347_0 := Aside0.mk hi347_0
 have HC347_0 := Aside0.mk hl347_0
 clear hi347_0 hl347_0
 replace p347 := eq_true p347
 replace q347 := eq_true q347
 go_wp2
 go_loopg [9] kj3 (fun kq v9 w' => ∃ (x9_2 : Int), v9 = .int .i64 x9_2 ∧ Aside0 (boarderref13_KeptFor.l0 kq a2 ((rd_T41 l0_2 a1).f0) x9_2 = some (r1, r2)) ∧ Aside0 (kq ≤ kj3) ∧ Aside0 (w'.heap[gb345]? = some (.cells #[.int .i64 a0_0, .int .i64 a0_1, (.slice (some ad347) l0_2.length c0_2)] 24 (0, 0))) ∧ Aside0 (Below w.heap.size w w'))
 case atStart => exact ⟨(0), sqI, H', ⟨Nat.le_refl _⟩, ⟨sqK BK345.out⟩, ⟨sqB1 HB.out GE345.out⟩⟩
 clear H'
 try clear c1
 try clear p2
 try clear c3
 try clear p3
 try clear q3
 try clear hx3
 try clear c7
 try clear c7b0
 try clear c7b1
 try clear c8
 try clear c8b0
 try clear c16
 try clear c17
 try clear c17b0
 try clear c18
 try clear c18b0
 try clear c19
 try clear hcz11_0 hcz11_1 hcz11_2
 try clear hcz13_0 hcz13_1 hcz13_2
 try clear hcz14_0 hcz14_1 hcz14_2
 try clear hcz19_0 hcz19_1 hcz19_2
 try clear hcz9_0 hcz9_1 hcz9_2
 try clear hfz11_0 hfz11_1 hfz11_2
 try clear hfz13_0 hfz13_1 hfz13_2
 try clear hfz14_0 hfz14_1 hfz14_2
 try clear hfz19_0 hfz19_1 hfz19_2
 try clear hfz9_0 hfz9_1 hfz9_2
 try clear hx347_0
 try clear p2
 try clear p347
 try clear q347
 obtain ⟨x9_2, rfl, HA, HK2, BK345, HB⟩ := hrel
 cases gk with
 | zero => exact absurd HA.out (by simp [boarderref13_KeptFor.l0])
 | succ k2 => ?_
 have H := HA.out
 clear HA
 simp only [boarderref13_KeptFor.l0] at H
 by_cases c20 : x9_2 < (((rd_T41 l0_2 a1).f0).length : Int)
 rotate_left
 · rw [if_neg c20] at H
   have c20b0 : decide (x9_2 < (((rd_T41 l0_2 a1).f0).length : Int)) = false := decide_eq_false c20
   clear c20
   simp only [Option.some.injEq, Prod.mk.injEq] at H
   obtain ⟨rfl, rfl⟩ := H
   go_wp2
   go_ret2
   exact ⟨sqE, sqB1 HB.out GE345.out⟩
 rw [if_pos c20] at H
 have c20b0 : decide (x9_2 < (((rd_T41 l0_2 a1).f0).length : Int)) = true := decide_eq_true c20
 clear c20
 have H' := Aside0.mk H
 clear H
 go_wp2
 go_loopg [10] k2 (fun kq v10 w' => ∃ (x10_3 : Int), v10 = .int .i64 x10_3 ∧ Aside0 (boarderref13_KeptFor.l1 kq a2 ((rd_T41 l0_2 a1).f0) x9_2 x10_3 = some (r1, r2)) ∧ Aside0 (kq ≤ k2) ∧ Aside0 (w'.heap[gb345]? = some (.cells #[.int .i64 a0_0, .int .i64 a0_1, (.slice (some ad347) l0_2.length c0_2)] 24 (0, 0))) ∧ Aside0 (Below w.heap.size w w'))
 case atStart => exact ⟨(0), sqI, H', ⟨Nat.le_refl _⟩, ⟨sqK BK345.out⟩, ⟨sqB1 HB.out GE345.out⟩⟩
 clear H'
 try clear c1
 try clear c2
 try clear p2
 try clear c3
 try clear p3
 try clear q3
 try clear hx3
 try clear c7
 try clear c7b0
 try clear c7b1
 try clear c8
 try clear c8b0
 try clear c16
 try clear c17
 try clear c17b0
 try clear c18
 try clear c18b0
 try clear c19
 try clear c20
 try clear c20b0
 try clear hcz11_0 hcz11_1 hcz11_2
 try clear hcz13_0 hcz13_1 hcz13_2
 try clear hcz14_0 hcz14_1 hcz14_2
 try clear hcz19_0 hcz19_1 hcz19_2
 try clear hcz9_0 hcz9_1 hcz9_2
 try clear hfz11_0 hfz11_1 hfz11_2
 try clear hfz13_0 hfz13_1 hfz13_2
 try clear hfz14_0 hfz14_1 hfz14_2
 try clear hfz19_0 hfz19_1 hfz19_2
 try clear hfz9_0 hfz9_1 hfz9_2
 try clear hx347_0
 try clear p2
 try clear p3
 try clear p347
 try clear q3
 try clear q347
 obtain ⟨x10_3, rfl, HA, HK3, BK345, HB⟩ := hrel
 cases gk with
 | zero => exact absurd HA.out (by simp [boarderref13_KeptFor.l1])
 | succ k3 => ?_
 have H := HA.out
 clear HA
 simp only [boarderref13_KeptFor.l1] at H
 by_cases c21 : 0 ≤ x9_2
 rotate_left
 · rw [if_neg c21] at H
   exact absurd H (by simp)
 rw [if_pos c21] at H
 have c21b0 : decide (0 ≤ x9_2) = true := decide_eq_true c21
 clear c21
 by_cases c22 : x9_2 < (((rd_T41 l0_2 a1).f0).length : Int)
 rotate_left
 · rw [if_neg c22] at H
   exact absurd H (by simp)
 rw [if_pos c22] at H
 have c22b0 : decide (x9_2 < (((rd_T41 l0_2 a1).f0).length : Int)) = true := decide_eq_true c22
 clear c22
 by_cases c23 : x10_3 < (((rd_T57 ((rd_T41 l0_2 a1).f0) x9_2).f3).length : Int)
 rotate_left
 · rw [if_neg c23] at H
   have c23b0 : decide (x10_3 < (((rd_T57 ((rd_T41 l0_2 a1).f0) x9_2).f3).length : Int)) = false := decide_eq_false c23
   clear c23
   have H' := Aside0.mk H
   clear H
   have p348 : 0 ≤ (x9_2 : Int) := of_decide_eq_true sqH
   have q348 : x9_2 < (((rd_T41 l0_2 a1).f0).length : Int) := of_decide_eq_true sqH
   obtain ⟨ad348, A348_2, c348_2, A348_3, c348_3, e348, hx348_0, hx348_1, hx348_2, hx348_3, hx348_4, hx348_5, hx348_6, hl348_2, hi348_2, hl348_3, hi348_3⟩ := at_T57 HR347_0.out x9_2 p348 q348
   cases e348
   replace hx348_0 := sqx HB.out hx348_0
   replace hx348_1 := sqx HB.out hx348_1
   replace hx348_2 := sqx HB.out hx348_2
   replace hx348_3 := sqx HB.out hx348_3
   replace hx348_4 := sqx HB.out hx348_4
   replace hx348_5 := sqx HB.out hx348_5
   replace hx348_6 := sqx HB.out hx348_6
   have HR348_2 := sqM hi348_2
   have HC348_2 := sqM hl348_2
   clear hi348_2 hl348_2
   have HR348_3 := sqM hi348_3
   have HC348_3 := sqM hl348_3
   clear hi348_3 hl348_3
   replace p348 := eq_true p348
   replace q348 := eq_true q348
   go_wp2
   go_roundg k3
   case measure => have := HJ3.out; have := HK2.out; have := HK3.out; omega
   case rel => exact ⟨(wrap64 (x9_2 + 1)), sqI, H', ⟨by have := HJ3.out; have := HK2.out; have := HK3.out; omega⟩, ⟨sqK BK345.out⟩, ⟨sqB1 HB.out GE345.out⟩⟩
 rw [if_pos c23] at H
 have c23b0 : decide (x10_3 < (((rd_T57 ((rd_T41 l0_2 a1).f0) x9_2).f3).length : Int)) = true := decide_eq_true c23
 clear c23
 by_cases c24 : 0 ≤ x10_3
 rotate_left
 · rw [if_neg c24] at H
   exact absurd H (by simp)
 rw [if_pos c24] at H
 have c24b0 : decide (0 ≤ x10_3) = true := decide_eq_true c24
 clear c24
 by_cases c25 : ((rd_T59 ((rd_T57 ((rd_T41 l0_2 a1).f0) x9_2).f3) x10_3).f0).toList = a2.toList
 rotate_left
 · rw [if_neg c25] at H
   have c25b0 : (((rd_T59 ((rd_T57 ((rd_T41 l0_2 a1).f0) x9_2).f3) x10_3).f0).toList == a2.toList) = false := beq_eq_false_iff_ne.mpr c25
   have c25b1 : (((rd_T59 ((rd_T57 ((rd_T41 l0_2 a1).f0) x9_2).f3) x10_3).f0).toList != a2.toList) = true := bne_iff_ne.mpr c25
   have H' := Aside0.mk H
   clear H
   have p348 : 0 ≤ (x9_2 : Int) := of_decide_eq_true sqH
   have q348 : x9_2 < (((rd_T41 l0_2 a1).f0).length : Int) := of_decide_eq_true sqH
   obtain ⟨ad348, A348_2, c348_2, A348_3, c348_3, e348, hx348_0, hx348_1, hx348_2, hx348_3, hx348_4, hx348_5, hx348_6, hl348_2, hi348_2, hl348_3, hi348_3⟩ := at_T57 HR347_0.out x9_2 p348 q348
   cases e348
   replace hx348_0 := sqx HB.out hx348_0
   replace hx348_1 := sqx HB.out hx348_1
   replace hx348_2 := sqx HB.out hx348_2
   replace hx348_3 := sqx HB.out hx348_3
   replace hx348_4 := sqx HB.out hx348_4
   replace hx348_5 := sqx HB.out hx348_5
   replace hx348_6 := sqx HB.out hx348_6
   have HR348_2 := sqM hi348_2
   have HC348_2 := sqM hl348_2
   clear hi348_2 hl348_2
   have HR348_3 := sqM hi348_3
   have HC348_3 := sqM hl348_3
   clear hi348_3 hl348_3
   replace p348 := eq_true p348
   replace q348 := eq_true q348
   have p349 : 0 ≤ (x9_2 : Int) := of_decide_eq_true sqH
   have q349 : x9_2 < (((rd_T41 l0_2 a1).f0).length : Int) := of_decide_eq_true sqH
   obtain ⟨ad349, A349_2, c349_2, A349_3, c349_3, e349, hx349_0, hx349_1, hx349_2, hx349_3, hx349_4, hx349_5, hx349_6, hl349_2, hi349_2, hl349_3, hi349_3⟩ := at_T57 HR347_0.out x9_2 p349 q349
   obtain rfl : ad348 = ad349 := (by injection e349)
   replace hx349_0 := sqx HB.out hx349_0
   replace hx349_1 := sqx HB.out hx349_1
   replace hx349_2 := sqx HB.out hx349_2
   replace hx349_3 := sqx HB.out hx349_3
   replace hx349_4 := sqx HB.out hx349_4
   replace hx349_5 := sqx HB.out hx349_5
   replace hx349_6 := sqx HB.out hx349_6
   have HR349_2 := sqM hi349_2
   have HC349_2 := sqM hl349_2
   clear hi349_2 hl349_2
   have HR349_3 := sqM hi349_3
   have HC349_3 := sqM hl349_3
   clear hi349_3 hl349_3
   replace p349 := eq_true p349
   replace q349 := eq_true q349
   have ea_ := Option.some.inj (hx348_2.symm.trans hx349_2)
   injection ea_ with ea_ en_ ec_
   subst ea_
   subst ec_
   clear en_
   have ea_ := Option.some.inj (hx348_3.symm.trans hx349_3)
   injection ea_ with ea_ en_ ec_
   subst ea_
   subst ec_
   clear en_
   have p350 : 0 ≤ (x10_3 : Int) := of_decide_eq_true sqH
   have q350 : x10_3 < (((rd_T57 ((rd_T41 l0_2 a1).f0) x9_2).f3).length : Int) := of_decide_eq_true sqH
   obtain ⟨ad350, e350, hx350_0, hx350_1⟩ := at_T59 HR349_3.out x10_3 p350 q350
   cases e350
   replace hx350_0 := sqx HB.out hx350_0
   replace hx350_1 := sqx HB.out hx350_1
   replace p350 := eq_true p350
   replace q350 := eq_true q350
   go_wp2
   go_roundg k3
   case measure => have := HJ3.out; have := HK2.out; have := HK3.out; omega
   case rel => exact ⟨(wrap64 (x10_3 + 1)), sqI, H', ⟨by have := HJ3.out; have := HK2.out; have := HK3.out; omega⟩, ⟨sqK BK345.out⟩, ⟨sqB1 HB.out GE345.out⟩⟩
 rw [if_pos c25] at H
 have c25b0 : (((rd_T59 ((rd_T57 ((rd_T41 l0_2 a1).f0) x9_2).f3) x10_3).f0).toList == a2.toList) = true := beq_iff_eq.mpr c25
 have c25b1 : (((rd_T59 ((rd_T57 ((rd_T41 l0_2 a1).f0) x9_2).f3) x10_3).f0).toList != a2.toList) = false := bne_eq_false_iff_eq.mpr c25
 clear c25
 simp only [Option.some.injEq, Prod.mk.injEq] at H
 obtain ⟨rfl, rfl⟩ := H
 have p348 : 0 ≤ (x9_2 : Int) := of_decide_eq_true sqH
 have q348 : x9_2 < (((rd_T41 l0_2 a1).f0).length : Int) := of_decide_eq_true sqH
 obtain ⟨ad348, A348_2, c348_2, A348_3, c348_3, e348, hx348_0, hx348_1, hx348_2, hx348_3, hx348_4, hx348_5, hx348_6, hl348_2, hi348_2, hl348_3, hi348_3⟩ := at_T57 HR347_0.out x9_2 p348 q348
 cases e348
 replace hx348_0 := sqx HB.out hx348_0
 replace hx348_1 := sqx HB.out hx348_1
 replace hx348_2 := sqx HB.out hx348_2
 replace hx348_3 := sqx HB.out hx348_3
 replace hx348_4 := sqx HB.out hx348_4
 replace hx348_5 := sqx HB.out hx348_5
 replace hx348_6 := sqx HB.out hx348_6
 have HR348_2 := sqM hi348_2
 have HC348_2 := sqM hl348_2
 clear hi348_2 hl348_2
 have HR348_3 := sqM hi348_3
 have HC348_3 := sqM hl348_3
 clear hi348_3 hl348_3
 replace p348 := eq_true p348
 replace q348 := eq_true q348
 have p349 : 0 ≤ (x9_2 : Int) := of_decide_eq_true sqH
 have q349 : x9_2 < (((rd_T41 l0_2 a1).f0).length : Int) := of_decide_eq_true sqH
 obtain ⟨ad349, A349_2, c349_2, A349_3, c349_3, e349, hx349_0, hx349_1, hx349_2, hx349_3, hx349_4, hx349_5, hx349_6, hl349_2, hi349_2, hl349_3, hi349_3⟩ := at_T57 HR347_0.out x9_2 p349 q349
 obtain rfl : ad348 = ad349 := (by injection e349)
 replace hx349_0 := sqx HB.out hx349_0
 replace hx349_1 := sqx HB.out hx349_1
 replace hx349_2 := sqx HB.out hx349_2
 replace hx349_3 := sqx HB.out hx349_3
 replace hx349_4 := sqx HB.out hx349_4
 replace hx349_5 := sqx HB.out hx349_5
 replace hx349_6 := sqx HB.out hx349_6
 have HR349_2 := sqM hi349_2
 have HC349_2 := sqM hl349_2
 clear hi349_2 hl349_2
 have HR349_3 := sqM hi349_3
 have HC349_3 := sqM hl349_3
 clear hi349_3 hl349_3
 replace p349 := eq_true p349
 replace q349 := eq_true q349
 have ea_ := Option.some.inj (hx348_2.symm.trans hx349_2)
 injection ea_ with ea_ en_ ec_
 subst ea_
 subst ec_
 clear en_
 have ea_ := Option.some.inj (hx348_3.symm.trans hx349_3)
 injection ea_ with ea_ en_ ec_
 subst ea_
 subst ec_
 clear en_
 have p350 : 0 ≤ (x10_3 : Int) := of_decide_eq_true sqH
 have q350 : x10_3 < (((rd_T57 ((rd_T41 l0_2 a1).f0) x9_2).f3).length : Int) := of_decide_eq_true sqH
 obtain ⟨ad350, e350, hx350_0, hx350_1⟩ := at_T59 HR349_3.out x10_3 p350 q350
 cases e350
 replace hx350_0 := sqx HB.out hx350_0
 replace hx350_1 := sqx HB.out hx350_1
 replace p350 := eq_true p350
 replace q350 := eq_true q350
 have p351 : 0 ≤ (x9_2 : Int) := of_decide_eq_true sqH
 have q351 : x9_2 < (((rd_T41 l0_2 a1).f0).length : Int) := of_decide_eq_true sqH
 obtain ⟨ad351, A351_2, c351_2, A351_3, c351_3, e351, hx351_0, hx351_1, hx351_2, hx351_3, hx351_4, hx351_5, hx351_6, hl351_2, hi351_2, hl351_3, hi351_3⟩ := at_T57 HR347_0.out x9_2 p351 q351
 obtain rfl : ad348 = ad351 := (by injection e351)
 replace hx351_0 := sqx HB.out hx351_0
 replace hx351_1 := sqx HB.out hx351_1
 replace hx351_2 := sqx HB.out hx351_2
 replace hx351_3 := sqx HB.out hx351_3
 replace hx351_4 := sqx HB.out hx351_4
 replace hx351_5 := sqx HB.out hx351_5
 replace hx351_6 := sqx HB.out hx351_6
 have HR351_2 := sqM hi351_2
 have HC351_2 := sqM hl351_2
 clear hi351_2 hl351_2
 have HR351_3 := sqM hi351_3
 have HC351_3 := sqM hl351_3
 clear hi351_3 hl351_3
 replace p351 := eq_true p351
 replace q351 := eq_true q351
 have ea_ := Option.some.inj (hx348_2.symm.trans hx351_2)
 injection ea_ with ea_ en_ ec_
 subst ea_
 subst ec_
 clear en_
 have ea_ := Option.some.inj (hx348_3.symm.trans hx351_3)
 injection ea_ with ea_ en_ ec_
 subst ea_
 subst ec_
 clear en_
 have p352 : 0 ≤ (x10_3 : Int) := of_decide_eq_true sqH
 have q352 : x10_3 < (((rd_T57 ((rd_T41 l0_2 a1).f0) x9_2).f3).length : Int) := of_decide_eq_true sqH
 obtain ⟨ad352, e352, hx352_0, hx352_1⟩ := at_T59 HR351_3.out x10_3 p352 q352
 cases e352
 replace hx352_0 := sqx HB.out hx352_0
 replace hx352_1 := sqx HB.out hx352_1
 replace p352 := eq_true p352
 replace q352 := eq_true q352
 go_wp2
 go_ret2
 exact ⟨sqE, sqB1 HB.out GE345.out⟩

/-! ### boarderref13_Keeper: function 21 -/
mutual
def boarderref13_Keeper.l0 : Nat → Int → List (S57) → Int → Option (ByteArray × Bool)
  | 0, _, _, _ => none
  | k + 1, x1, x6, x8 => if x8 < (x6.length : Int) then (boarderref13_Keeper.l1 k x1 x6 x8 0) else (some ((⟨#[]⟩ : ByteArray), false))
def boarderref13_Keeper.l1 : Nat → Int → List (S57) → Int → Int → Option (ByteArray × Bool)
  | 0, _, _, _, _ => none
  | k + 1, x1, x6, x8, x9 => if 0 ≤ x8 then (if x8 < (x6.length : Int) then (if x9 < (((rd_T57 x6 x8).f3).length : Int) then (if 0 ≤ x9 then (if ((rd_T59 ((rd_T57 x6 x8).f3) x9).f1) = x1 then (some ((rd_T59 ((rd_T57 x6 x8).f3) x9).f0, true)) else (boarderref13_Keeper.l1 k x1 x6 x8 (wrap64 (x9 + 1)))) else (none)) else (boarderref13_Keeper.l0 k x1 x6 (wrap64 (x8 + 1)))) else (none)) else (none)
end
def boarderref13_Keeper.f (k : Nat) (a0_0 : Int) (a0_1 : Int) (l0_2 : List (S41)) (a1 : Int) : Option (ByteArray × Bool) := (boarderref13_Check.f k a0_0 a0_1 l0_2).bind fun t354 => (if t354 = 0 then ((boarderref13_Flat.f k a0_0 a0_1 l0_2).bind fun bt355 => (boarderref13_Keeper.l0 k a1 bt355.1 0)) else (some ((⟨#[]⟩ : ByteArray), false)))
set_option maxHeartbeats 8000000 in
set_option maxRecDepth 100000 in
theorem boarderref13_Keeper.calls (k : Nat) (a0_0 : Int) (a0_1 : Int) (A0_2 : Option Addr) (c0_2 : Nat) (l0_2 : List (S41)) (a1 : Int) (r1 : ByteArray) (r2 : Bool) (w : World) (hr0_2 : Kd.C k41 w A0_2 l0_2.length l0_2) (hc0_2 : l0_2.length ≤ c0_2) (h : boarderref13_Keeper.f k a0_0 a0_1 l0_2 a1 = some (r1, r2)) :
    Calls Try.prog 21 #[.agg #[.int .i64 a0_0, .int .i64 a0_1, .slice A0_2 l0_2.length c0_2], .int .i64 a1] w fun e w' => e = .returned (.tuple #[.string r1, .bool r2]) ∧ Below w.heap.size w w' := by
 have hu24 := Try.underlying24
 have HR0_2 := Aside0.mk hr0_2
 have HC0_2 := Aside0.mk hc0_2
 clear hr0_2 hc0_2
 have HB := Aside0.mk (Below.refl w.heap.size w)
 have H : ((boarderref13_Check.f k a0_0 a0_1 l0_2).bind fun t354 => (if t354 = 0 then ((boarderref13_Flat.f k a0_0 a0_1 l0_2).bind fun bt355 => (boarderref13_Keeper.l0 k a1 bt355.1 0)) else (some ((⟨#[]⟩ : ByteArray), false)))) = some (r1, r2) := h
 clear h
 replace H := Option.bind_eq_some_iff.mp H
 obtain ⟨t354, A30, H⟩ := H
 replace H : (if t354 = 0 then ((boarderref13_Flat.f k a0_0 a0_1 l0_2).bind fun bt355 => (boarderref13_Keeper.l0 k a1 bt355.1 0)) else (some ((⟨#[]⟩ : ByteArray), false))) = some (r1, r2) := H
 have A3 := Aside0.mk A30
 clear A30
 by_cases c4 : t354 = 0
 rotate_left
 · rw [if_neg c4] at H
   have c4b0 : (t354 == 0) = false := beq_eq_false_iff_ne.mpr c4
   have c4b1 : (t354 != 0) = true := bne_iff_ne.mpr c4
   simp only [Option.some.injEq, Prod.mk.injEq] at H
   obtain ⟨rfl, rfl⟩ := H
   go_enter Try.func21, Try.ntmps21
   go_wp2_with (first | ((with_reducible refine gate_dst (N := 2) rfl ?_); refine box_event rfl (N := 2) rfl (cs := #[.int .i64 a0_0, .int .i64 a0_1, .slice A0_2 l0_2.length c0_2]) (t := 24) sqs ?_; intro gb353 hg w19 hbox hb; have BK353 := sqM (hbox); have GW353 := sqM (sqZ hg (sqB HB.out)); have GE353 := sqM (sqZ hg (sqB HB.out)); replace HB := sqM (below_step (sqB HB.out) hb); clear hb hbox hg; obtain ⟨hcz20_0, hcz20_1, hcz20_2, hfz20_0, hfz20_1, hfz20_2⟩ := sqF3 BK353.out) | ((with_reducible refine gate_callee (f := 17) rfl ?_); refine goesL_ (some 11) rfl rfl Try.func17 (by kernel_rfl) rfl #[.agg #[.int .i64 a0_0, .int .i64 a0_1, .slice A0_2 l0_2.length c0_2]] rfl sqA ?_; (with_reducible refine (boarderref13_Check.calls _ _ _ _ _ _ _ _ ?side1 ?side2 A3.out).mono ?_); (case side1 => repeat (first | exact (Kd.C_below HR0_2.out HB.out) | (with_reducible refine Kd.C_alloc ?_ _) | (with_reducible refine Kd.C_drewN ?_ _) | (with_reducible refine Kd.C_drew ?_))); (case side2 => exact HC0_2.out); rintro e w21 ⟨rfl, hb⟩; refine ⟨_, rfl, ?_⟩; replace BK353 := sqM (blk_below (sqK BK353.out) hb); replace HB := sqM (below_step (sqB1 HB.out GE353.out) hb); (try clear hb); (try clear hb2); (try clear hk); (try clear hi)))
   go_ret2
   exact ⟨sqE, sqB1 HB.out GE353.out⟩
 rw [if_pos c4] at H
 have c4b0 : (t354 == 0) = true := beq_iff_eq.mpr c4
 have c4b1 : (t354 != 0) = false := bne_eq_false_iff_eq.mpr c4
 clear c4
 replace H := Option.bind_eq_some_iff.mp H
 obtain ⟨⟨t355, t358⟩, A50, H⟩ := H
 replace H : (boarderref13_Keeper.l0 k a1 t355 0) = some (r1, r2) := H
 have A5 := Aside0.mk A50
 clear A50
 have H' := Aside0.mk H
 clear H
 go_enter Try.func21, Try.ntmps21
 go_wp2_with (first | ((with_reducible refine gate_dst (N := 2) rfl ?_); refine box_event rfl (N := 2) rfl (cs := #[.int .i64 a0_0, .int .i64 a0_1, .slice A0_2 l0_2.length c0_2]) (t := 24) sqs ?_; intro gb353 hg w6 hbox hb; have BK353 := sqM (hbox); have GW353 := sqM (sqZ hg (sqB HB.out)); have GE353 := sqM (sqZ hg (sqB HB.out)); replace HB := sqM (below_step (sqB HB.out) hb); clear hb hbox hg; obtain ⟨hcz7_0, hcz7_1, hcz7_2, hfz7_0, hfz7_1, hfz7_2⟩ := sqF3 BK353.out) | ((with_reducible refine gate_callee (f := 17) rfl ?_); refine goesL_ (some 11) rfl rfl Try.func17 (by kernel_rfl) rfl #[.agg #[.int .i64 a0_0, .int .i64 a0_1, .slice A0_2 l0_2.length c0_2]] rfl sqA ?_; (with_reducible refine (boarderref13_Check.calls _ _ _ _ _ _ _ _ ?side1 ?side2 A3.out).mono ?_); (case side1 => repeat (first | exact (Kd.C_below HR0_2.out HB.out) | (with_reducible refine Kd.C_alloc ?_ _) | (with_reducible refine Kd.C_drewN ?_ _) | (with_reducible refine Kd.C_drew ?_))); (case side2 => exact HC0_2.out); rintro e w8 ⟨rfl, hb⟩; refine ⟨_, rfl, ?_⟩; replace BK353 := sqM (blk_below (sqK BK353.out) hb); replace HB := sqM (below_step (sqB1 HB.out GE353.out) hb); (try clear hb); (try clear hb2); (try clear hk); (try clear hi); obtain ⟨hcz9_0, hcz9_1, hcz9_2, hfz9_0, hfz9_1, hfz9_2⟩ := sqF3 BK353.out) | ((with_reducible refine gate_callee (f := 47) rfl ?_); refine goesL_ (some 15) rfl rfl Try.func47 (by kernel_rfl) rfl #[.agg #[.int .i64 a0_0, .int .i64 a0_1, .slice A0_2 l0_2.length c0_2]] rfl sqA ?_; (with_reducible refine (boarderref13_Flat.calls _ _ _ (fun k_ => k_ < w.heap.size) _ _ _ _ _ _ ?side1 A5.out).mono ?_); (case side1 => exact Kd.V_mk HC0_2.out (Kd.F_below (Kd.C_F k41_heap HR0_2.out) (sqB1 HB.out GE353.out))); rintro e w10 ⟨v356, v359, rfl, ho0, ho1, hb⟩; refine ⟨_, rfl, ?_⟩; have HO357 := sqM (Kd.N_lower (Kd.N_mono (ok' := fun k_ => some k_ ≠ (v359 : Value).ownBlock ∧ k_ ≠ gb353) ho0 (fun k_ hk_ => ⟨hk_.2, Or.elim hk_.1 (fun hs_ => fun e_ => Nat.not_le.2 hs_ (by rw [e_]; exact GW353.out)) (fun hn_ => (Kd.freshB (g := gb353) (o := .cells #[.int .i64 a0_0, .int .i64 a0_1, .slice A0_2 l0_2.length c0_2] 24 (0, 0)) (sqK BK353.out) k_ hn_))⟩)) (below_size (sqB1 HB.out GE353.out))); have HO360 := sqM (Kd.R_lower (Kd.R_mono (ok' := fun k_ => True) ho1 (fun _ hk_ => trivial)) (below_size (sqB1 HB.out GE353.out))); replace BK353 := sqM (blk_below (sqK BK353.out) hb); replace HB := sqM (below_step (sqB1 HB.out GE353.out) hb); (try clear hb); (try clear hb2); (try clear hk); (try clear hi); (try clear ho0); (try clear ho1)))
 go_loopg [8] k (fun kq v8 w' => ∃ (x8_1 : Int), v8 = .int .i64 x8_1 ∧ Aside0 (boarderref13_Keeper.l0 kq a1 t355 x8_1 = some (r1, r2)) ∧ Aside0 (kq ≤ k) ∧ Aside0 (Kd.N k57 57 w' w.heap.size (fun k_ => k_ ≠ gb353) v356 t355) ∧ Aside0 (w'.heap[gb353]? = some (.cells #[.int .i64 a0_0, .int .i64 a0_1, (.slice A0_2 l0_2.length c0_2)] 24 (0, 0))) ∧ Aside0 (Below w.heap.size w w'))
 case atStart => exact ⟨(0), sqI, H', ⟨Nat.le_refl _⟩, ⟨by refine sqN ?_; exact Kd.N_mono HO357.out (fun _ hk => hk.2)⟩, ⟨sqK BK353.out⟩, ⟨sqB1 HB.out GE353.out⟩⟩
 clear H'
 try clear c1
 try clear c2
 try clear p2
 try clear c4
 try clear c4b0
 try clear c4b1
 try clear hcz7_0 hcz7_1 hcz7_2
 try clear hcz9_0 hcz9_1 hcz9_2
 try clear hfz7_0 hfz7_1 hfz7_2
 try clear hfz9_0 hfz9_1 hfz9_2
 obtain ⟨x8_1, rfl, HA, HK1, HO_6, BK353, HB⟩ := hrel
 cases gk with
 | zero => exact absurd HA.out (by simp [boarderref13_Keeper.l0])
 | succ k1 => ?_
 have H := HA.out
 clear HA
 simp only [boarderref13_Keeper.l0] at H
 by_cases c11 : x8_1 < (t355.length : Int)
 rotate_left
 · rw [if_neg c11] at H
   have c11b0 : decide (x8_1 < (t355.length : Int)) = false := decide_eq_false c11
   clear c11
   simp only [Option.some.injEq, Prod.mk.injEq] at H
   obtain ⟨rfl, rfl⟩ := H
   obtain ⟨Ao18, co18, eo18⟩ := Kd.N_slice HO_6.out
   subst eo18
   go_wp2
   go_ret2
   exact ⟨sqE, sqB1 HB.out GE353.out⟩
 rw [if_pos c11] at H
 have c11b0 : decide (x8_1 < (t355.length : Int)) = true := decide_eq_true c11
 clear c11
 have H' := Aside0.mk H
 clear H
 obtain ⟨Ao12, co12, eo12⟩ := Kd.N_slice HO_6.out
 subst eo12
 go_wp2
 go_loopg [9] k1 (fun kq v9 w' => ∃ (x9_2 : Int), v9 = .int .i64 x9_2 ∧ Aside0 (boarderref13_Keeper.l1 kq a1 t355 x8_1 x9_2 = some (r1, r2)) ∧ Aside0 (kq ≤ k1) ∧ Aside0 (Kd.N k57 57 w' w.heap.size (fun k_ => k_ ≠ gb353) (.slice Ao12 t355.length co12) t355) ∧ Aside0 (w'.heap[gb353]? = some (.cells #[.int .i64 a0_0, .int .i64 a0_1, (.slice A0_2 l0_2.length c0_2)] 24 (0, 0))) ∧ Aside0 (Below w.heap.size w w'))
 case atStart => exact ⟨(0), sqI, H', ⟨Nat.le_refl _⟩, ⟨sqN HO_6.out⟩, ⟨sqK BK353.out⟩, ⟨sqB1 HB.out GE353.out⟩⟩
 clear H'
 try clear c1
 try clear c2
 try clear p2
 try clear c4
 try clear c4b0
 try clear c4b1
 try clear c11
 try clear c11b0
 try clear hcz7_0 hcz7_1 hcz7_2
 try clear hcz9_0 hcz9_1 hcz9_2
 try clear hfz7_0 hfz7_1 hfz7_2
 try clear hfz9_0 hfz9_1 hfz9_2
 try clear p2
 obtain ⟨x9_2, rfl, HA, HK2, HO_6, BK353, HB⟩ := hrel
 cases gk with
 | zero => exact absurd HA.out (by simp [boarderref13_Keeper.l1])
 | succ k2 => ?_
 have H := HA.out
 clear HA
 simp only [boarderref13_Keeper.l1] at H
 by_cases c13 : 0 ≤ x8_1
 rotate_left
 · rw [if_neg c13] at H
   exact absurd H (by simp)
 rw [if_pos c13] at H
 have c13b0 : decide (0 ≤ x8_1) = true := decide_eq_true c13
 clear c13
 by_cases c14 : x8_1 < (t355.length : Int)
 rotate_left
 · rw [if_neg c14] at H
   exact absurd H (by simp)
 rw [if_pos c14] at H
 have c14b0 : decide (x8_1 < (t355.length : Int)) = true := decide_eq_true c14
 clear c14
 by_cases c15 : x9_2 < (((rd_T57 t355 x8_1).f3).length : Int)
 rotate_left
 · rw [if_neg c15] at H
   have c15b0 : decide (x9_2 < (((rd_T57 t355 x8_1).f3).length : Int)) = false := decide_eq_false c15
   clear c15
   have H' := Aside0.mk H
   clear H
   have p361 : 0 ≤ (x8_1 : Int) := of_decide_eq_true sqH
   have q361 : x8_1 < (t355.length : Int) := of_decide_eq_true sqH
   obtain ⟨ad361, A361_2, c361_2, A361_3, c361_3, e361, hx361_0, hx361_1, hx361_2, hx361_3, hx361_4, hx361_5, hx361_6, hl361_2, hi361_2, hl361_3, hi361_3⟩ := at_T57 (Kd.N_reads' HO_6.out).2.2 x8_1 p361 q361
   cases e361
   obtain ⟨ce361, hce361, hMe361, hcc361⟩ := Kd.N_get HO_6.out z57 x8_1 p361 (by first | exact q361 | exact of_decide_eq_true sqH | (have e_ := (Kd.N_reads' HO_6.out).1; omega))
   obtain ⟨ua361_2, uc361_2, ua361_3, uc361_3, rfl, ul361_2, ge361_2, ul361_3, ge361_3⟩ := k57_openF hMe361
   have hv361_2 := hcc361 2 _ rfl
   rw [add_field _ _ 2 (by omega)] at hv361_2
   replace hv361_2 := Option.some.inj (hv361_2.symm.trans hx361_2)
   injection hv361_2 with hva_ hvn_ hvc_
   rw [hva_] at ge361_2
   rw [hvc_] at ul361_2
   have HL361_2 := sqM (show Kd.V k62 62 _ w.heap.size _ _ ((rd_T57 t355 x8_1).f2) from Kd.V_mk ul361_2 ge361_2)
   clear hva_ hvn_ hvc_ ge361_2 ul361_2
   have hv361_3 := hcc361 3 _ rfl
   rw [add_field _ _ 3 (by omega)] at hv361_3
   replace hv361_3 := Option.some.inj (hv361_3.symm.trans hx361_3)
   injection hv361_3 with hva_ hvn_ hvc_
   rw [hva_] at ge361_3
   rw [hvc_] at ul361_3
   have HL361_3 := sqM (show Kd.V k59 59 _ w.heap.size _ _ ((rd_T57 t355 x8_1).f3) from Kd.V_mk ul361_3 ge361_3)
   clear hva_ hvn_ hvc_ ge361_3 ul361_3
   clear hcc361 hce361
   have HR361_2 := Aside0.mk hi361_2
   have HC361_2 := Aside0.mk hl361_2
   clear hi361_2 hl361_2
   have HR361_3 := Aside0.mk hi361_3
   have HC361_3 := Aside0.mk hl361_3
   clear hi361_3 hl361_3
   replace p361 := eq_true p361
   replace q361 := eq_true q361
   go_wp2
   go_roundg k2
   case measure => have := HK1.out; have := HK2.out; omega
   case rel => exact ⟨(wrap64 (x8_1 + 1)), sqI, H', ⟨by have := HK1.out; have := HK2.out; omega⟩, ⟨sqN HO_6.out⟩, ⟨sqK BK353.out⟩, ⟨sqB1 HB.out GE353.out⟩⟩
 rw [if_pos c15] at H
 have c15b0 : decide (x9_2 < (((rd_T57 t355 x8_1).f3).length : Int)) = true := decide_eq_true c15
 clear c15
 by_cases c16 : 0 ≤ x9_2
 rotate_left
 · rw [if_neg c16] at H
   exact absurd H (by simp)
 rw [if_pos c16] at H
 have c16b0 : decide (0 ≤ x9_2) = true := decide_eq_true c16
 clear c16
 by_cases c17 : ((rd_T59 ((rd_T57 t355 x8_1).f3) x9_2).f1) = a1
 rotate_left
 · rw [if_neg c17] at H
   have c17b0 : (((rd_T59 ((rd_T57 t355 x8_1).f3) x9_2).f1) == a1) = false := beq_eq_false_iff_ne.mpr c17
   have c17b1 : (((rd_T59 ((rd_T57 t355 x8_1).f3) x9_2).f1) != a1) = true := bne_iff_ne.mpr c17
   have H' := Aside0.mk H
   clear H
   have p361 : 0 ≤ (x8_1 : Int) := of_decide_eq_true sqH
   have q361 : x8_1 < (t355.length : Int) := of_decide_eq_true sqH
   obtain ⟨ad361, A361_2, c361_2, A361_3, c361_3, e361, hx361_0, hx361_1, hx361_2, hx361_3, hx361_4, hx361_5, hx361_6, hl361_2, hi361_2, hl361_3, hi361_3⟩ := at_T57 (Kd.N_reads' HO_6.out).2.2 x8_1 p361 q361
   cases e361
   obtain ⟨ce361, hce361, hMe361, hcc361⟩ := Kd.N_get HO_6.out z57 x8_1 p361 (by first | exact q361 | exact of_decide_eq_true sqH | (have e_ := (Kd.N_reads' HO_6.out).1; omega))
   obtain ⟨ua361_2, uc361_2, ua361_3, uc361_3, rfl, ul361_2, ge361_2, ul361_3, ge361_3⟩ := k57_openF hMe361
   have hv361_2 := hcc361 2 _ rfl
   rw [add_field _ _ 2 (by omega)] at hv361_2
   replace hv361_2 := Option.some.inj (hv361_2.symm.trans hx361_2)
   injection hv361_2 with hva_ hvn_ hvc_
   rw [hva_] at ge361_2
   rw [hvc_] at ul361_2
   have HL361_2 := sqM (show Kd.V k62 62 _ w.heap.size _ _ ((rd_T57 t355 x8_1).f2) from Kd.V_mk ul361_2 ge361_2)
   clear hva_ hvn_ hvc_ ge361_2 ul361_2
   have hv361_3 := hcc361 3 _ rfl
   rw [add_field _ _ 3 (by omega)] at hv361_3
   replace hv361_3 := Option.some.inj (hv361_3.symm.trans hx361_3)
   injection hv361_3 with hva_ hvn_ hvc_
   rw [hva_] at ge361_3
   rw [hvc_] at ul361_3
   have HL361_3 := sqM (show Kd.V k59 59 _ w.heap.size _ _ ((rd_T57 t355 x8_1).f3) from Kd.V_mk ul361_3 ge361_3)
   clear hva_ hvn_ hvc_ ge361_3 ul361_3
   clear hcc361 hce361
   have HR361_2 := Aside0.mk hi361_2
   have HC361_2 := Aside0.mk hl361_2
   clear hi361_2 hl361_2
   have HR361_3 := Aside0.mk hi361_3
   have HC361_3 := Aside0.mk hl361_3
   clear hi361_3 hl361_3
   replace p361 := eq_true p361
   replace q361 := eq_true q361
   have p362 : 0 ≤ (x8_1 : Int) := of_decide_eq_true sqH
   have q362 : x8_1 < (t355.length : Int) := of_decide_eq_true sqH
   obtain ⟨ad362, A362_2, c362_2, A362_3, c362_3, e362, hx362_0, hx362_1, hx362_2, hx362_3, hx362_4, hx362_5, hx362_6, hl362_2, hi362_2, hl362_3, hi362_3⟩ := at_T57 (Kd.N_reads' HO_6.out).2.2 x8_1 p362 q362
   obtain rfl : ad361 = ad362 := (by injection e362)
   obtain ⟨ce362, hce362, hMe362, hcc362⟩ := Kd.N_get HO_6.out z57 x8_1 p362 (by first | exact q362 | exact of_decide_eq_true sqH | (have e_ := (Kd.N_reads' HO_6.out).1; omega))
   obtain ⟨ua362_2, uc362_2, ua362_3, uc362_3, rfl, ul362_2, ge362_2, ul362_3, ge362_3⟩ := k57_openF hMe362
   have hv362_2 := hcc362 2 _ rfl
   rw [add_field _ _ 2 (by omega)] at hv362_2
   replace hv362_2 := Option.some.inj (hv362_2.symm.trans hx362_2)
   injection hv362_2 with hva_ hvn_ hvc_
   rw [hva_] at ge362_2
   rw [hvc_] at ul362_2
   have HL362_2 := sqM (show Kd.V k62 62 _ w.heap.size _ _ ((rd_T57 t355 x8_1).f2) from Kd.V_mk ul362_2 ge362_2)
   clear hva_ hvn_ hvc_ ge362_2 ul362_2
   have hv362_3 := hcc362 3 _ rfl
   rw [add_field _ _ 3 (by omega)] at hv362_3
   replace hv362_3 := Option.some.inj (hv362_3.symm.trans hx362_3)
   injection hv362_3 with hva_ hvn_ hvc_
   rw [hva_] at ge362_3
   rw [hvc_] at ul362_3
   have HL362_3 := sqM (show Kd.V k59 59 _ w.heap.size _ _ ((rd_T57 t355 x8_1).f3) from Kd.V_mk ul362_3 ge362_3)
   clear hva_ hvn_ hvc_ ge362_3 ul362_3
   clear hcc362 hce362
   have HR362_2 := Aside0.mk hi362_2
   have HC362_2 := Aside0.mk hl362_2
   clear hi362_2 hl362_2
   have HR362_3 := Aside0.mk hi362_3
   have HC362_3 := Aside0.mk hl362_3
   clear hi362_3 hl362_3
   replace p362 := eq_true p362
   replace q362 := eq_true q362
   have ea_ := Option.some.inj (hx361_2.symm.trans hx362_2)
   injection ea_ with ea_ en_ ec_
   subst ea_
   subst ec_
   clear en_
   have ea_ := Option.some.inj (hx361_3.symm.trans hx362_3)
   injection ea_ with ea_ en_ ec_
   subst ea_
   subst ec_
   clear en_
   have p363 : 0 ≤ (x9_2 : Int) := of_decide_eq_true sqH
   have q363 : x9_2 < (((rd_T57 t355 x8_1).f3).length : Int) := of_decide_eq_true sqH
   obtain ⟨ad363, e363, hx363_0, hx363_1⟩ := at_T59 (sqC HR362_3.out) x9_2 p363 q363
   cases e363
   replace p363 := eq_true p363
   replace q363 := eq_true q363
   go_wp2
   go_roundg k2
   case measure => have := HK1.out; have := HK2.out; omega
   case rel => exact ⟨(wrap64 (x9_2 + 1)), sqI, H', ⟨by have := HK1.out; have := HK2.out; omega⟩, ⟨sqN HO_6.out⟩, ⟨sqK BK353.out⟩, ⟨sqB1 HB.out GE353.out⟩⟩
 rw [if_pos c17] at H
 have c17b0 : (((rd_T59 ((rd_T57 t355 x8_1).f3) x9_2).f1) == a1) = true := beq_iff_eq.mpr c17
 have c17b1 : (((rd_T59 ((rd_T57 t355 x8_1).f3) x9_2).f1) != a1) = false := bne_eq_false_iff_eq.mpr c17
 clear c17
 simp only [Option.some.injEq, Prod.mk.injEq] at H
 obtain ⟨rfl, rfl⟩ := H
 have p361 : 0 ≤ (x8_1 : Int) := of_decide_eq_true sqH
 have q361 : x8_1 < (t355.length : Int) := of_decide_eq_true sqH
 obtain ⟨ad361, A361_2, c361_2, A361_3, c361_3, e361, hx361_0, hx361_1, hx361_2, hx361_3, hx361_4, hx361_5, hx361_6, hl361_2, hi361_2, hl361_3, hi361_3⟩ := at_T57 (Kd.N_reads' HO_6.out).2.2 x8_1 p361 q361
 cases e361
 obtain ⟨ce361, hce361, hMe361, hcc361⟩ := Kd.N_get HO_6.out z57 x8_1 p361 (by first | exact q361 | exact of_decide_eq_true sqH | (have e_ := (Kd.N_reads' HO_6.out).1; omega))
 obtain ⟨ua361_2, uc361_2, ua361_3, uc361_3, rfl, ul361_2, ge361_2, ul361_3, ge361_3⟩ := k57_openF hMe361
 have hv361_2 := hcc361 2 _ rfl
 rw [add_field _ _ 2 (by omega)] at hv361_2
 replace hv361_2 := Option.some.inj (hv361_2.symm.trans hx361_2)
 injection hv361_2 with hva_ hvn_ hvc_
 rw [hva_] at ge361_2
 rw [hvc_] at ul361_2
 have HL361_2 := sqM (show Kd.V k62 62 _ w.heap.size _ _ ((rd_T57 t355 x8_1).f2) from Kd.V_mk ul361_2 ge361_2)
 clear hva_ hvn_ hvc_ ge361_2 ul361_2
 have hv361_3 := hcc361 3 _ rfl
 rw [add_field _ _ 3 (by omega)] at hv361_3
 replace hv361_3 := Option.some.inj (hv361_3.symm.trans hx361_3)
 injection hv361_3 with hva_ hvn_ hvc_
 rw [hva_] at ge361_3
 rw [hvc_] at ul361_3
 have HL361_3 := sqM (show Kd.V k59 59 _ w.heap.size _ _ ((rd_T57 t355 x8_1).f3) from Kd.V_mk ul361_3 ge361_3)
 clear hva_ hvn_ hvc_ ge361_3 ul361_3
 clear hcc361 hce361
 have HR361_2 := Aside0.mk hi361_2
 have HC361_2 := Aside0.mk hl361_2
 clear hi361_2 hl361_2
 have HR361_3 := Aside0.mk hi361_3
 have HC361_3 := Aside0.mk hl361_3
 clear hi361_3 hl361_3
 replace p361 := eq_true p361
 replace q361 := eq_true q361
 have p362 : 0 ≤ (x8_1 : Int) := of_decide_eq_true sqH
 have q362 : x8_1 < (t355.length : Int) := of_decide_eq_true sqH
 obtain ⟨ad362, A362_2, c362_2, A362_3, c362_3, e362, hx362_0, hx362_1, hx362_2, hx362_3, hx362_4, hx362_5, hx362_6, hl362_2, hi362_2, hl362_3, hi362_3⟩ := at_T57 (Kd.N_reads' HO_6.out).2.2 x8_1 p362 q362
 obtain rfl : ad361 = ad362 := (by injection e362)
 obtain ⟨ce362, hce362, hMe362, hcc362⟩ := Kd.N_get HO_6.out z57 x8_1 p362 (by first | exact q362 | exact of_decide_eq_true sqH | (have e_ := (Kd.N_reads' HO_6.out).1; omega))
 obtain ⟨ua362_2, uc362_2, ua362_3, uc362_3, rfl, ul362_2, ge362_2, ul362_3, ge362_3⟩ := k57_openF hMe362
 have hv362_2 := hcc362 2 _ rfl
 rw [add_field _ _ 2 (by omega)] at hv362_2
 replace hv362_2 := Option.some.inj (hv362_2.symm.trans hx362_2)
 injection hv362_2 with hva_ hvn_ hvc_
 rw [hva_] at ge362_2
 rw [hvc_] at ul362_2
 have HL362_2 := sqM (show Kd.V k62 62 _ w.heap.size _ _ ((rd_T57 t355 x8_1).f2) from Kd.V_mk ul362_2 ge362_2)
 clear hva_ hvn_ hvc_ ge362_2 ul362_2
 have hv362_3 := hcc362 3 _ rfl
 rw [add_field _ _ 3 (by omega)] at hv362_3
 replace hv362_3 := Option.some.inj (hv362_3.symm.trans hx362_3)
 injection hv362_3 with hva_ hvn_ hvc_
 rw [hva_] at ge362_3
 rw [hvc_] at ul362_3
 have HL362_3 := sqM (show Kd.V k59 59 _ w.heap.size _ _ ((rd_T57 t355 x8_1).f3) from Kd.V_mk ul362_3 ge362_3)
 clear hva_ hvn_ hvc_ ge362_3 ul362_3
 clear hcc362 hce362
 have HR362_2 := Aside0.mk hi362_2
 have HC362_2 := Aside0.mk hl362_2
 clear hi362_2 hl362_2
 have HR362_3 := Aside0.mk hi362_3
 have HC362_3 := Aside0.mk hl362_3
 clear hi362_3 hl362_3
 replace p362 := eq_true p362
 replace q362 := eq_true q362
 have ea_ := Option.some.inj (hx361_2.symm.trans hx362_2)
 injection ea_ with ea_ en_ ec_
 subst ea_
 subst ec_
 clear en_
 have ea_ := Option.some.inj (hx361_3.symm.trans hx362_3)
 injection ea_ with ea_ en_ ec_
 subst ea_
 subst ec_
 clear en_
 have p363 : 0 ≤ (x9_2 : Int) := of_decide_eq_true sqH
 have q363 : x9_2 < (((rd_T57 t355 x8_1).f3).length : Int) := of_decide_eq_true sqH
 obtain ⟨ad363, e363, hx363_0, hx363_1⟩ := at_T59 (sqC HR362_3.out) x9_2 p363 q363
 cases e363
 replace p363 := eq_true p363
 replace q363 := eq_true q363
 have p364 : 0 ≤ (x8_1 : Int) := of_decide_eq_true sqH
 have q364 : x8_1 < (t355.length : Int) := of_decide_eq_true sqH
 obtain ⟨ad364, A364_2, c364_2, A364_3, c364_3, e364, hx364_0, hx364_1, hx364_2, hx364_3, hx364_4, hx364_5, hx364_6, hl364_2, hi364_2, hl364_3, hi364_3⟩ := at_T57 (Kd.N_reads' HO_6.out).2.2 x8_1 p364 q364
 obtain rfl : ad361 = ad364 := (by injection e364)
 obtain ⟨ce364, hce364, hMe364, hcc364⟩ := Kd.N_get HO_6.out z57 x8_1 p364 (by first | exact q364 | exact of_decide_eq_true sqH | (have e_ := (Kd.N_reads' HO_6.out).1; omega))
 obtain ⟨ua364_2, uc364_2, ua364_3, uc364_3, rfl, ul364_2, ge364_2, ul364_3, ge364_3⟩ := k57_openF hMe364
 have hv364_2 := hcc364 2 _ rfl
 rw [add_field _ _ 2 (by omega)] at hv364_2
 replace hv364_2 := Option.some.inj (hv364_2.symm.trans hx364_2)
 injection hv364_2 with hva_ hvn_ hvc_
 rw [hva_] at ge364_2
 rw [hvc_] at ul364_2
 have HL364_2 := sqM (show Kd.V k62 62 _ w.heap.size _ _ ((rd_T57 t355 x8_1).f2) from Kd.V_mk ul364_2 ge364_2)
 clear hva_ hvn_ hvc_ ge364_2 ul364_2
 have hv364_3 := hcc364 3 _ rfl
 rw [add_field _ _ 3 (by omega)] at hv364_3
 replace hv364_3 := Option.some.inj (hv364_3.symm.trans hx364_3)
 injection hv364_3 with hva_ hvn_ hvc_
 rw [hva_] at ge364_3
 rw [hvc_] at ul364_3
 have HL364_3 := sqM (show Kd.V k59 59 _ w.heap.size _ _ ((rd_T57 t355 x8_1).f3) from Kd.V_mk ul364_3 ge364_3)
 clear hva_ hvn_ hvc_ ge364_3 ul364_3
 clear hcc364 hce364
 have HR364_2 := Aside0.mk hi364_2
 have HC364_2 := Aside0.mk hl364_2
 clear hi364_2 hl364_2
 have HR364_3 := Aside0.mk hi364_3
 have HC364_3 := Aside0.mk hl364_3
 clear hi364_3 hl364_3
 replace p364 := eq_true p364
 replace q364 := eq_true q364
 have ea_ := Option.some.inj (hx361_2.symm.trans hx364_2)
 injection ea_ with ea_ en_ ec_
 subst ea_
 subst ec_
 clear en_
 have ea_ := Option.some.inj (hx361_3.symm.trans hx364_3)
 injection ea_ with ea_ en_ ec_
 subst ea_
 subst ec_
 clear en_
 have p365 : 0 ≤ (x9_2 : Int) := of_decide_eq_true sqH
 have q365 : x9_2 < (((rd_T57 t355 x8_1).f3).length : Int) := of_decide_eq_true sqH
 obtain ⟨ad365, e365, hx365_0, hx365_1⟩ := at_T59 (sqC HR364_3.out) x9_2 p365 q365
 cases e365
 replace p365 := eq_true p365
 replace q365 := eq_true q365
 go_wp2
 go_ret2
 exact ⟨sqE, sqB1 HB.out GE353.out⟩

end Go.Proofs.Ytdcabfonjmeajaa.PConf
