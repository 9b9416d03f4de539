/- Lean functions for Go functions of the given program, and proofs that the code computes them, each under its theorem's own conditions. Written by a program of this session. -/
import Derived.Test.YtdcabfonjmeajaaPConfx0
namespace Go.Proofs.Ytdcabfonjmeajaa.PConf
open Go.RowKit Go.Proofs.YtdcabfonjmeajaaW.PrintWords Go.Proofs.YtdcabfonjmeajaaW.PrintLast Go.Proofs.YtdcabfonjmeajaaW.PrintMore
attribute [local go_sem] max2_int min2_int max_two min_two max_three min_three max_four min_four   -- for this text's walks alone
set_option linter.unusedVariables false
set_option linter.unusedSimpArgs false

/-! ### boarderlaw13_Great: function 14 -/
mutual
def boarderlaw13_Great.l0 : Nat → Int → Int → Int → List (S41) → Option (Bool)
  | 0, _, _, _, _ => none
  | k + 1, x3, x102000, x102001, x102002 => if x3 < (x102002.length : Int) then (if 0 ≤ x3 then (if (((rd_T41 x102002 x3).f0).length : Int) > 10 then (some true) else (boarderlaw13_Great.l1 k x3 0 x102000 x102001 x102002)) else (none)) else (some false)
def boarderlaw13_Great.l1 : Nat → Int → Int → Int → Int → List (S41) → Option (Bool)
  | 0, _, _, _, _, _ => none
  | k + 1, x3, x4, x102000, x102001, x102002 => if 0 ≤ x3 then (if x3 < (x102002.length : Int) then (if x4 < (((rd_T41 x102002 x3).f0).length : Int) then (if 0 ≤ x4 then (if (((rd_T57 ((rd_T41 x102002 x3).f0) x4).f2).length : Int) > 20 then (boarderlaw13_Great.j2 k x3 x4 true x102000 x102001 x102002 ((rd_T57 ((rd_T41 x102002 x3).f0) x4).f0) ((rd_T57 ((rd_T41 x102002 x3).f0) x4).f1) ((rd_T57 ((rd_T41 x102002 x3).f0) x4).f2) ((rd_T57 ((rd_T41 x102002 x3).f0) x4).f3) ((rd_T57 ((rd_T41 x102002 x3).f0) x4).f4) ((rd_T57 ((rd_T41 x102002 x3).f0) x4).f5) ((rd_T57 ((rd_T41 x102002 x3).f0) x4).f6)) else (boarderlaw13_Great.j2 k x3 x4 (decide ((((rd_T57 ((rd_T41 x102002 x3).f0) x4).f3).length : Int) > 20)) x102000 x102001 x102002 ((rd_T57 ((rd_T41 x102002 x3).f0) x4).f0) ((rd_T57 ((rd_T41 x102002 x3).f0) x4).f1) ((rd_T57 ((rd_T41 x102002 x3).f0) x4).f2) ((rd_T57 ((rd_T41 x102002 x3).f0) x4).f3) ((rd_T57 ((rd_T41 x102002 x3).f0) x4).f4) ((rd_T57 ((rd_T41 x102002 x3).f0) x4).f5) ((rd_T57 ((rd_T41 x102002 x3).f0) x4).f6))) else (none)) else (boarderlaw13_Great.l0 k (wrap64 (x3 + 1)) x102000 x102001 x102002)) else (none)) else (none)
def boarderlaw13_Great.j2 : Nat → Int → Int → Bool → Int → Int → List (S41) → Int → Int → List (S62) → List (S59) → Int → Int → Int → Option (Bool)
  | 0, _, _, _, _, _, _, _, _, _, _, _, _, _ => none
  | k + 1, x3, x4, x55, x102000, x102001, x102002, x107000, x107001, x107002, x107003, x107004, x107005, x107006 => if x55 = true then (some true) else (boarderlaw13_Great.l2 k x3 x4 0 x102000 x102001 x102002 x107000 x107001 x107002 x107003 x107004 x107005 x107006)
def boarderlaw13_Great.l2 : Nat → Int → Int → Int → Int → Int → List (S41) → Int → Int → List (S62) → List (S59) → Int → Int → Int → Option (Bool)
  | 0, _, _, _, _, _, _, _, _, _, _, _, _, _ => none
  | k + 1, x3, x4, x6, x102000, x102001, x102002, x107000, x107001, x107002, x107003, x107004, x107005, x107006 => if x6 < (x107003.length : Int) then (if 0 ≤ x6 then (if (((rd_T59 x107003 x6).f0).size : Int) > 1000 then (some true) else (boarderlaw13_Great.l2 k x3 x4 (wrap64 (x6 + 1)) x102000 x102001 x102002 x107000 x107001 x107002 x107003 x107004 x107005 x107006)) else (none)) else (boarderlaw13_Great.l1 k x3 (wrap64 (x4 + 1)) x102000 x102001 x102002)
end
def boarderlaw13_Great.f (k : Nat) (a0_0 : Int) (a0_1 : Int) (l0_2 : List (S41)) : Option (Bool) := if (l0_2.length : Int) > 10 then (some true) else (boarderlaw13_Great.l0 k 0 a0_0 a0_1 l0_2)
set_option maxHeartbeats 8000000 in
set_option maxRecDepth 100000 in
theorem boarderlaw13_Great.calls (k : Nat) (a0_0 : Int) (a0_1 : Int) (A0_2 : Option Addr) (c0_2 : Nat) (l0_2 : List (S41)) (r : Bool) (w : World) (hr0_2 : Kd.C k41 w A0_2 l0_2.length l0_2) (hc0_2 : l0_2.length ≤ c0_2) (h : boarderlaw13_Great.f k a0_0 a0_1 l0_2 = some r) :
    Calls Try.prog 14 #[.agg #[.int .i64 a0_0, .int .i64 a0_1, .slice A0_2 l0_2.length c0_2]] w fun e w' => e = .returned (.bool r) ∧ Below w.heap.size w w' := by
 have hu24 := Try.underlying24
 have hu57 := Try.underlying57
 have HR0_2 := Aside0.mk hr0_2
 have HC0_2 := Aside0.mk hc0_2
 clear hr0_2 hc0_2
 have HB := Aside0.mk (Below.refl w.heap.size w)
 have H : (if (l0_2.length : Int) > 10 then (some true) else (boarderlaw13_Great.l0 k 0 a0_0 a0_1 l0_2)) = some r := h
 clear h
 by_cases c2 : (l0_2.length : Int) > 10
 · rw [if_pos c2] at H
   have c2b0 : decide (10 < (l0_2.length : Int)) = true := decide_eq_true c2
   have c2b1 : decide (10 < l0_2.length) = true := decide_eq_true (by omega)
   clear c2
   obtain rfl := Option.some.inj H
   go_enter Try.func14, Try.ntmps14
   go_wp2_with (first | ((with_reducible refine gate_dst (N := 1) rfl ?_); (try (refine gate_guard (by rfl) ?_; dsimp only)); refine box_event rfl (N := 1) rfl (cs := #[.int .i64 a0_0, .int .i64 a0_1, .slice A0_2 l0_2.length c0_2]) (t := 24) sqs ?_; intro gb101 hg w3 hbox hb; have BK101 := sqM (hbox); have GW101 := sqM (sqZ hg (sqB HB.out)); have GE101 := sqM (sqZ hg (sqB HB.out)); replace HB := sqM (below_step (sqB HB.out) hb); clear hb hbox hg; obtain ⟨hcz4_0, hcz4_1, hcz4_2, hfz4_0, hfz4_1, hfz4_2⟩ := sqF3 BK101.out))
   go_ret
   exact ⟨sqE, sqB1 HB.out GE101.out⟩
 rw [if_neg c2] at H
 have c2b0 : decide (10 < (l0_2.length : Int)) = false := decide_eq_false c2
 have c2b1 : decide (10 < l0_2.length) = false := decide_eq_false (by omega)
 clear c2
 have H' := Aside0.mk H
 clear H
 go_enter Try.func14, Try.ntmps14
 go_wp2_with (first | ((with_reducible refine gate_dst (N := 1) rfl ?_); (try (refine gate_guard (by rfl) ?_; dsimp only)); refine box_event rfl (N := 1) rfl (cs := #[.int .i64 a0_0, .int .i64 a0_1, .slice A0_2 l0_2.length c0_2]) (t := 24) sqs ?_; intro gb101 hg w5 hbox hb; have BK101 := sqM (hbox); have GW101 := sqM (sqZ hg (sqB HB.out)); have GE101 := sqM (sqZ hg (sqB HB.out)); replace HB := sqM (below_step (sqB HB.out) hb); clear hb hbox hg; obtain ⟨hcz6_0, hcz6_1, hcz6_2, hfz6_0, hfz6_1, hfz6_2⟩ := sqF3 BK101.out))
 go_loopg [3] k (fun kq v3 w' => ∃ (x3_1 : Int), v3 = .int .i64 x3_1 ∧ Aside0 (boarderlaw13_Great.l0 kq x3_1 a0_0 a0_1 l0_2 = some r) ∧ Aside0 (kq ≤ k) ∧ Aside0 (w'.heap[gb101]? = some (.cells #[.int .i64 a0_0, .int .i64 a0_1, (.slice A0_2 l0_2.length c0_2)] 24 (0, 0))) ∧ Aside0 (Below w.heap.size w w'))
 case atStart => exact ⟨(0), sqI, H', ⟨Nat.le_refl _⟩, ⟨sqK BK101.out⟩, ⟨sqB1 HB.out GE101.out⟩⟩
 clear H'
 try clear c1
 try clear c2
 try clear c2b0
 try clear c2b1
 try clear p2
 try clear hcz4_0 hcz4_1 hcz4_2
 try clear hcz6_0 hcz6_1 hcz6_2
 try clear hfz4_0 hfz4_1 hfz4_2
 try clear hfz6_0 hfz6_1 hfz6_2
 obtain ⟨x3_1, rfl, HA, HK1, BK101, HB⟩ := hrel
 cases gk with
 | zero => exact absurd HA.out (by simp [boarderlaw13_Great.l0])
 | succ k1 => ?_
 have H := HA.out
 clear HA
 simp only [boarderlaw13_Great.l0] at H
 by_cases c7 : x3_1 < (l0_2.length : Int)
 rotate_left
 · rw [if_neg c7] at H
   have c7b0 : decide (x3_1 < (l0_2.length : Int)) = false := decide_eq_false c7
   clear c7
   obtain rfl := Option.some.inj H
   obtain ⟨hcz37_0, hcz37_1, hcz37_2, hfz37_0, hfz37_1, hfz37_2⟩ := sqF3 BK101.out
   go_wp2
   go_ret
   exact ⟨sqE, sqB1 HB.out GE101.out⟩
 rw [if_pos c7] at H
 have c7b0 : decide (x3_1 < (l0_2.length : Int)) = true := decide_eq_true c7
 clear c7
 by_cases c8 : 0 ≤ x3_1
 rotate_left
 · rw [if_neg c8] at H
   exact absurd H (by simp)
 rw [if_pos c8] at H
 have c8b0 : decide (0 ≤ x3_1) = true := decide_eq_true c8
 clear c8
 by_cases c9 : (((rd_T41 l0_2 x3_1).f0).length : Int) > 10
 · rw [if_pos c9] at H
   have c9b0 : decide (10 < (((rd_T41 l0_2 x3_1).f0).length : Int)) = true := decide_eq_true c9
   have c9b1 : decide (10 < ((rd_T41 l0_2 x3_1).f0).length) = true := decide_eq_true (by omega)
   clear c9
   obtain rfl := Option.some.inj H
   obtain ⟨hcz10_0, hcz10_1, hcz10_2, hfz10_0, hfz10_1, hfz10_2⟩ := sqF3 BK101.out
   have p102 : 0 ≤ (x3_1 : Int) := of_decide_eq_true sqH
   have q102 : x3_1 < (l0_2.length : Int) := of_decide_eq_true sqH
   obtain ⟨ad102, A102_0, c102_0, e102, hx102_0, hl102_0, hi102_0⟩ := at_T41 HR0_2.out x3_1 p102 q102
   cases e102
   replace hx102_0 := sqx HB.out hx102_0
   have HR102_0 := Aside0.mk hi102_0
   have HC102_0 := Aside0.mk hl102_0
   clear hi102_0 hl102_0
   replace p102 := eq_true p102
   replace q102 := eq_true q102
   go_wp2
   go_ret
   exact ⟨sqE, sqB1 HB.out GE101.out⟩
 rw [if_neg c9] at H
 have c9b0 : decide (10 < (((rd_T41 l0_2 x3_1).f0).length : Int)) = false := decide_eq_false c9
 have c9b1 : decide (10 < ((rd_T41 l0_2 x3_1).f0).length) = false := decide_eq_false (by omega)
 clear c9
 have H' := Aside0.mk H
 clear H
 obtain ⟨hcz11_0, hcz11_1, hcz11_2, hfz11_0, hfz11_1, hfz11_2⟩ := sqF3 BK101.out
 have p102 : 0 ≤ (x3_1 : Int) := of_decide_eq_true sqH
 have q102 : x3_1 < (l0_2.length : Int) := of_decide_eq_true sqH
 obtain ⟨ad102, A102_0, c102_0, e102, hx102_0, hl102_0, hi102_0⟩ := at_T41 HR0_2.out x3_1 p102 q102
 cases e102
 replace hx102_0 := sqx HB.out hx102_0
 have HR102_0 := Aside0.mk hi102_0
 have HC102_0 := Aside0.mk hl102_0
 clear hi102_0 hl102_0
 replace p102 := eq_true p102
 replace q102 := eq_true q102
 go_wp2
 go_loopg [4] k1 (fun kq v4 w' => ∃ (x4_2 : Int), v4 = .int .i64 x4_2 ∧ Aside0 (boarderlaw13_Great.l1 kq x3_1 x4_2 a0_0 a0_1 l0_2 = some r) ∧ Aside0 (kq ≤ k1) ∧ Aside0 (w'.heap[gb101]? = some (.cells #[.int .i64 a0_0, .int .i64 a0_1, (.slice (some ad102) l0_2.length c0_2)] 24 (0, 0))) ∧ Aside0 (Below w.heap.size w w'))
 case atStart => exact ⟨(0), sqI, H', ⟨Nat.le_refl _⟩, ⟨sqK BK101.out⟩, ⟨sqB1 HB.out GE101.out⟩⟩
 clear H'
 try clear c1
 try clear p1
 try clear q1
 try clear hx1
 try clear c2
 try clear c2b0
 try clear c2b1
 try clear p2
 try clear c7
 try clear c7b0
 try clear c8
 try clear c8b0
 try clear c9
 try clear c9b0
 try clear c9b1
 try clear c10
 try clear p10
 try clear q10
 try clear hx10
 try clear hcz10_0 hcz10_1 hcz10_2
 try clear hcz11_0 hcz11_1 hcz11_2
 try clear hcz4_0 hcz4_1 hcz4_2
 try clear hcz6_0 hcz6_1 hcz6_2
 try clear hfz10_0 hfz10_1 hfz10_2
 try clear hfz11_0 hfz11_1 hfz11_2
 try clear hfz4_0 hfz4_1 hfz4_2
 try clear hfz6_0 hfz6_1 hfz6_2
 try clear hx102_0
 try clear p102
 try clear p2
 try clear q102
 obtain ⟨x4_2, rfl, HA, HK2, BK101, HB⟩ := hrel
 cases gk with
 | zero => exact absurd HA.out (by simp [boarderlaw13_Great.l1])
 | succ k2 => ?_
 have H := HA.out
 clear HA
 simp only [boarderlaw13_Great.l1] at H
 by_cases c12 : 0 ≤ x3_1
 rotate_left
 · rw [if_neg c12] at H
   exact absurd H (by simp)
 rw [if_pos c12] at H
 have c12b0 : decide (0 ≤ x3_1) = true := decide_eq_true c12
 clear c12
 by_cases c13 : x3_1 < (l0_2.length : Int)
 rotate_left
 · rw [if_neg c13] at H
   exact absurd H (by simp)
 rw [if_pos c13] at H
 have c13b0 : decide (x3_1 < (l0_2.length : Int)) = true := decide_eq_true c13
 clear c13
 by_cases c14 : x4_2 < (((rd_T41 l0_2 x3_1).f0).length : Int)
 rotate_left
 · rw [if_neg c14] at H
   have c14b0 : decide (x4_2 < (((rd_T41 l0_2 x3_1).f0).length : Int)) = false := decide_eq_false c14
   clear c14
   have H' := Aside0.mk H
   clear H
   obtain ⟨hcz36_0, hcz36_1, hcz36_2, hfz36_0, hfz36_1, hfz36_2⟩ := sqF3 BK101.out
   have p103 : 0 ≤ (x3_1 : Int) := of_decide_eq_true sqH
   have q103 : x3_1 < (l0_2.length : Int) := of_decide_eq_true sqH
   obtain ⟨ad103, A103_0, c103_0, e103, hx103_0, hl103_0, hi103_0⟩ := at_T41 HR0_2.out x3_1 p103 q103
   obtain rfl : ad102 = ad103 := (by injection e103)
   replace hx103_0 := sqx HB.out hx103_0
   have HR103_0 := Aside0.mk hi103_0
   have HC103_0 := Aside0.mk hl103_0
   clear hi103_0 hl103_0
   replace p103 := eq_true p103
   replace q103 := eq_true q103
   go_wp2
   go_roundg k2
   case measure => have := HK1.out; have := HK2.out; omega
   case rel => exact ⟨(wrap64 (x3_1 + 1)), sqI, H', ⟨by have := HK1.out; have := HK2.out; omega⟩, ⟨sqK BK101.out⟩, ⟨sqB1 HB.out GE101.out⟩⟩
 rw [if_pos c14] at H
 have c14b0 : decide (x4_2 < (((rd_T41 l0_2 x3_1).f0).length : Int)) = true := decide_eq_true c14
 clear c14
 by_cases c15 : 0 ≤ x4_2
 rotate_left
 · rw [if_neg c15] at H
   exact absurd H (by simp)
 rw [if_pos c15] at H
 have c15b0 : decide (0 ≤ x4_2) = true := decide_eq_true c15
 clear c15
 have HC16 := Aside0.mk H
 clear H
 obtain ⟨hcz17_0, hcz17_1, hcz17_2, hfz17_0, hfz17_1, hfz17_2⟩ := sqF3 BK101.out
 have p103 : 0 ≤ (x3_1 : Int) := of_decide_eq_true sqH
 have q103 : x3_1 < (l0_2.length : Int) := of_decide_eq_true sqH
 obtain ⟨ad103, A103_0, c103_0, e103, hx103_0, hl103_0, hi103_0⟩ := at_T41 HR0_2.out x3_1 p103 q103
 obtain rfl : ad102 = ad103 := (by injection e103)
 replace hx103_0 := sqx HB.out hx103_0
 have HR103_0 := Aside0.mk hi103_0
 have HC103_0 := Aside0.mk hl103_0
 clear hi103_0 hl103_0
 replace p103 := eq_true p103
 replace q103 := eq_true q103
 have p104 : 0 ≤ (x3_1 : Int) := of_decide_eq_true sqH
 have q104 : x3_1 < (l0_2.length : Int) := of_decide_eq_true sqH
 obtain ⟨ad104, A104_0, c104_0, e104, hx104_0, hl104_0, hi104_0⟩ := at_T41 HR0_2.out x3_1 p104 q104
 obtain rfl : ad102 = ad104 := (by injection e104)
 replace hx104_0 := sqx HB.out hx104_0
 have HR104_0 := Aside0.mk hi104_0
 have HC104_0 := Aside0.mk hl104_0
 clear hi104_0 hl104_0
 replace p104 := eq_true p104
 replace q104 := eq_true q104
 have ea_ := Option.some.inj (hx103_0.symm.trans hx104_0)
 injection ea_ with ea_ en_ ec_
 subst ea_
 subst ec_
 clear en_
 have p105 : 0 ≤ (x4_2 : Int) := of_decide_eq_true sqH
 have q105 : x4_2 < (((rd_T41 l0_2 x3_1).f0).length : Int) := of_decide_eq_true sqH
 obtain ⟨ad105, A105_2, c105_2, A105_3, c105_3, e105, hx105_0, hx105_1, hx105_2, hx105_3, hx105_4, hx105_5, hx105_6, hl105_2, hi105_2, hl105_3, hi105_3⟩ := at_T57 HR104_0.out x4_2 p105 q105
 cases e105
 replace hx105_0 := sqx HB.out hx105_0
 replace hx105_1 := sqx HB.out hx105_1
 replace hx105_2 := sqx HB.out hx105_2
 replace hx105_3 := sqx HB.out hx105_3
 replace hx105_4 := sqx HB.out hx105_4
 replace hx105_5 := sqx HB.out hx105_5
 replace hx105_6 := sqx HB.out hx105_6
 have HR105_2 := Aside0.mk hi105_2
 have HC105_2 := Aside0.mk hl105_2
 clear hi105_2 hl105_2
 have HR105_3 := Aside0.mk hi105_3
 have HC105_3 := Aside0.mk hl105_3
 clear hi105_3 hl105_3
 replace p105 := eq_true p105
 replace q105 := eq_true q105
 go_upto_region 12 with (first | ((with_reducible refine gate_dst (N := 5) rfl ?_); (try (refine gate_guard (by rfl) ?_; dsimp only)); refine box_event rfl (N := 5) rfl (cs := #[.int .i64 0, .int .i64 0, .slice none 0 0, .slice none 0 0, .int .i64 0, .int .i64 0, .int .i64 0]) (t := 57) sqs ?_; intro gb106 hg w18 hbox hb; have BK106 := sqM (hbox); have GW106 := sqM (sqZ hg (sqB1 HB.out GE101.out)); have GE106 := sqM (sqZ hg (sqB1 HB.out GE101.out)); have NB101_106 := sqM (sqL hg (sqK BK101.out)); have NB106_101 := sqM (sqG hg (sqK BK101.out)); replace BK101 := sqM (blk_below (sqK BK101.out) hb); replace HB := sqM (below_step (sqB1 HB.out GE101.out) hb); clear hb hbox hg; have hnb19 := NB106_101.out; have hnc19 := NB101_106.out; obtain ⟨hcz20_0, hcz20_1, hcz20_2, hcz20_3, hcz20_4, hcz20_5, hcz20_6, hfz20_0, hfz20_1, hfz20_2, hfz20_3, hfz20_4, hfz20_5, hfz20_6⟩ := sqF7 BK106.out))
 (try simp only [Act.put, List.setIfInBounds_toArray, List.set_cons_zero, List.set_cons_succ])
 go_cut [55] (fun v55 wc => ∃ (kq : Nat) (x55_15 : Bool), v55 = .bool x55_15 ∧ Aside0 (boarderlaw13_Great.j2 kq x3_1 x4_2 x55_15 a0_0 a0_1 l0_2 ((rd_T57 ((rd_T41 l0_2 x3_1).f0) x4_2).f0) ((rd_T57 ((rd_T41 l0_2 x3_1).f0) x4_2).f1) ((rd_T57 ((rd_T41 l0_2 x3_1).f0) x4_2).f2) ((rd_T57 ((rd_T41 l0_2 x3_1).f0) x4_2).f3) ((rd_T57 ((rd_T41 l0_2 x3_1).f0) x4_2).f4) ((rd_T57 ((rd_T41 l0_2 x3_1).f0) x4_2).f5) ((rd_T57 ((rd_T41 l0_2 x3_1).f0) x4_2).f6) = some r) ∧ Aside0 (kq ≤ k2) ∧ Aside0 (wc.heap[gb101]? = some (.cells #[.int .i64 a0_0, .int .i64 a0_1, (.slice (some ad102) l0_2.length c0_2)] 24 (0, 0))) ∧ Aside0 (wc.heap[gb106]? = some (.cells #[.int .i64 ((rd_T57 ((rd_T41 l0_2 x3_1).f0) x4_2).f0), .int .i64 ((rd_T57 ((rd_T41 l0_2 x3_1).f0) x4_2).f1), (.slice A105_2 ((rd_T57 ((rd_T41 l0_2 x3_1).f0) x4_2).f2).length c105_2), (.slice A105_3 ((rd_T57 ((rd_T41 l0_2 x3_1).f0) x4_2).f3).length c105_3), .int .i64 ((rd_T57 ((rd_T41 l0_2 x3_1).f0) x4_2).f4), .int .i64 ((rd_T57 ((rd_T41 l0_2 x3_1).f0) x4_2).f5), .int .i64 ((rd_T57 ((rd_T41 l0_2 x3_1).f0) x4_2).f6)] 57 (0, 0))) ∧ Aside0 (Below w.heap.size w wc))
 case first =>
  have H := HC16.out
  clear HC16
  by_cases c21 : (((rd_T57 ((rd_T41 l0_2 x3_1).f0) x4_2).f2).length : Int) > 20
  · rw [if_pos c21] at H
    have c21b0 : decide (20 < (((rd_T57 ((rd_T41 l0_2 x3_1).f0) x4_2).f2).length : Int)) = true := decide_eq_true c21
    have c21b1 : decide (20 < ((rd_T57 ((rd_T41 l0_2 x3_1).f0) x4_2).f2).length) = true := decide_eq_true (by omega)
    clear c21
    (first | rw [c21b0] | (simp only [i64_w, i32_w]; rw [c21b0]) | skip)
    have H' := Aside0.mk H
    clear H
    have hnb22 := NB106_101.out
    have hnc22 := NB101_106.out
    obtain ⟨hcz23_0, hcz23_1, hcz23_2, hcz23_3, hcz23_4, hcz23_5, hcz23_6, hfz23_0, hfz23_1, hfz23_2, hfz23_3, hfz23_4, hfz23_5, hfz23_6⟩ := sqF7 BK106.out
    go_wp2
    go_meet
    case rel => exact ⟨_, (true), sqI, H', ⟨by have := HK1.out; have := HK2.out; first | omega | exact Nat.le_refl _⟩, ⟨(sqK (sqX7 BK101.out NB101_106.out))⟩, ⟨(sqK (sqP7 BK106.out))⟩, ⟨sqB2 HB.out GE101.out GE106.out⟩⟩
  rw [if_neg c21] at H
  have c21b0 : decide (20 < (((rd_T57 ((rd_T41 l0_2 x3_1).f0) x4_2).f2).length : Int)) = false := decide_eq_false c21
  have c21b1 : decide (20 < ((rd_T57 ((rd_T41 l0_2 x3_1).f0) x4_2).f2).length) = false := decide_eq_false (by omega)
  clear c21
  (first | rw [c21b0] | (simp only [i64_w, i32_w]; rw [c21b0]) | skip)
  have H' := Aside0.mk H
  clear H
  have hnb24 := NB106_101.out
  have hnc24 := NB101_106.out
  obtain ⟨hcz25_0, hcz25_1, hcz25_2, hcz25_3, hcz25_4, hcz25_5, hcz25_6, hfz25_0, hfz25_1, hfz25_2, hfz25_3, hfz25_4, hfz25_5, hfz25_6⟩ := sqF7 BK106.out
  go_wp2
  go_meet
  case rel => exact ⟨_, (decide ((((rd_T57 ((rd_T41 l0_2 x3_1).f0) x4_2).f3).length : Int) > 20)), sqI, H', ⟨by have := HK1.out; have := HK2.out; first | omega | exact Nat.le_refl _⟩, ⟨(sqK (sqX7 BK101.out NB101_106.out))⟩, ⟨(sqK (sqP7 BK106.out))⟩, ⟨sqB2 HB.out GE101.out GE106.out⟩⟩
 clear HC16
 try clear c1
 try clear p1
 try clear q1
 try clear hx1
 try clear c2
 try clear c2b0
 try clear c2b1
 try clear p2
 try clear c7
 try clear c7b0
 try clear c8
 try clear c8b0
 try clear c9
 try clear c9b0
 try clear c9b1
 try clear c10
 try clear p10
 try clear q10
 try clear hx10
 try clear c12
 try clear c12b0
 try clear c13
 try clear c13b0
 try clear c14
 try clear c14b0
 try clear c15
 try clear c15b0
 try clear c19
 try clear c21
 try clear c21b0
 try clear c21b1
 try clear c22
 try clear c24
 try clear hcz10_0 hcz10_1 hcz10_2
 try clear hcz11_0 hcz11_1 hcz11_2
 try clear hcz17_0 hcz17_1 hcz17_2
 try clear hcz20_0 hcz20_1 hcz20_2 hcz20_3 hcz20_4 hcz20_5 hcz20_6
 try clear hcz23_0 hcz23_1 hcz23_2 hcz23_3 hcz23_4 hcz23_5 hcz23_6
 try clear hcz25_0 hcz25_1 hcz25_2 hcz25_3 hcz25_4 hcz25_5 hcz25_6
 try clear hcz4_0 hcz4_1 hcz4_2
 try clear hcz6_0 hcz6_1 hcz6_2
 try clear hfz10_0 hfz10_1 hfz10_2
 try clear hfz11_0 hfz11_1 hfz11_2
 try clear hfz17_0 hfz17_1 hfz17_2
 try clear hfz20_0 hfz20_1 hfz20_2 hfz20_3 hfz20_4 hfz20_5 hfz20_6
 try clear hfz23_0 hfz23_1 hfz23_2 hfz23_3 hfz23_4 hfz23_5 hfz23_6
 try clear hfz25_0 hfz25_1 hfz25_2 hfz25_3 hfz25_4 hfz25_5 hfz25_6
 try clear hfz4_0 hfz4_1 hfz4_2
 try clear hfz6_0 hfz6_1 hfz6_2
 try clear hx102_0
 try clear hx103_0
 try clear hx104_0
 try clear hx105_0 hx105_1 hx105_2 hx105_3 hx105_4 hx105_5 hx105_6
 try clear p1
 try clear p10
 try clear p102
 try clear p103
 try clear p104
 try clear p105
 try clear p2
 try clear q1
 try clear q10
 try clear q102
 try clear q103
 try clear q104
 try clear q105
 obtain ⟨kq, x55_15, rfl, HA, HJ15, BK101, BK106, HB⟩ := hcut
 cases kq with
 | zero => exact absurd HA.out (by simp [boarderlaw13_Great.j2])
 | succ kj15 => ?_
 have H := HA.out
 clear HA
 simp only [boarderlaw13_Great.j2] at H
 by_cases c26 : x55_15 = true
 · subst c26
   have H1 : (some true) = some r := by rw [if_pos rfl] at H; exact H
   clear H
   have H := H1
   clear H1
   obtain rfl := Option.some.inj H
   go_wp2
   go_ret
   exact ⟨sqE, sqB2 HB.out GE101.out GE106.out⟩
 replace c26 := Bool.eq_false_iff.mpr c26
 subst c26
 have H1 : (boarderlaw13_Great.l2 kj15 x3_1 x4_2 0 a0_0 a0_1 l0_2 ((rd_T57 ((rd_T41 l0_2 x3_1).f0) x4_2).f0) ((rd_T57 ((rd_T41 l0_2 x3_1).f0) x4_2).f1) ((rd_T57 ((rd_T41 l0_2 x3_1).f0) x4_2).f2) ((rd_T57 ((rd_T41 l0_2 x3_1).f0) x4_2).f3) ((rd_T57 ((rd_T41 l0_2 x3_1).f0) x4_2).f4) ((rd_T57 ((rd_T41 l0_2 x3_1).f0) x4_2).f5) ((rd_T57 ((rd_T41 l0_2 x3_1).f0) x4_2).f6)) = some r := by rw [if_neg (show ¬ (false = true) by decide)] at H; exact H
 clear H
 have H := H1
 clear H1
 have H' := Aside0.mk H
 clear H
 go_wp2
 go_loopg [6] kj15 (fun kq v6 w' => ∃ (x6_4 : Int), v6 = .int .i64 x6_4 ∧ Aside0 (boarderlaw13_Great.l2 kq x3_1 x4_2 x6_4 a0_0 a0_1 l0_2 ((rd_T57 ((rd_T41 l0_2 x3_1).f0) x4_2).f0) ((rd_T57 ((rd_T41 l0_2 x3_1).f0) x4_2).f1) ((rd_T57 ((rd_T41 l0_2 x3_1).f0) x4_2).f2) ((rd_T57 ((rd_T41 l0_2 x3_1).f0) x4_2).f3) ((rd_T57 ((rd_T41 l0_2 x3_1).f0) x4_2).f4) ((rd_T57 ((rd_T41 l0_2 x3_1).f0) x4_2).f5) ((rd_T57 ((rd_T41 l0_2 x3_1).f0) x4_2).f6) = some r) ∧ Aside0 (kq ≤ kj15) ∧ Aside0 (w'.heap[gb101]? = some (.cells #[.int .i64 a0_0, .int .i64 a0_1, (.slice (some ad102) l0_2.length c0_2)] 24 (0, 0))) ∧ Aside0 (w'.heap[gb106]? = some (.cells #[.int .i64 ((rd_T57 ((rd_T41 l0_2 x3_1).f0) x4_2).f0), .int .i64 ((rd_T57 ((rd_T41 l0_2 x3_1).f0) x4_2).f1), (.slice A105_2 ((rd_T57 ((rd_T41 l0_2 x3_1).f0) x4_2).f2).length c105_2), (.slice A105_3 ((rd_T57 ((rd_T41 l0_2 x3_1).f0) x4_2).f3).length c105_3), .int .i64 ((rd_T57 ((rd_T41 l0_2 x3_1).f0) x4_2).f4), .int .i64 ((rd_T57 ((rd_T41 l0_2 x3_1).f0) x4_2).f5), .int .i64 ((rd_T57 ((rd_T41 l0_2 x3_1).f0) x4_2).f6)] 57 (0, 0))) ∧ Aside0 (Below w.heap.size w w'))
 case atStart => exact ⟨(0), sqI, H', ⟨Nat.le_refl _⟩, ⟨sqK BK101.out⟩, ⟨sqK BK106.out⟩, ⟨sqB2 HB.out GE101.out GE106.out⟩⟩
 clear H'
 try clear c1
 try clear p1
 try clear q1
 try clear hx1
 try clear c2
 try clear c2b0
 try clear c2b1
 try clear p2
 try clear c7
 try clear c7b0
 try clear c8
 try clear c8b0
 try clear c9
 try clear c9b0
 try clear c9b1
 try clear c10
 try clear p10
 try clear q10
 try clear hx10
 try clear c12
 try clear c12b0
 try clear c13
 try clear c13b0
 try clear c14
 try clear c14b0
 try clear c15
 try clear c15b0
 try clear c19
 try clear c21
 try clear c21b0
 try clear c21b1
 try clear c22
 try clear c24
 try clear c26
 try clear hcz10_0 hcz10_1 hcz10_2
 try clear hcz11_0 hcz11_1 hcz11_2
 try clear hcz17_0 hcz17_1 hcz17_2
 try clear hcz20_0 hcz20_1 hcz20_2 hcz20_3 hcz20_4 hcz20_5 hcz20_6
 try clear hcz23_0 hcz23_1 hcz23_2 hcz23_3 hcz23_4 hcz23_5 hcz23_6
 try clear hcz25_0 hcz25_1 hcz25_2 hcz25_3 hcz25_4 hcz25_5 hcz25_6
 try clear hcz4_0 hcz4_1 hcz4_2
 try clear hcz6_0 hcz6_1 hcz6_2
 try clear hfz10_0 hfz10_1 hfz10_2
 try clear hfz11_0 hfz11_1 hfz11_2
 try clear hfz17_0 hfz17_1 hfz17_2
 try clear hfz20_0 hfz20_1 hfz20_2 hfz20_3 hfz20_4 hfz20_5 hfz20_6
 try clear hfz23_0 hfz23_1 hfz23_2 hfz23_3 hfz23_4 hfz23_5 hfz23_6
 try clear hfz25_0 hfz25_1 hfz25_2 hfz25_3 hfz25_4 hfz25_5 hfz25_6
 try clear hfz4_0 hfz4_1 hfz4_2
 try clear hfz6_0 hfz6_1 hfz6_2
 try clear hx102_0
 try clear hx103_0
 try clear hx104_0
 try clear hx105_0 hx105_1 hx105_2 hx105_3 hx105_4 hx105_5 hx105_6
 try clear p1
 try clear p10
 try clear p102
 try clear p103
 try clear p104
 try clear p105
 try clear p2
 try clear q1
 try clear q10
 try clear q102
 try clear q103
 try clear q104
 try clear q105
 obtain ⟨x6_4, rfl, HA, HK4, BK101, BK106, HB⟩ := hrel
 cases gk with
 | zero => exact absurd HA.out (by simp [boarderlaw13_Great.l2])
 | succ k4 => ?_
 have H := HA.out
 clear HA
 simp only [boarderlaw13_Great.l2] at H
 by_cases c27 : x6_4 < (((rd_T57 ((rd_T41 l0_2 x3_1).f0) x4_2).f3).length : Int)
 rotate_left
 · rw [if_neg c27] at H
   have c27b0 : decide (x6_4 < (((rd_T57 ((rd_T41 l0_2 x3_1).f0) x4_2).f3).length : Int)) = false := decide_eq_false c27
   clear c27
   have H' := Aside0.mk H
   clear H
   have hnb34 := NB106_101.out
   have hnc34 := NB101_106.out
   obtain ⟨hcz35_0, hcz35_1, hcz35_2, hcz35_3, hcz35_4, hcz35_5, hcz35_6, hfz35_0, hfz35_1, hfz35_2, hfz35_3, hfz35_4, hfz35_5, hfz35_6⟩ := sqF7 BK106.out
   go_wp2
   go_roundg k4
   case measure => have := HK1.out; have := HK2.out; have := HJ15.out; have := HK4.out; omega
   case rel => exact ⟨(wrap64 (x4_2 + 1)), sqI, H', ⟨by have := HK1.out; have := HK2.out; have := HJ15.out; have := HK4.out; omega⟩, ⟨sqK BK101.out⟩, ⟨sqB2 HB.out GE101.out GE106.out⟩⟩
 rw [if_pos c27] at H
 have c27b0 : decide (x6_4 < (((rd_T57 ((rd_T41 l0_2 x3_1).f0) x4_2).f3).length : Int)) = true := decide_eq_true c27
 clear c27
 by_cases c28 : 0 ≤ x6_4
 rotate_left
 · rw [if_neg c28] at H
   exact absurd H (by simp)
 rw [if_pos c28] at H
 have c28b0 : decide (0 ≤ x6_4) = true := decide_eq_true c28
 clear c28
 by_cases c29 : (((rd_T59 ((rd_T57 ((rd_T41 l0_2 x3_1).f0) x4_2).f3) x6_4).f0).size : Int) > 1000
 · rw [if_pos c29] at H
   have c29b0 : decide (1000 < (((rd_T59 ((rd_T57 ((rd_T41 l0_2 x3_1).f0) x4_2).f3) x6_4).f0).size : Int)) = true := decide_eq_true c29
   have c29b1 : decide (1000 < ((rd_T59 ((rd_T57 ((rd_T41 l0_2 x3_1).f0) x4_2).f3) x6_4).f0).size) = true := decide_eq_true (by omega)
   clear c29
   obtain rfl := Option.some.inj H
   have hnb30 := NB106_101.out
   have hnc30 := NB101_106.out
   obtain ⟨hcz31_0, hcz31_1, hcz31_2, hcz31_3, hcz31_4, hcz31_5, hcz31_6, hfz31_0, hfz31_1, hfz31_2, hfz31_3, hfz31_4, hfz31_5, hfz31_6⟩ := sqF7 BK106.out
   have p107 : 0 ≤ (x6_4 : Int) := of_decide_eq_true sqH
   have q107 : x6_4 < (((rd_T57 ((rd_T41 l0_2 x3_1).f0) x4_2).f3).length : Int) := of_decide_eq_true sqH
   obtain ⟨ad107, e107, hx107_0, hx107_1⟩ := at_T59 HR105_3.out x6_4 p107 q107
   cases e107
   replace hx107_0 := sqx HB.out hx107_0
   replace hx107_1 := sqx HB.out hx107_1
   replace p107 := eq_true p107
   replace q107 := eq_true q107
   go_wp2
   go_ret
   exact ⟨sqE, sqB2 HB.out GE101.out GE106.out⟩
 rw [if_neg c29] at H
 have c29b0 : decide (1000 < (((rd_T59 ((rd_T57 ((rd_T41 l0_2 x3_1).f0) x4_2).f3) x6_4).f0).size : Int)) = false := decide_eq_false c29
 have c29b1 : decide (1000 < ((rd_T59 ((rd_T57 ((rd_T41 l0_2 x3_1).f0) x4_2).f3) x6_4).f0).size) = false := decide_eq_false (by omega)
 clear c29
 have H' := sqM H
 clear H
 have hnb32 := NB106_101.out
 have hnc32 := NB101_106.out
 obtain ⟨hcz33_0, hcz33_1, hcz33_2, hcz33_3, hcz33_4, hcz33_5, hcz33_6, hfz33_0, hfz33_1, hfz33_2, hfz33_3, hfz33_4, hfz33_5, hfz33_6⟩ := sqF7 BK106.out
 have p107 : 0 ≤ (x6_4 : Int) := of_decide_eq_true sqH
 have q107 : x6_4 < (((rd_T57 ((rd_T41 l0_2 x3_1).f0) x4_2).f3).length : Int) := of_decide_eq_true sqH
 obtain ⟨ad107, e107, hx107_0, hx107_1⟩ := at_T59 HR105_3.out x6_4 p107 q107
 cases e107
 replace hx107_0 := sqx HB.out hx107_0
 replace hx107_1 := sqx HB.out hx107_1
 replace p107 := eq_true p107
 replace q107 := eq_true q107
 go_wp2
 go_roundg k4
 case measure => have := HK1.out; have := HK2.out; have := HJ15.out; have := HK4.out; omega
 case rel => exact ⟨(wrap64 (x6_4 + 1)), sqI, H', ⟨by have := HK1.out; have := HK2.out; have := HJ15.out; have := HK4.out; omega⟩, ⟨sqK BK101.out⟩, ⟨sqK BK106.out⟩, ⟨sqB2 HB.out GE101.out GE106.out⟩⟩

/-! ### addr_Right: function 64 -/
def addr_Right.f (a0 : Int) : Option (Bool) := if a0 ≥ 0 then (some (decide (a0 ≤ 4294967295))) else (some false)
set_option maxHeartbeats 8000000 in
set_option maxRecDepth 100000 in
theorem addr_Right.calls (a0 : Int) (r : Bool) (w : World) (h : addr_Right.f a0 = some r) :
    Calls Try.prog 64 #[.int .i64 a0] w fun e w' => e = .returned (.bool r) ∧ Drawn0 w w' := by
 have H : (if a0 ≥ 0 then (some (decide (a0 ≤ 4294967295))) else (some false)) = some r := h
 clear h
 by_cases c2 : a0 ≥ 0
 · rw [if_pos c2] at H
   have c2b0 : decide (0 ≤ a0) = true := decide_eq_true c2
   clear c2
   obtain rfl := Option.some.inj H
   go_enter Try.func64, Try.ntmps64
   go_wp2
   go_ret
   exact ⟨sqI, sqD⟩
 rw [if_neg c2] at H
 have c2b0 : decide (0 ≤ a0) = false := decide_eq_false c2
 clear c2
 obtain rfl := Option.some.inj H
 go_enter Try.func64, Try.ntmps64
 go_wp2
 go_ret
 exact ⟨sqI, sqD⟩

/-! ### conf_within: function 65 -/
def conf_within.f (a0 : Int) (a1 : Int) (a2 : Int) : Option (Bool) := if a0 ≥ a1 then (some (decide (a0 ≤ a2))) else (some false)
set_option maxHeartbeats 8000000 in
set_option maxRecDepth 100000 in
theorem conf_within.calls (a0 : Int) (a1 : Int) (a2 : Int) (r : Bool) (w : World) (h : conf_within.f a0 a1 a2 = some r) :
    Calls Try.prog 65 #[.int .i64 a0, .int .i64 a1, .int .i64 a2] w fun e w' => e = .returned (.bool r) ∧ Drawn0 w w' := by
 have H : (if a0 ≥ a1 then (some (decide (a0 ≤ a2))) else (some false)) = some r := h
 clear h
 by_cases c4 : a0 ≥ a1
 · rw [if_pos c4] at H
   have c4b0 : decide (a1 ≤ a0) = true := decide_eq_true c4
   clear c4
   obtain rfl := Option.some.inj H
   go_enter Try.func65, Try.ntmps65
   go_wp2
   go_ret
   exact ⟨sqI, sqD⟩
 rw [if_neg c4] at H
 have c4b0 : decide (a1 ≤ a0) = false := decide_eq_false c4
 clear c4
 obtain rfl := Option.some.inj H
 go_enter Try.func65, Try.ntmps65
 go_wp2
 go_ret
 exact ⟨sqI, sqD⟩

/-! ### conf_spots: function 66 -/
mutual
def conf_spots.l0 : Nat → List (S66) → List (S41) → Int → Int → Option ((List (S66)))
  | 0, _, _, _, _ => none
  | k + 1, x3, x9, x10, x11 => if x11 < x10 then (if 0 ≤ x11 then (if x11 < (x9.length : Int) then (conf_spots.l1 k x3 x11 x9 x10 x11 ((rd_T41 x9 x11).f0) (((rd_T41 x9 x11).f0).length : Int) 0) else (none)) else (none)) else (some x3)
def conf_spots.l1 : Nat → List (S66) → Int → List (S41) → Int → Int → List (S57) → Int → Int → Option ((List (S66)))
  | 0, _, _, _, _, _, _, _, _ => none
  | k + 1, x3, x4, x9, x10, x11, x17, x18, x19 => if x19 < x18 then (if 0 ≤ x19 then (if x19 < (x17.length : Int) then (if x3.length < 1353245080339 then (conf_spots.l1 k (x3 ++ [(⟨x4, x19, (⟨(rd_T57 x17 x19).f0, (rd_T57 x17 x19).f1, (rd_T57 x17 x19).f2, (rd_T57 x17 x19).f3, (rd_T57 x17 x19).f4, (rd_T57 x17 x19).f5, (rd_T57 x17 x19).f6⟩ : S57)⟩ : S66)]) x4 x9 x10 x11 x17 x18 (wrap64 (x19 + 1))) else (none)) else (none)) else (none)) else (conf_spots.l0 k x3 x9 x10 (wrap64 (x11 + 1)))
end
def conf_spots.f (k : Nat) (a0_0 : Int) (a0_1 : Int) (l0_2 : List (S41)) : Option ((List (S66))) := conf_spots.l0 k ([] : List (S66)) l0_2 (l0_2.length : Int) 0
theorem conf_spots.mono_l : ∀ k, (∀ y0 y1 y2 y3, LeO (conf_spots.l0 k y0 y1 y2 y3) (conf_spots.l0 (k + 1) y0 y1 y2 y3)) ∧ (∀ y0 y1 y2 y3 y4 y5 y6 y7, LeO (conf_spots.l1 k y0 y1 y2 y3 y4 y5 y6 y7) (conf_spots.l1 (k + 1) y0 y1 y2 y3 y4 y5 y6 y7))
  | 0 => ⟨fun _ _ _ _ r h => by simp [conf_spots.l0] at h, fun _ _ _ _ _ _ _ _ r h => by simp [conf_spots.l1] at h⟩
  | k + 1 => by
    obtain ⟨ih0, ih1⟩ := conf_spots.mono_l k
    refine ⟨?_, ?_⟩
    · intro y0 y1 y2 y3
      unfold conf_spots.l0
      repeat' first
      | (with_reducible exact ih0 _ _ _ _)
      | (with_reducible exact ih1 _ _ _ _ _ _ _ _)
      | (with_reducible exact LeO.refl _)
      | (with_reducible exact LeO.none _)
      | (with_reducible refine LeO.ite ?_ ?_)
      | (with_reducible refine LeO.bind ?_ (fun _ => ?_))
    · intro y0 y1 y2 y3 y4 y5 y6 y7
      unfold conf_spots.l1
      repeat' first
      | (with_reducible exact ih0 _ _ _ _)
      | (with_reducible exact ih1 _ _ _ _ _ _ _ _)
      | (with_reducible exact LeO.refl _)
      | (with_reducible exact LeO.none _)
      | (with_reducible refine LeO.ite ?_ ?_)
      | (with_reducible refine LeO.bind ?_ (fun _ => ?_))
theorem conf_spots.mono : ∀ a0 a1 a2 k, LeO (conf_spots.f k a0 a1 a2) (conf_spots.f (k + 1) a0 a1 a2) := by
 intro a0 a1 a2 k
 obtain ⟨ih0, ih1⟩ := conf_spots.mono_l k
 unfold conf_spots.f
 repeat' first
  | (with_reducible exact ih0 _ _ _ _)
  | (with_reducible exact ih1 _ _ _ _ _ _ _ _)
  | (with_reducible exact LeO.refl _)
  | (with_reducible exact LeO.none _)
  | (with_reducible refine LeO.ite ?_ ?_)
  | (with_reducible refine LeO.bind ?_ (fun _ => ?_))
set_option maxHeartbeats 8000000 in
set_option maxRecDepth 100000 in
theorem conf_spots.calls (k : Nat) (a0_0 : Int) (a0_1 : Int) (P0_2_ : Nat → Prop) (A0_2 : Option Addr) (c0_2 : Nat) (l0_2 : List (S41)) (r : List (S66)) (w : World) (hs0_2 : Kd.V k41 41 w w.heap.size (fun k_ => P0_2_ k_) (.slice A0_2 l0_2.length c0_2) l0_2) (h : conf_spots.f k a0_0 a0_1 l0_2 = some r) :
    Calls Try.prog 66 #[.agg #[.int .i64 a0_0, .int .i64 a0_1, .slice A0_2 l0_2.length c0_2]] w fun e w' => ∃ v0_ : Value, e = .returned (v0_) ∧ Kd.N k66 66 w' w.heap.size (fun k_ => (P0_2_ k_ ∨ w.heap.size ≤ k_)) v0_ r ∧ Below w.heap.size w w' := by
 have hu24 := Try.underlying24
 have hu41 := Try.underlying41
 have hu57 := Try.underlying57
 have hu66 := Try.underlying66
 have HO0_2 := sqM (show Kd.V k41 41 w w.heap.size (fun k_ => (P0_2_ k_ ∨ w.heap.size ≤ k_)) (.slice A0_2 l0_2.length c0_2) l0_2 from Kd.V_mono hs0_2 (fun k_ hk => .inl hk))
 have HB := Aside0.mk (Below.refl w.heap.size w)
 have H : (conf_spots.l0 k ([] : List (S66)) l0_2 (l0_2.length : Int) 0) = some r := h
 clear h
 have H' := Aside0.mk H
 clear H
 go_enter Try.func66, Try.ntmps66
 go_wp2_with (first | ((with_reducible refine gate_dst (N := 1) rfl ?_); refine box_event rfl (N := 1) rfl (cs := #[.int .i64 a0_0, .int .i64 a0_1, .slice A0_2 l0_2.length c0_2]) (t := 24) sqs ?_; intro gb108 hg w2 hbox hb; have BK108 := sqM (hbox); have GW108 := sqM (sqZ hg (sqB HB.out)); have GE108 := sqM (sqZ hg (sqB HB.out)); replace HO0_2 := sqM (sqVe (sqV HO0_2.out) hg hb); replace HB := sqM (below_step (sqB HB.out) hb); clear hb hbox hg; obtain ⟨hcz3_0, hcz3_1, hcz3_2, hfz3_0, hfz3_1, hfz3_2⟩ := sqF3 BK108.out))
 go_loopg [3, 11] k (fun kq v3 v11 w' => ∃ (x3_1 : List (S66)) (x11_1 : Int), v11 = .int .i64 x11_1 ∧ Aside0 (conf_spots.l0 kq x3_1 l0_2 (l0_2.length : Int) x11_1 = some r) ∧ Aside0 (kq ≤ k) ∧ Aside0 (Kd.N k66 66 w' w.heap.size (fun k_ => (P0_2_ k_ ∨ w.heap.size ≤ k_) ∧ k_ ≠ gb108) v3 x3_1) ∧ Aside0 (Kd.V k41 41 w' w.heap.size (fun k_ => (P0_2_ k_ ∨ w.heap.size ≤ k_) ∧ some k_ ≠ (v3 : Value).ownBlock ∧ k_ ≠ gb108) (.slice A0_2 l0_2.length c0_2) l0_2) ∧ Aside0 (Kd.V k41 41 w' w.heap.size (fun k_ => (P0_2_ k_ ∨ w.heap.size ≤ k_) ∧ some k_ ≠ (v3 : Value).ownBlock ∧ k_ ≠ gb108) (.slice A0_2 l0_2.length c0_2) l0_2) ∧ Aside0 (w'.heap[gb108]? = some (.cells #[.int .i64 a0_0, .int .i64 a0_1, (.slice A0_2 l0_2.length c0_2)] 24 (0, 0))) ∧ Aside0 (Below w.heap.size w w'))
 case atStart => exact ⟨(([] : List (S66))), (0), sqI, H', ⟨Nat.le_refl _⟩, ⟨by first | exact Kd.S_nil _ _ _ _ _ | exact Kd.N_nil _ _ _ _ _ | exact Kd.V_nil _ _ _ _ _ | exact Kd.Q_nil _ _ _ _ _ | exact Kd.R_nil _ _ _ _ _⟩, ⟨by refine sqV ?_; exact Kd.V_mono HO0_2.out (fun _ hk => ⟨hk.1, ⟨(by simp [Value.ownBlock]), hk.2⟩⟩)⟩, ⟨by refine sqV ?_; exact Kd.V_mono HO0_2.out (fun _ hk => ⟨hk.1, ⟨(by simp [Value.ownBlock]), hk.2⟩⟩)⟩, ⟨sqK BK108.out⟩, ⟨sqB1 HB.out GE108.out⟩⟩
 clear H'
 try clear p2
 try clear hcz3_0 hcz3_1 hcz3_2 hfz3_0 hfz3_1 hfz3_2
 obtain ⟨x3_1, x11_1, rfl, HA, HK1, HO_3, HO_9, HO_109002, BK108, HB⟩ := hrel
 cases gk with
 | zero => exact absurd HA.out (by simp [conf_spots.l0])
 | succ k1 => ?_
 have H := HA.out
 clear HA
 simp only [conf_spots.l0] at H
 by_cases c4 : x11_1 < (l0_2.length : Int)
 rotate_left
 · rw [if_neg c4] at H
   have c4b0 : decide (x11_1 < (l0_2.length : Int)) = false := decide_eq_false c4
   clear c4
   obtain rfl := Option.some.inj H
   go_wp2
   go_ret
   exact ⟨_, sqE, by refine sqN ?_; exact Kd.N_mono HO_3.out (fun _ hk => hk.1), sqB1 HB.out GE108.out⟩
 rw [if_pos c4] at H
 have c4b0 : decide (x11_1 < (l0_2.length : Int)) = true := decide_eq_true c4
 clear c4
 by_cases c5 : 0 ≤ x11_1
 rotate_left
 · rw [if_neg c5] at H
   exact absurd H (by simp)
 rw [if_pos c5] at H
 have c5b0 : decide (0 ≤ x11_1) = true := decide_eq_true c5
 clear c5
 by_cases c6 : x11_1 < (l0_2.length : Int)
 rotate_left
 · rw [if_neg c6] at H
   exact absurd H (by simp)
 rw [if_pos c6] at H
 have c6b0 : decide (x11_1 < (l0_2.length : Int)) = true := decide_eq_true c6
 clear c6
 have H' := Aside0.mk H
 clear H
 have p109 : 0 ≤ (x11_1 : Int) := of_decide_eq_true sqH
 have q109 : x11_1 < (l0_2.length : Int) := of_decide_eq_true sqH
 obtain ⟨ad109, A109_0, c109_0, e109, hx109_0, hl109_0, hi109_0⟩ := at_T41 (Kd.V_reads' HO_9.out).2.2 x11_1 p109 q109
 cases e109
 obtain ⟨ce109, hce109, hMe109, hcc109⟩ := Kd.V_get HO_9.out z41 x11_1 p109 (by first | exact q109 | exact of_decide_eq_true sqH | (have e_ := (Kd.V_reads' HO_9.out).1; omega))
 obtain ⟨ua109_0, uc109_0, rfl, ul109_0, ge109_0⟩ := k41_openF hMe109
 have hv109_0 := hcc109 0 _ rfl
 rw [Nat.add_zero, show (k41).sz = 1 from rfl, Nat.mul_one] at hv109_0
 replace hv109_0 := Option.some.inj (hv109_0.symm.trans hx109_0)
 injection hv109_0 with hva_ hvn_ hvc_
 rw [hva_] at ge109_0
 rw [hvc_] at ul109_0
 have HL109_0 := sqM (show Kd.V k57 57 _ w.heap.size _ _ ((rd_T41 l0_2 x11_1).f0) from Kd.V_mk ul109_0 ge109_0)
 clear hva_ hvn_ hvc_ ge109_0 ul109_0
 clear hcc109 hce109
 have HR109_0 := Aside0.mk hi109_0
 have HC109_0 := Aside0.mk hl109_0
 clear hi109_0 hl109_0
 replace p109 := eq_true p109
 replace q109 := eq_true q109
 go_wp2_with (first | ((with_reducible refine gate_dst (N := 5) rfl ?_); refine box_event rfl (N := 5) rfl (cs := #[.slice none 0 0]) (t := 41) sqs ?_; intro gb110 hg w7 hbox hb; have BK110 := sqM (hbox); have GW110 := sqM (sqZ hg (sqB1 HB.out GE108.out)); have GE110 := sqM (sqZ hg (sqB1 HB.out GE108.out)); have NB108_110 := sqM (sqL hg (sqK BK108.out)); have NB110_108 := sqM (sqG hg (sqK BK108.out)); replace HO_3 := sqM (sqNe (sqN HO_3.out) hg hb); replace HO_9 := sqM (sqVe (sqV HO_9.out) hg hb); replace HO_109002 := sqM (sqVe (sqV HO_109002.out) hg hb); replace HL109_0 := sqM (sqVe (sqV HL109_0.out) hg hb); replace BK108 := sqM (blk_below (sqK BK108.out) hb); replace HR109_0 := sqM (Kd.C_below (sqC HR109_0.out) hb); replace HB := sqM (below_step (sqB1 HB.out GE108.out) hb); clear hb hbox hg; have hnb8 := NB110_108.out; have hnc8 := NB108_110.out; obtain ⟨hcz9_0, hfz9_0⟩ := sqF1 BK110.out))
 go_loopg [3, 19] k1 (fun kq v3 v19 w' => ∃ (x3_2 : List (S66)) (x19_2 : Int), v19 = .int .i64 x19_2 ∧ Aside0 (conf_spots.l1 kq x3_2 x11_1 l0_2 (l0_2.length : Int) x11_1 ((rd_T41 l0_2 x11_1).f0) (((rd_T41 l0_2 x11_1).f0).length : Int) x19_2 = some r) ∧ Aside0 (kq ≤ k1) ∧ Aside0 (Kd.N k66 66 w' w.heap.size (fun k_ => (P0_2_ k_ ∨ w.heap.size ≤ k_) ∧ k_ ≠ gb108 ∧ k_ ≠ gb110) v3 x3_2) ∧ Aside0 (Kd.V k41 41 w' w.heap.size (fun k_ => (P0_2_ k_ ∨ w.heap.size ≤ k_) ∧ some k_ ≠ (v3 : Value).ownBlock ∧ k_ ≠ gb108 ∧ k_ ≠ gb110) (.slice (some ad109) l0_2.length c0_2) l0_2) ∧ Aside0 (Kd.V k57 57 w' w.heap.size (fun k_ => (P0_2_ k_ ∨ w.heap.size ≤ k_) ∧ some k_ ≠ (v3 : Value).ownBlock ∧ k_ ≠ gb108 ∧ k_ ≠ gb110) (.slice A109_0 ((rd_T41 l0_2 x11_1).f0).length c109_0) ((rd_T41 l0_2 x11_1).f0)) ∧ Aside0 (Kd.V k41 41 w' w.heap.size (fun k_ => (P0_2_ k_ ∨ w.heap.size ≤ k_) ∧ some k_ ≠ (v3 : Value).ownBlock ∧ k_ ≠ gb108 ∧ k_ ≠ gb110) (.slice (some ad109) l0_2.length c0_2) l0_2) ∧ Aside0 (Kd.V k57 57 w' w.heap.size (fun k_ => (P0_2_ k_ ∨ w.heap.size ≤ k_) ∧ some k_ ≠ (v3 : Value).ownBlock ∧ k_ ≠ gb108 ∧ k_ ≠ gb110) (.slice A109_0 ((rd_T41 l0_2 x11_1).f0).length c109_0) ((rd_T41 l0_2 x11_1).f0)) ∧ Aside0 (w'.heap[gb108]? = some (.cells #[.int .i64 a0_0, .int .i64 a0_1, (.slice (some ad109) l0_2.length c0_2)] 24 (0, 0))) ∧ Aside0 (w'.heap[gb110]? = some (.cells #[(.slice A109_0 ((rd_T41 l0_2 x11_1).f0).length c109_0)] 41 (0, 0))) ∧ Aside0 (Below w.heap.size w w'))
 case atStart => exact ⟨(x3_1), (0), sqI, H', ⟨Nat.le_refl _⟩, ⟨by refine sqN ?_; exact Kd.N_mono (Kd.N_far (p := ⟨gb110, 0, none⟩) (Kd.N_mono HO_3.out (fun k_ hk => (⟨hk, hk.2⟩ : _ ∧ k_ ≠ gb110))) (fun _ hk => hk.2) (.slice A109_0 ((rd_T41 l0_2 x11_1).f0).length c109_0)) (fun _ hk => ⟨hk.1.1.1, ⟨hk.1.1.2, hk.1.2⟩⟩)⟩, ⟨by refine sqV ?_; exact Kd.V_mono (Kd.V_far (p := ⟨gb110, 0, none⟩) (Kd.V_mono HO_9.out (fun k_ hk => (⟨hk, hk.2⟩ : _ ∧ k_ ≠ gb110))) (fun _ hk => hk.2) (.slice A109_0 ((rd_T41 l0_2 x11_1).f0).length c109_0)) (fun _ hk => ⟨hk.1.1.1, ⟨hk.1.1.2.1, ⟨hk.1.1.2.2, hk.1.2⟩⟩⟩)⟩, ⟨by refine sqV ?_; exact Kd.V_mono (Kd.V_far (p := ⟨gb110, 0, none⟩) (Kd.V_mono HL109_0.out (fun k_ hk => (⟨hk, hk.2⟩ : _ ∧ k_ ≠ gb110))) (fun _ hk => hk.2) (.slice A109_0 ((rd_T41 l0_2 x11_1).f0).length c109_0)) (fun _ hk => ⟨hk.1.1.1, ⟨hk.1.1.2.1, ⟨hk.1.1.2.2, hk.1.2⟩⟩⟩)⟩, ⟨by refine sqV ?_; exact Kd.V_mono (Kd.V_far (p := ⟨gb110, 0, none⟩) (Kd.V_mono HO_109002.out (fun k_ hk => (⟨hk, hk.2⟩ : _ ∧ k_ ≠ gb110))) (fun _ hk => hk.2) (.slice A109_0 ((rd_T41 l0_2 x11_1).f0).length c109_0)) (fun _ hk => ⟨hk.1.1.1, ⟨hk.1.1.2.1, ⟨hk.1.1.2.2, hk.1.2⟩⟩⟩)⟩, ⟨by refine sqV ?_; exact Kd.V_mono (Kd.V_far (p := ⟨gb110, 0, none⟩) (Kd.V_mono HL109_0.out (fun k_ hk => (⟨hk, hk.2⟩ : _ ∧ k_ ≠ gb110))) (fun _ hk => hk.2) (.slice A109_0 ((rd_T41 l0_2 x11_1).f0).length c109_0)) (fun _ hk => ⟨hk.1.1.1, ⟨hk.1.1.2.1, ⟨hk.1.1.2.2, hk.1.2⟩⟩⟩)⟩, ⟨by refine sqK ?_; refine blk_far ?_ NB108_110.out _; refine sqK ?_; exact BK108.out⟩, ⟨by refine sqK ?_; refine blk_put (cs := #[.slice none 0 0]) ?_ 0 _ rfl; refine sqK ?_; exact BK110.out⟩, ⟨sqB2 HB.out GE108.out GE110.out⟩⟩
 clear H'
 try clear c1
 try clear p1
 try clear q1
 try clear hx1
 try clear p2
 try clear c4
 try clear c4b0
 try clear c5
 try clear c5b0
 try clear c6
 try clear c6b0
 try clear c8
 try clear hcz3_0 hcz3_1 hcz3_2
 try clear hcz9_0
 try clear hfz3_0 hfz3_1 hfz3_2
 try clear hfz9_0
 try clear hx109_0
 try clear p109
 try clear p2
 try clear q109
 obtain ⟨x3_2, x19_2, rfl, HA, HK2, HO_3, HO_9, HO_17, HO_109002, HO_111000, BK108, BK110, HB⟩ := hrel
 cases gk with
 | zero => exact absurd HA.out (by simp [conf_spots.l1])
 | succ k2 => ?_
 have H := HA.out
 clear HA
 simp only [conf_spots.l1] at H
 by_cases c10 : x19_2 < (((rd_T41 l0_2 x11_1).f0).length : Int)
 rotate_left
 · rw [if_neg c10] at H
   have c10b0 : decide (x19_2 < (((rd_T41 l0_2 x11_1).f0).length : Int)) = false := decide_eq_false c10
   clear c10
   have H' := Aside0.mk H
   clear H
   go_wp2
   go_roundg k2
   case measure => have := HK1.out; have := HK2.out; omega
   case rel => exact ⟨(x3_2), (wrap64 (x11_1 + 1)), sqI, H', ⟨by have := HK1.out; have := HK2.out; omega⟩, ⟨by refine sqN ?_; exact Kd.N_mono HO_3.out (fun _ hk => ⟨hk.1, hk.2.1⟩)⟩, ⟨by refine sqV ?_; exact Kd.V_mono HO_9.out (fun _ hk => ⟨hk.1, ⟨hk.2.1, hk.2.2.1⟩⟩)⟩, ⟨by refine sqV ?_; exact Kd.V_mono HO_109002.out (fun _ hk => ⟨hk.1, ⟨hk.2.1, hk.2.2.1⟩⟩)⟩, ⟨sqK BK108.out⟩, ⟨sqB2 HB.out GE108.out GE110.out⟩⟩
 rw [if_pos c10] at H
 have c10b0 : decide (x19_2 < (((rd_T41 l0_2 x11_1).f0).length : Int)) = true := decide_eq_true c10
 clear c10
 by_cases c11 : 0 ≤ x19_2
 rotate_left
 · rw [if_neg c11] at H
   exact absurd H (by simp)
 rw [if_pos c11] at H
 have c11b0 : decide (0 ≤ x19_2) = true := decide_eq_true c11
 clear c11
 by_cases c12 : x19_2 < (((rd_T41 l0_2 x11_1).f0).length : Int)
 rotate_left
 · rw [if_neg c12] at H
   exact absurd H (by simp)
 rw [if_pos c12] at H
 have c12b0 : decide (x19_2 < (((rd_T41 l0_2 x11_1).f0).length : Int)) = true := decide_eq_true c12
 clear c12
 by_cases c13 : x3_2.length < 1353245080339
 rotate_left
 · rw [if_neg c13] at H
   exact absurd H (by simp)
 rw [if_pos c13] at H
 have LMc13 := Aside0.mk c13
 clear c13
 obtain ⟨y113, hy113⟩ : ∃ y_ : List (S66), y_ = (x3_2 ++ [(⟨x11_1, x19_2, (⟨(rd_T57 ((rd_T41 l0_2 x11_1).f0) x19_2).f0, (rd_T57 ((rd_T41 l0_2 x11_1).f0) x19_2).f1, (rd_T57 ((rd_T41 l0_2 x11_1).f0) x19_2).f2, (rd_T57 ((rd_T41 l0_2 x11_1).f0) x19_2).f3, (rd_T57 ((rd_T41 l0_2 x11_1).f0) x19_2).f4, (rd_T57 ((rd_T41 l0_2 x11_1).f0) x19_2).f5, (rd_T57 ((rd_T41 l0_2 x11_1).f0) x19_2).f6⟩ : S57)⟩ : S66)]) := ⟨_, rfl⟩
 replace H : (conf_spots.l1 k2 y113 x11_1 l0_2 (l0_2.length : Int) x11_1 ((rd_T41 l0_2 x11_1).f0) (((rd_T41 l0_2 x11_1).f0).length : Int) (wrap64 (x19_2 + 1))) = some r := by first | (rw [hy113]; with_reducible exact H) | (have H2_ := (Option.bind_some _ _).symm.trans H; rw [hy113]; with_reducible exact H2_) | (have H2_ := (Option.bind_some _ _).symm.trans H; with_reducible exact H2_) | with_reducible exact H | (rw [hy113]; exact H) | exact H
 have Ny113 := Aside0.mk hy113
 clear hy113
 have H' := Aside0.mk H
 clear H
 have p111 : 0 ≤ (x19_2 : Int) := of_decide_eq_true sqH
 have q111 : x19_2 < (((rd_T41 l0_2 x11_1).f0).length : Int) := of_decide_eq_true sqH
 obtain ⟨ad111, A111_2, c111_2, A111_3, c111_3, e111, hx111_0, hx111_1, hx111_2, hx111_3, hx111_4, hx111_5, hx111_6, hl111_2, hi111_2, hl111_3, hi111_3⟩ := at_T57 (Kd.V_reads' HO_17.out).2.2 x19_2 p111 q111
 cases e111
 obtain ⟨ce111, hce111, hMe111, hcc111⟩ := Kd.V_get HO_17.out z57 x19_2 p111 (by first | exact q111 | exact of_decide_eq_true sqH | (have e_ := (Kd.V_reads' HO_17.out).1; omega))
 obtain ⟨ua111_2, uc111_2, ua111_3, uc111_3, rfl, ul111_2, ge111_2, ul111_3, ge111_3⟩ := k57_openF hMe111
 have hv111_2 := hcc111 2 _ rfl
 rw [add_field _ _ 2 (by omega)] at hv111_2
 replace hv111_2 := Option.some.inj (hv111_2.symm.trans hx111_2)
 injection hv111_2 with hva_ hvn_ hvc_
 rw [hva_] at ge111_2
 rw [hvc_] at ul111_2
 have HL111_2 := sqM (show Kd.V k62 62 _ w.heap.size _ _ ((rd_T57 ((rd_T41 l0_2 x11_1).f0) x19_2).f2) from Kd.V_mk ul111_2 ge111_2)
 clear hva_ hvn_ hvc_ ge111_2 ul111_2
 have hv111_3 := hcc111 3 _ rfl
 rw [add_field _ _ 3 (by omega)] at hv111_3
 replace hv111_3 := Option.some.inj (hv111_3.symm.trans hx111_3)
 injection hv111_3 with hva_ hvn_ hvc_
 rw [hva_] at ge111_3
 rw [hvc_] at ul111_3
 have HL111_3 := sqM (show Kd.V k59 59 _ w.heap.size _ _ ((rd_T57 ((rd_T41 l0_2 x11_1).f0) x19_2).f3) from Kd.V_mk ul111_3 ge111_3)
 clear hva_ hvn_ hvc_ ge111_3 ul111_3
 clear hcc111 hce111
 have HR111_2 := Aside0.mk hi111_2
 have HC111_2 := Aside0.mk hl111_2
 clear hi111_2 hl111_2
 have HR111_3 := Aside0.mk hi111_3
 have HC111_3 := Aside0.mk hl111_3
 clear hi111_3 hl111_3
 replace p111 := eq_true p111
 replace q111 := eq_true q111
 go_wp2_with (first | ((with_reducible refine gate_dst (N := 7) rfl ?_); refine box_event rfl (N := 7) rfl (cs := #[.int .i64 0, .int .i64 0, .slice none 0 0, .slice none 0 0, .int .i64 0, .int .i64 0, .int .i64 0]) (t := 57) sqs ?_; intro gb112 hg w14 hbox hb; have BK112 := sqM (hbox); have GW112 := sqM (sqZ hg (sqB2 HB.out GE108.out GE110.out)); have GE112 := sqM (sqZ hg (sqB2 HB.out GE108.out GE110.out)); have NB108_112 := sqM (sqL hg (sqK BK108.out)); have NB112_108 := sqM (sqG hg (sqK BK108.out)); have NB110_112 := sqM (sqL hg (sqK BK110.out)); have NB112_110 := sqM (sqG hg (sqK BK110.out)); replace HO_3 := sqM (sqNe (sqN HO_3.out) hg hb); replace HO_9 := sqM (sqVe (sqV HO_9.out) hg hb); replace HO_17 := sqM (sqVe (sqV HO_17.out) hg hb); replace HO_109002 := sqM (sqVe (sqV HO_109002.out) hg hb); replace HO_111000 := sqM (sqVe (sqV HO_111000.out) hg hb); replace HL111_2 := sqM (sqVe (sqV HL111_2.out) hg hb); replace HL111_3 := sqM (sqVe (sqV HL111_3.out) hg hb); replace BK108 := sqM (blk_below (sqK BK108.out) hb); replace BK110 := sqM (blk_below (sqK BK110.out) hb); replace HR111_2 := sqM (Kd.C_below (sqC HR111_2.out) hb); replace HR111_3 := sqM (Kd.C_below (sqC HR111_3.out) hb); replace HB := sqM (below_step (sqB2 HB.out GE108.out GE110.out) hb); clear hb hbox hg; have hnb15 := NB112_108.out; have hnc15 := NB108_112.out; have hnb16 := NB112_110.out; have hnc16 := NB110_112.out; obtain ⟨hcz17_0, hcz17_1, hcz17_2, hcz17_3, hcz17_4, hcz17_5, hcz17_6, hfz17_0, hfz17_1, hfz17_2, hfz17_3, hfz17_4, hfz17_5, hfz17_6⟩ := sqF7 BK112.out) | ((with_reducible refine gate_store (t := 57) (p := 7) rfl ?_); refine store_event (t := 57) (p := 7) (v := ?vo_w18) (w1 := (((((((w14.setCell ⟨gb112, 0, none⟩ (.int .i64 ((rd_T57 ((rd_T41 l0_2 x11_1).f0) x19_2).f0))).setCell ⟨gb112, 1, none⟩ (.int .i64 ((rd_T57 ((rd_T41 l0_2 x11_1).f0) x19_2).f1))).setCell ⟨gb112, 2, none⟩ (.slice A111_2 ((rd_T57 ((rd_T41 l0_2 x11_1).f0) x19_2).f2).length c111_2)).setCell ⟨gb112, 3, none⟩ (.slice A111_3 ((rd_T57 ((rd_T41 l0_2 x11_1).f0) x19_2).f3).length c111_3)).setCell ⟨gb112, 4, none⟩ (.int .i64 ((rd_T57 ((rd_T41 l0_2 x11_1).f0) x19_2).f4))).setCell ⟨gb112, 5, none⟩ (.int .i64 ((rd_T57 ((rd_T41 l0_2 x11_1).f0) x19_2).f5))).setCell ⟨gb112, 6, none⟩ (.int .i64 ((rd_T57 ((rd_T41 l0_2 x11_1).f0) x19_2).f6)))) ?hg ?ho ?hn ?hr ?_; (case ho => rfl); (case hg => rfl); (case hn => rfl); (case hr => first | (go_simp; done) | (go_simp; rfl)); intro w18 hw; replace HO_3 : Aside0 (Kd.N k66 66 w18 w.heap.size (fun k_ => (P0_2_ k_ ∨ w.heap.size ≤ k_) ∧ k_ ≠ gb108 ∧ k_ ≠ gb110 ∧ k_ ≠ gb112) u3 x3_2) := ⟨(by rw [hw]; exact (by refine sqN ?_; exact Kd.N_mono (sqN7 (Kd.N_mono HO_3.out (fun k_ hk => (⟨hk, hk.2⟩ : _ ∧ k_ ≠ gb112))) (fun _ hk => hk.2)) (fun _ hk => ⟨hk.1.1.1, ⟨hk.1.1.2.1, ⟨hk.1.1.2.2, hk.1.2⟩⟩⟩)))⟩; replace HO_9 : Aside0 (Kd.V k41 41 w18 w.heap.size (fun k_ => (P0_2_ k_ ∨ w.heap.size ≤ k_) ∧ some k_ ≠ (u3 : Value).ownBlock ∧ k_ ≠ gb108 ∧ k_ ≠ gb110 ∧ k_ ≠ gb112) (.slice (some ad109) l0_2.length c0_2) l0_2) := ⟨(by rw [hw]; exact (by refine sqV ?_; exact Kd.V_mono (sqV7 (Kd.V_mono HO_9.out (fun k_ hk => (⟨hk, hk.2⟩ : _ ∧ k_ ≠ gb112))) (fun _ hk => hk.2)) (fun _ hk => ⟨hk.1.1.1, ⟨hk.1.1.2.1, ⟨hk.1.1.2.2.1, ⟨hk.1.1.2.2.2, hk.1.2⟩⟩⟩⟩)))⟩; replace HO_17 : Aside0 (Kd.V k57 57 w18 w.heap.size (fun k_ => (P0_2_ k_ ∨ w.heap.size ≤ k_) ∧ some k_ ≠ (u3 : Value).ownBlock ∧ k_ ≠ gb108 ∧ k_ ≠ gb110 ∧ k_ ≠ gb112) (.slice (some ad111) ((rd_T41 l0_2 x11_1).f0).length c109_0) ((rd_T41 l0_2 x11_1).f0)) := ⟨(by rw [hw]; exact (by refine sqV ?_; exact Kd.V_mono (sqV7 (Kd.V_mono HO_17.out (fun k_ hk => (⟨hk, hk.2⟩ : _ ∧ k_ ≠ gb112))) (fun _ hk => hk.2)) (fun _ hk => ⟨hk.1.1.1, ⟨hk.1.1.2.1, ⟨hk.1.1.2.2.1, ⟨hk.1.1.2.2.2, hk.1.2⟩⟩⟩⟩)))⟩; replace HO_109002 : Aside0 (Kd.V k41 41 w18 w.heap.size (fun k_ => (P0_2_ k_ ∨ w.heap.size ≤ k_) ∧ some k_ ≠ (u3 : Value).ownBlock ∧ k_ ≠ gb108 ∧ k_ ≠ gb110 ∧ k_ ≠ gb112) (.slice (some ad109) l0_2.length c0_2) l0_2) := ⟨(by rw [hw]; exact (by refine sqV ?_; exact Kd.V_mono (sqV7 (Kd.V_mono HO_109002.out (fun k_ hk => (⟨hk, hk.2⟩ : _ ∧ k_ ≠ gb112))) (fun _ hk => hk.2)) (fun _ hk => ⟨hk.1.1.1, ⟨hk.1.1.2.1, ⟨hk.1.1.2.2.1, ⟨hk.1.1.2.2.2, hk.1.2⟩⟩⟩⟩)))⟩; replace HO_111000 : Aside0 (Kd.V k57 57 w18 w.heap.size (fun k_ => (P0_2_ k_ ∨ w.heap.size ≤ k_) ∧ some k_ ≠ (u3 : Value).ownBlock ∧ k_ ≠ gb108 ∧ k_ ≠ gb110 ∧ k_ ≠ gb112) (.slice (some ad111) ((rd_T41 l0_2 x11_1).f0).length c109_0) ((rd_T41 l0_2 x11_1).f0)) := ⟨(by rw [hw]; exact (by refine sqV ?_; exact Kd.V_mono (sqV7 (Kd.V_mono HO_111000.out (fun k_ hk => (⟨hk, hk.2⟩ : _ ∧ k_ ≠ gb112))) (fun _ hk => hk.2)) (fun _ hk => ⟨hk.1.1.1, ⟨hk.1.1.2.1, ⟨hk.1.1.2.2.1, ⟨hk.1.1.2.2.2, hk.1.2⟩⟩⟩⟩)))⟩; replace HL111_2 : Aside0 (Kd.V k62 62 w18 w.heap.size (fun k_ => (P0_2_ k_ ∨ w.heap.size ≤ k_) ∧ some k_ ≠ (u3 : Value).ownBlock ∧ k_ ≠ gb108 ∧ k_ ≠ gb110 ∧ k_ ≠ gb112) (.slice A111_2 ((rd_T57 ((rd_T41 l0_2 x11_1).f0) x19_2).f2).length c111_2) ((rd_T57 ((rd_T41 l0_2 x11_1).f0) x19_2).f2)) := ⟨(by rw [hw]; exact (by refine sqV ?_; exact Kd.V_mono (sqV7 (Kd.V_mono HL111_2.out (fun k_ hk => (⟨hk, hk.2⟩ : _ ∧ k_ ≠ gb112))) (fun _ hk => hk.2)) (fun _ hk => ⟨hk.1.1.1, ⟨hk.1.1.2.1, ⟨hk.1.1.2.2.1, ⟨hk.1.1.2.2.2, hk.1.2⟩⟩⟩⟩)))⟩; replace HL111_3 : Aside0 (Kd.V k59 59 w18 w.heap.size (fun k_ => (P0_2_ k_ ∨ w.heap.size ≤ k_) ∧ some k_ ≠ (u3 : Value).ownBlock ∧ k_ ≠ gb108 ∧ k_ ≠ gb110 ∧ k_ ≠ gb112) (.slice A111_3 ((rd_T57 ((rd_T41 l0_2 x11_1).f0) x19_2).f3).length c111_3) ((rd_T57 ((rd_T41 l0_2 x11_1).f0) x19_2).f3)) := ⟨(by rw [hw]; exact (by refine sqV ?_; exact Kd.V_mono (sqV7 (Kd.V_mono HL111_3.out (fun k_ hk => (⟨hk, hk.2⟩ : _ ∧ k_ ≠ gb112))) (fun _ hk => hk.2)) (fun _ hk => ⟨hk.1.1.1, ⟨hk.1.1.2.1, ⟨hk.1.1.2.2.1, ⟨hk.1.1.2.2.2, hk.1.2⟩⟩⟩⟩)))⟩; replace BK108 : Aside0 (w18.heap[gb108]? = some (.cells #[.int .i64 a0_0, .int .i64 a0_1, .slice (some ad109) l0_2.length c0_2] 24 (0, 0))) := ⟨(by rw [hw]; exact (by exact (sqK (sqX7 BK108.out NB108_112.out))))⟩; replace BK110 : Aside0 (w18.heap[gb110]? = some (.cells #[.slice (some ad111) ((rd_T41 l0_2 x11_1).f0).length c109_0] 41 (0, 0))) := ⟨(by rw [hw]; exact (by exact (sqK (sqX7 BK110.out NB110_112.out))))⟩; replace BK112 : Aside0 (w18.heap[gb112]? = some (.cells #[.int .i64 ((rd_T57 ((rd_T41 l0_2 x11_1).f0) x19_2).f0), .int .i64 ((rd_T57 ((rd_T41 l0_2 x11_1).f0) x19_2).f1), .slice A111_2 ((rd_T57 ((rd_T41 l0_2 x11_1).f0) x19_2).f2).length c111_2, .slice A111_3 ((rd_T57 ((rd_T41 l0_2 x11_1).f0) x19_2).f3).length c111_3, .int .i64 ((rd_T57 ((rd_T41 l0_2 x11_1).f0) x19_2).f4), .int .i64 ((rd_T57 ((rd_T41 l0_2 x11_1).f0) x19_2).f5), .int .i64 ((rd_T57 ((rd_T41 l0_2 x11_1).f0) x19_2).f6)] 57 (0, 0))) := ⟨(by rw [hw]; exact (by exact (sqK (sqP7 BK112.out))))⟩; replace HB : Aside0 (Below w.heap.size w w18) := ⟨(by rw [hw]; exact (sqB3 HB.out GE108.out GE110.out GE112.out))⟩; clear hw; obtain ⟨hcz19_0, hcz19_1, hcz19_2, hcz19_3, hcz19_4, hcz19_5, hcz19_6, hfz19_0, hfz19_1, hfz19_2, hfz19_3, hfz19_4, hfz19_5, hfz19_6⟩ := sqF7 BK112.out) | ((with_reducible refine gate_builtin (b := .append) (xs := #[.tmp 24, .tmp 29]) rfl ?_); at_builtin; refine Kd.N_append k66 (w0 := w) w.heap.size rfl (.tmp 24) (.tmp 29) 63 66 (.agg #[(.int .i64 0), (.int .i64 0), (.int .i64 0), (.int .i64 0), (.slice none 0 0), (.slice none 0 0), (.int .i64 0), (.int .i64 0), (.int .i64 0)]) 104 rfl Try.underlying63 info66 rfl (by decide) (by omega) u3 x3_2 (⟨x11_1, x19_2, (⟨(rd_T57 ((rd_T41 l0_2 x11_1).f0) x19_2).f0, (rd_T57 ((rd_T41 l0_2 x11_1).f0) x19_2).f1, (rd_T57 ((rd_T41 l0_2 x11_1).f0) x19_2).f2, (rd_T57 ((rd_T41 l0_2 x11_1).f0) x19_2).f3, (rd_T57 ((rd_T41 l0_2 x11_1).f0) x19_2).f4, (rd_T57 ((rd_T41 l0_2 x11_1).f0) x19_2).f5, (rd_T57 ((rd_T41 l0_2 x11_1).f0) x19_2).f6⟩ : S57)⟩ : S66) [.int .i64 x11_1, .int .i64 x19_2, .int .i64 ((rd_T57 ((rd_T41 l0_2 x11_1).f0) x19_2).f0), .int .i64 ((rd_T57 ((rd_T41 l0_2 x11_1).f0) x19_2).f1), .slice A111_2 ((rd_T57 ((rd_T41 l0_2 x11_1).f0) x19_2).f2).length c111_2, .slice A111_3 ((rd_T57 ((rd_T41 l0_2 x11_1).f0) x19_2).f3).length c111_3, .int .i64 ((rd_T57 ((rd_T41 l0_2 x11_1).f0) x19_2).f4), .int .i64 ((rd_T57 ((rd_T41 l0_2 x11_1).f0) x19_2).f5), .int .i64 ((rd_T57 ((rd_T41 l0_2 x11_1).f0) x19_2).f6)] (fun k_ => (P0_2_ k_ ∨ w.heap.size ≤ k_) ∧ k_ ≠ gb108 ∧ k_ ≠ gb110 ∧ k_ ≠ gb112) (fun k_ => ((fun k_ => (P0_2_ k_ ∨ w.heap.size ≤ k_) ∧ k_ ≠ gb108 ∧ k_ ≠ gb110 ∧ k_ ≠ gb112)) k_ ∧ some k_ ≠ (u3 : Value).ownBlock) rfl rfl ?aP (fun _ hk => hk) ?aF ?aO ?aB ?aS ?aL ?_; (case aP => exact (k66_mkF _ _ (⟨x11_1, x19_2, (⟨(rd_T57 ((rd_T41 l0_2 x11_1).f0) x19_2).f0, (rd_T57 ((rd_T41 l0_2 x11_1).f0) x19_2).f1, (rd_T57 ((rd_T41 l0_2 x11_1).f0) x19_2).f2, (rd_T57 ((rd_T41 l0_2 x11_1).f0) x19_2).f3, (rd_T57 ((rd_T41 l0_2 x11_1).f0) x19_2).f4, (rd_T57 ((rd_T41 l0_2 x11_1).f0) x19_2).f5, (rd_T57 ((rd_T41 l0_2 x11_1).f0) x19_2).f6⟩ : S57)⟩ : S66) (Kd.V_reads' (Kd.V_mono (ok' := (fun k_ => ((fun k_ => (P0_2_ k_ ∨ w.heap.size ≤ k_) ∧ k_ ≠ gb108 ∧ k_ ≠ gb110 ∧ k_ ≠ gb112)) k_ ∧ some k_ ≠ (u3 : Value).ownBlock)) (HL111_2.out) (fun k_ hk => ⟨⟨hk.1, ⟨hk.2.2.1, ⟨hk.2.2.2.1, hk.2.2.2.2⟩⟩⟩, hk.2.1⟩))).2.1 (Kd.V_F (Kd.V_mono (ok' := (fun k_ => ((fun k_ => (P0_2_ k_ ∨ w.heap.size ≤ k_) ∧ k_ ≠ gb108 ∧ k_ ≠ gb110 ∧ k_ ≠ gb112)) k_ ∧ some k_ ≠ (u3 : Value).ownBlock)) (HL111_2.out) (fun k_ hk => ⟨⟨hk.1, ⟨hk.2.2.1, ⟨hk.2.2.2.1, hk.2.2.2.2⟩⟩⟩, hk.2.1⟩))) (Kd.V_reads' (Kd.V_mono (ok' := (fun k_ => ((fun k_ => (P0_2_ k_ ∨ w.heap.size ≤ k_) ∧ k_ ≠ gb108 ∧ k_ ≠ gb110 ∧ k_ ≠ gb112)) k_ ∧ some k_ ≠ (u3 : Value).ownBlock)) (HL111_3.out) (fun k_ hk => ⟨⟨hk.1, ⟨hk.2.2.1, ⟨hk.2.2.2.1, hk.2.2.2.2⟩⟩⟩, hk.2.1⟩))).2.1 (Kd.V_F (Kd.V_mono (ok' := (fun k_ => ((fun k_ => (P0_2_ k_ ∨ w.heap.size ≤ k_) ∧ k_ ≠ gb108 ∧ k_ ≠ gb110 ∧ k_ ≠ gb112)) k_ ∧ some k_ ≠ (u3 : Value).ownBlock)) (HL111_3.out) (fun k_ hk => ⟨⟨hk.1, ⟨hk.2.2.1, ⟨hk.2.2.2.1, hk.2.2.2.2⟩⟩⟩, hk.2.1⟩))))); (case aB => exact (sqB3 HB.out GE108.out GE110.out GE112.out)); (case aF => exact (fun k_ hk => ⟨(.inr (Nat.le_trans (below_size (sqB3 HB.out GE108.out GE110.out GE112.out)) hk)), Kd.freshB (g := gb108) (o := .cells #[.int .i64 a0_0, .int .i64 a0_1, .slice (some ad109) l0_2.length c0_2] 24 (0, 0)) (sqK BK108.out) k_ hk, Kd.freshB (g := gb110) (o := .cells #[.slice (some ad111) ((rd_T41 l0_2 x11_1).f0).length c109_0] 41 (0, 0)) (sqK BK110.out) k_ hk, Kd.freshB (g := gb112) (o := .cells #[.int .i64 ((rd_T57 ((rd_T41 l0_2 x11_1).f0) x19_2).f0), .int .i64 ((rd_T57 ((rd_T41 l0_2 x11_1).f0) x19_2).f1), .slice A111_2 ((rd_T57 ((rd_T41 l0_2 x11_1).f0) x19_2).f2).length c111_2, .slice A111_3 ((rd_T57 ((rd_T41 l0_2 x11_1).f0) x19_2).f3).length c111_3, .int .i64 ((rd_T57 ((rd_T41 l0_2 x11_1).f0) x19_2).f4), .int .i64 ((rd_T57 ((rd_T41 l0_2 x11_1).f0) x19_2).f5), .int .i64 ((rd_T57 ((rd_T41 l0_2 x11_1).f0) x19_2).f6)] 57 (0, 0)) (sqK BK112.out) k_ hk⟩)); (case aO => exact (sqN HO_3.out)); (case aS => exact (below_size (sqB3 HB.out GE108.out GE110.out GE112.out))); (case aL => have := LMc13.out; omega); intro v114 w20 ho hb hg hat; rw [← Ny113.out] at ho; have HO115 := sqM (ho); replace HO_9 := sqM (Kd.V_afterv (ok := (fun k_ => (P0_2_ k_ ∨ w.heap.size ≤ k_) ∧ k_ ≠ gb108 ∧ k_ ≠ gb110 ∧ k_ ≠ gb112)) (by refine sqV ?_; exact Kd.V_mono HO_9.out (fun _ hk => ⟨⟨hk.1, ⟨hk.2.2.1, ⟨hk.2.2.2.1, hk.2.2.2.2⟩⟩⟩, hk.2.1⟩)) hg hat); replace HO_17 := sqM (Kd.V_afterv (ok := (fun k_ => (P0_2_ k_ ∨ w.heap.size ≤ k_) ∧ k_ ≠ gb108 ∧ k_ ≠ gb110 ∧ k_ ≠ gb112)) (by refine sqV ?_; exact Kd.V_mono HO_17.out (fun _ hk => ⟨⟨hk.1, ⟨hk.2.2.1, ⟨hk.2.2.2.1, hk.2.2.2.2⟩⟩⟩, hk.2.1⟩)) hg hat); replace HO_109002 := sqM (Kd.V_afterv (ok := (fun k_ => (P0_2_ k_ ∨ w.heap.size ≤ k_) ∧ k_ ≠ gb108 ∧ k_ ≠ gb110 ∧ k_ ≠ gb112)) (by refine sqV ?_; exact Kd.V_mono HO_109002.out (fun _ hk => ⟨⟨hk.1, ⟨hk.2.2.1, ⟨hk.2.2.2.1, hk.2.2.2.2⟩⟩⟩, hk.2.1⟩)) hg hat); replace HO_111000 := sqM (Kd.V_afterv (ok := (fun k_ => (P0_2_ k_ ∨ w.heap.size ≤ k_) ∧ k_ ≠ gb108 ∧ k_ ≠ gb110 ∧ k_ ≠ gb112)) (by refine sqV ?_; exact Kd.V_mono HO_111000.out (fun _ hk => ⟨⟨hk.1, ⟨hk.2.2.1, ⟨hk.2.2.2.1, hk.2.2.2.2⟩⟩⟩, hk.2.1⟩)) hg hat); replace BK108 := sqM (blk_grown (g := gb108) (o := .cells #[.int .i64 a0_0, .int .i64 a0_1, .slice (some ad109) l0_2.length c0_2] 24 (0, 0)) (sqK BK108.out) hg (Kd.N_ne HO_3.out BK108.out (by decide))); replace BK110 := sqM (blk_grown (g := gb110) (o := .cells #[.slice (some ad111) ((rd_T41 l0_2 x11_1).f0).length c109_0] 41 (0, 0)) (sqK BK110.out) hg (Kd.N_ne HO_3.out BK110.out (by decide))); replace HL111_2 := sqM (Kd.V_afterv (ok := (fun k_ => (P0_2_ k_ ∨ w.heap.size ≤ k_) ∧ k_ ≠ gb108 ∧ k_ ≠ gb110 ∧ k_ ≠ gb112)) (by refine sqV ?_; exact Kd.V_mono HL111_2.out (fun _ hk => ⟨⟨hk.1, ⟨hk.2.2.1, ⟨hk.2.2.2.1, hk.2.2.2.2⟩⟩⟩, hk.2.1⟩)) hg hat); replace HL111_3 := sqM (Kd.V_afterv (ok := (fun k_ => (P0_2_ k_ ∨ w.heap.size ≤ k_) ∧ k_ ≠ gb108 ∧ k_ ≠ gb110 ∧ k_ ≠ gb112)) (by refine sqV ?_; exact Kd.V_mono HL111_3.out (fun _ hk => ⟨⟨hk.1, ⟨hk.2.2.1, ⟨hk.2.2.2.1, hk.2.2.2.2⟩⟩⟩, hk.2.1⟩)) hg hat); replace BK112 := sqM (blk_grown (g := gb112) (o := .cells #[.int .i64 ((rd_T57 ((rd_T41 l0_2 x11_1).f0) x19_2).f0), .int .i64 ((rd_T57 ((rd_T41 l0_2 x11_1).f0) x19_2).f1), .slice A111_2 ((rd_T57 ((rd_T41 l0_2 x11_1).f0) x19_2).f2).length c111_2, .slice A111_3 ((rd_T57 ((rd_T41 l0_2 x11_1).f0) x19_2).f3).length c111_3, .int .i64 ((rd_T57 ((rd_T41 l0_2 x11_1).f0) x19_2).f4), .int .i64 ((rd_T57 ((rd_T41 l0_2 x11_1).f0) x19_2).f5), .int .i64 ((rd_T57 ((rd_T41 l0_2 x11_1).f0) x19_2).f6)] 57 (0, 0)) (sqK BK112.out) hg (Kd.N_ne HO_3.out BK112.out (by decide))); replace HB := sqM (hb); clear HO_3; clear ho hb hg hat))
 go_roundg k2
 case measure => have := HK1.out; have := HK2.out; omega
 case rel => exact ⟨(y113), (wrap64 (x19_2 + 1)), sqI, H', ⟨by have := HK1.out; have := HK2.out; omega⟩, ⟨by refine sqN ?_; exact Kd.N_mono HO115.out (fun _ hk => ⟨hk.1, ⟨hk.2.1, hk.2.2.1⟩⟩)⟩, ⟨by refine sqV ?_; exact Kd.V_mono HO_9.out (fun _ hk => ⟨hk.1.1, ⟨hk.2, ⟨hk.1.2.1, hk.1.2.2.1⟩⟩⟩)⟩, ⟨by refine sqV ?_; exact Kd.V_mono HO_17.out (fun _ hk => ⟨hk.1.1, ⟨hk.2, ⟨hk.1.2.1, hk.1.2.2.1⟩⟩⟩)⟩, ⟨by refine sqV ?_; exact Kd.V_mono HO_109002.out (fun _ hk => ⟨hk.1.1, ⟨hk.2, ⟨hk.1.2.1, hk.1.2.2.1⟩⟩⟩)⟩, ⟨by refine sqV ?_; exact Kd.V_mono HO_111000.out (fun _ hk => ⟨hk.1.1, ⟨hk.2, ⟨hk.1.2.1, hk.1.2.2.1⟩⟩⟩)⟩, ⟨sqK BK108.out⟩, ⟨sqK BK110.out⟩, ⟨sqB3 HB.out GE108.out GE110.out GE112.out⟩⟩

/-! ### addr_mask: function 76 -/
def addr_mask.f (a0 : Int) : Option (Int) := if 0 ≤ (wrap64 (32 - a0)) then (some (Go.bits .andNot .i64 4294967295 (wrap64 ((shl .i64 1 (wrap64 (32 - a0))) - 1)))) else (none)
set_option maxHeartbeats 8000000 in
set_option maxRecDepth 100000 in
theorem addr_mask.calls (a0 : Int) (r : Int) (w : World) (h : addr_mask.f a0 = some r) :
    Calls Try.prog 76 #[.int .i64 a0] w fun e w' => e = .returned (.int .i64 r) ∧ Drawn0 w w' := by
 have H : (if 0 ≤ (wrap64 (32 - a0)) then (some (Go.bits .andNot .i64 4294967295 (wrap64 ((shl .i64 1 (wrap64 (32 - a0))) - 1)))) else (none)) = some r := h
 clear h
 obtain ⟨ji2, hji2⟩ : ∃ j_ : Int, (wrap64 (32 - a0)) = j_ := ⟨_, rfl⟩
 replace H : (if 0 ≤ (ji2) then (some (Go.bits .andNot .i64 4294967295 (wrap64 ((shl .i64 1 (ji2)) - 1)))) else (none)) = some r := by first | (rw [hji2] at H; exact H) | (simp only [hji2] at H ⊢; exact H)
 have hji2w : (IntKind.i64.wrap (32 - a0)) = ji2 := (i64_w _).trans hji2
 by_cases c3 : 0 ≤ (ji2)
 rotate_left
 · rw [if_neg c3] at H
   exact absurd H (by simp)
 rw [if_pos c3] at H
 have c3b0 := eq_true c3
 have c3b1 : decide (0 ≤ (ji2)) = true := decide_eq_true c3
 clear c3
 obtain ⟨ji4, hji4⟩ : ∃ j_ : Int, (shl .i64 1 (ji2)) = j_ := ⟨_, rfl⟩
 replace H : (some (Go.bits .andNot .i64 4294967295 (wrap64 ((ji4) - 1)))) = some r := by first | (rw [hji4] at H; exact H) | (simp only [hji4] at H ⊢; exact H)
 have hji4_ : (IntKind.i64.wrap (1 * 2 ^ min (ji2).toNat 64)) = ji4 := hji4
 have hji4z : (ji2) ≤ 64 → (IntKind.i64.wrap (1 * 2 ^ (ji2).toNat)) = ji4 := shl_small hji4
 have hji4u : (IntKind.i64.wrap (2 ^ min (ji2).toNat 64)) = ji4 := by have h_ := hji4_; rw [Int.one_mul] at h_; exact h_
 have hji4v : (ji2) ≤ 64 → (IntKind.i64.wrap (2 ^ (ji2).toNat)) = ji4 := fun hle_ => by have h_ := hji4z hle_; rw [Int.one_mul] at h_; exact h_
 have hji4y : (wrap64 (1 * 2 ^ min (ji2).toNat 64)) = ji4 := (i64_w _).symm.trans hji4_
 have hji4x : (ji2) ≤ 64 → (wrap64 (1 * 2 ^ (ji2).toNat)) = ji4 := fun h_ => (i64_w _).symm.trans (hji4z h_)
 obtain rfl := Option.some.inj H
 go_enter Try.func76, Try.ntmps76
 go_wp2
 go_ret
 exact ⟨by first | rfl | (simp; done) | (simp only [← hji2, ← hji4] <;> (first | rfl | (simp; done))) | (simp [*]; done) | (simp_all; done), sqD⟩

/-! ### addr_Fair: function 75 -/
def addr_Fair.f (a0 : Int) (a1 : Int) : Option (Bool) := if a1 ≥ 0 then (if a1 ≤ 32 then ((addr_Right.f a0).bind fun t116 => (if t116 = true then ((addr_mask.f a1).bind fun t117 => (some ((Go.bits .andNot .i64 a0 t117) == 0))) else (some false))) else (some false)) else (some false)
set_option maxHeartbeats 8000000 in
set_option maxRecDepth 100000 in
theorem addr_Fair.calls (a0 : Int) (a1 : Int) (r : Bool) (w : World) (h : addr_Fair.f a0 a1 = some r) :
    Calls Try.prog 75 #[.int .i64 a0, .int .i64 a1] w fun e w' => e = .returned (.bool r) ∧ Drawn0 w w' := by
 have H : (if a1 ≥ 0 then (if a1 ≤ 32 then ((addr_Right.f a0).bind fun t116 => (if t116 = true then ((addr_mask.f a1).bind fun t117 => (some ((Go.bits .andNot .i64 a0 t117) == 0))) else (some false))) else (some false)) else (some false)) = some r := h
 clear h
 by_cases c3 : a1 ≥ 0
 rotate_left
 · rw [if_neg c3] at H
   have c3b0 : decide (0 ≤ a1) = false := decide_eq_false c3
   clear c3
   obtain rfl := Option.some.inj H
   go_enter Try.func75, Try.ntmps75
   go_wp2
   go_ret
   exact ⟨sqI, sqD⟩
 rw [if_pos c3] at H
 have c3b0 : decide (0 ≤ a1) = true := decide_eq_true c3
 clear c3
 by_cases c4 : a1 ≤ 32
 rotate_left
 · rw [if_neg c4] at H
   have c4b0 : decide (a1 ≤ 32) = false := decide_eq_false c4
   clear c4
   obtain rfl := Option.some.inj H
   go_enter Try.func75, Try.ntmps75
   go_wp2
   go_ret
   exact ⟨sqI, sqD⟩
 rw [if_pos c4] at H
 have c4b0 : decide (a1 ≤ 32) = true := decide_eq_true c4
 clear c4
 replace H := Option.bind_eq_some_iff.mp H
 obtain ⟨t116, A50, H⟩ := H
 replace H : (if t116 = true then ((addr_mask.f a1).bind fun t117 => (some ((Go.bits .andNot .i64 a0 t117) == 0))) else (some false)) = some r := H
 have A5 := Aside0.mk A50
 clear A50
 by_cases c6 : t116 = true
 rotate_left
 · replace c6 := Bool.eq_false_iff.mpr c6
   subst c6
   have H1 : (some false) = some r := by rw [if_neg (show ¬ (false = true) by decide)] at H; exact H
   clear H
   have H := H1
   clear H1
   obtain rfl := Option.some.inj H
   go_enter Try.func75, Try.ntmps75
   go_wp2_with (first | (go_at_call 64; (with_reducible refine (addr_Right.calls _ _ _ A5.out).mono ?_); rintro e w' ⟨rfl, ⟨nd, rfl⟩⟩))
   go_ret
   exact ⟨sqI, sqD⟩
 subst c6
 have H1 : ((addr_mask.f a1).bind fun t117 => (some ((Go.bits .andNot .i64 a0 t117) == 0))) = some r := by rw [if_pos rfl] at H; exact H
 clear H
 have H := H1
 clear H1
 replace H := Option.bind_eq_some_iff.mp H
 obtain ⟨t117, A70, H⟩ := H
 replace H : (some ((Go.bits .andNot .i64 a0 t117) == 0)) = some r := H
 have A7 := Aside0.mk A70
 clear A70
 obtain rfl := Option.some.inj H
 go_enter Try.func75, Try.ntmps75
 go_wp2_with (first | (go_at_call 64; (with_reducible refine (addr_Right.calls _ _ _ A5.out).mono ?_); rintro e w' ⟨rfl, ⟨nd, rfl⟩⟩) | (go_at_call 76; (with_reducible refine (addr_mask.calls _ _ _ A7.out).mono ?_); rintro e w' ⟨rfl, ⟨nd, rfl⟩⟩))
 go_ret
 exact ⟨sqI, sqD⟩

/-! ### key_Right: function 80 -/
def key_Right.f (a0 : ByteArray) : Option (Bool) := if (a0.size : Int) = 0 then (some false) else (if 0 < (a0.size : Int) then (if (bt a0 0) = 105 then (if (wrap64 ((a0.size : Int) - 1)) ≥ 2 then (some (decide ((wrap64 ((a0.size : Int) - 1)) ≤ 255))) else (some false)) else (if (bt a0 0) = 104 then (if (wrap64 ((a0.size : Int) - 1)) ≥ 2 then (some (decide ((wrap64 ((a0.size : Int) - 1)) ≤ 17))) else (some false)) else (some false))) else (none))
set_option maxHeartbeats 8000000 in
set_option maxRecDepth 100000 in
theorem key_Right.calls (a0 : ByteArray) (r : Bool) (w : World) (h : key_Right.f a0 = some r) :
    Calls Try.prog 80 #[.string a0] w fun e w' => e = .returned (.bool r) ∧ Drawn0 w w' := by
 have H : (if (a0.size : Int) = 0 then (some false) else (if 0 < (a0.size : Int) then (if (bt a0 0) = 105 then (if (wrap64 ((a0.size : Int) - 1)) ≥ 2 then (some (decide ((wrap64 ((a0.size : Int) - 1)) ≤ 255))) else (some false)) else (if (bt a0 0) = 104 then (if (wrap64 ((a0.size : Int) - 1)) ≥ 2 then (some (decide ((wrap64 ((a0.size : Int) - 1)) ≤ 17))) else (some false)) else (some false))) else (none))) = some r := h
 clear h
 by_cases c2 : (a0.size : Int) = 0
 · rw [if_pos c2] at H
   have c2b0 : ((a0.size : Int) == 0) = true := beq_iff_eq.mpr c2
   have c2b1 : ((a0.size : Int) != 0) = false := bne_eq_false_iff_eq.mpr c2
   clear c2
   obtain rfl := Option.some.inj H
   go_enter Try.func80, Try.ntmps80
   go_wp2
   go_ret
   exact ⟨sqI, sqD⟩
 rw [if_neg c2] at H
 have c2b0 : ((a0.size : Int) == 0) = false := beq_eq_false_iff_ne.mpr c2
 have c2b1 : ((a0.size : Int) != 0) = true := bne_iff_ne.mpr c2
 by_cases c3 : 0 < (a0.size : Int)
 rotate_left
 · rw [if_neg c3] at H
   exact absurd H (by simp)
 rw [if_pos c3] at H
 have c3b0 : decide (0 < (a0.size : Int)) = true := decide_eq_true c3
 have c3b1 : decide (0 < a0.size) = true := decide_eq_true (by omega)
 clear c3
 by_cases c5 : (bt a0 0) = 105
 · rw [if_pos c5] at H
   have c5b0 : ((bt a0 0) == 105) = true := beq_iff_eq.mpr c5
   have c5b1 : ((bt a0 0) != 105) = false := bne_eq_false_iff_eq.mpr c5
   clear c5
   by_cases c6 : (wrap64 ((a0.size : Int) - 1)) ≥ 2
   · rw [if_pos c6] at H
     have c6b0 : decide (2 ≤ (wrap64 ((a0.size : Int) - 1))) = true := decide_eq_true c6
     clear c6
     obtain rfl := Option.some.inj H
     have p4 : 0 ≤ (0 : Int) := (by omega)
     have q4 : 0 < a0.size := (by have : (0 : Int) < (a0.size : Int) := of_decide_eq_true sqH; omega)
     have hx4 : ∀ h : 0 < a0.size, ((a0[0]'h).toNat : Int) = bt a0 0 := bt_at a0 0
     clear p4
     have qi4 : (0 < (a0.size : Int)) = True := eq_true (of_decide_eq_true sqH)
     replace q4 := eq_true q4
     go_enter Try.func80, Try.ntmps80
     go_wp2
     go_ret
     exact ⟨sqI, sqD⟩
   rw [if_neg c6] at H
   have c6b0 : decide (2 ≤ (wrap64 ((a0.size : Int) - 1))) = false := decide_eq_false c6
   clear c6
   obtain rfl := Option.some.inj H
   have p4 : 0 ≤ (0 : Int) := (by omega)
   have q4 : 0 < a0.size := (by have : (0 : Int) < (a0.size : Int) := of_decide_eq_true sqH; omega)
   have hx4 : ∀ h : 0 < a0.size, ((a0[0]'h).toNat : Int) = bt a0 0 := bt_at a0 0
   clear p4
   have qi4 : (0 < (a0.size : Int)) = True := eq_true (of_decide_eq_true sqH)
   replace q4 := eq_true q4
   go_enter Try.func80, Try.ntmps80
   go_wp2
   go_ret
   exact ⟨sqI, sqD⟩
 rw [if_neg c5] at H
 have c5b0 : ((bt a0 0) == 105) = false := beq_eq_false_iff_ne.mpr c5
 have c5b1 : ((bt a0 0) != 105) = true := bne_iff_ne.mpr c5
 by_cases c7 : (bt a0 0) = 104
 rotate_left
 · rw [if_neg c7] at H
   have c7b0 : ((bt a0 0) == 104) = false := beq_eq_false_iff_ne.mpr c7
   have c7b1 : ((bt a0 0) != 104) = true := bne_iff_ne.mpr c7
   obtain rfl := Option.some.inj H
   have p4 : 0 ≤ (0 : Int) := (by omega)
   have q4 : 0 < a0.size := (by have : (0 : Int) < (a0.size : Int) := of_decide_eq_true sqH; omega)
   have hx4 : ∀ h : 0 < a0.size, ((a0[0]'h).toNat : Int) = bt a0 0 := bt_at a0 0
   clear p4
   have qi4 : (0 < (a0.size : Int)) = True := eq_true (of_decide_eq_true sqH)
   replace q4 := eq_true q4
   go_enter Try.func80, Try.ntmps80
   go_wp2
   go_ret
   exact ⟨sqI, sqD⟩
 rw [if_pos c7] at H
 have c7b0 : ((bt a0 0) == 104) = true := beq_iff_eq.mpr c7
 have c7b1 : ((bt a0 0) != 104) = false := bne_eq_false_iff_eq.mpr c7
 clear c7
 by_cases c8 : (wrap64 ((a0.size : Int) - 1)) ≥ 2
 · rw [if_pos c8] at H
   have c8b0 : decide (2 ≤ (wrap64 ((a0.size : Int) - 1))) = true := decide_eq_true c8
   clear c8
   obtain rfl := Option.some.inj H
   have p4 : 0 ≤ (0 : Int) := (by omega)
   have q4 : 0 < a0.size := (by have : (0 : Int) < (a0.size : Int) := of_decide_eq_true sqH; omega)
   have hx4 : ∀ h : 0 < a0.size, ((a0[0]'h).toNat : Int) = bt a0 0 := bt_at a0 0
   clear p4
   have qi4 : (0 < (a0.size : Int)) = True := eq_true (of_decide_eq_true sqH)
   replace q4 := eq_true q4
   go_enter Try.func80, Try.ntmps80
   go_wp2
   go_ret
   exact ⟨sqI, sqD⟩
 rw [if_neg c8] at H
 have c8b0 : decide (2 ≤ (wrap64 ((a0.size : Int) - 1))) = false := decide_eq_false c8
 clear c8
 obtain rfl := Option.some.inj H
 have p4 : 0 ≤ (0 : Int) := (by omega)
 have q4 : 0 < a0.size := (by have : (0 : Int) < (a0.size : Int) := of_decide_eq_true sqH; omega)
 have hx4 : ∀ h : 0 < a0.size, ((a0[0]'h).toNat : Int) = bt a0 0 := bt_at a0 0
 clear p4
 have qi4 : (0 < (a0.size : Int)) = True := eq_true (of_decide_eq_true sqH)
 replace q4 := eq_true q4
 go_enter Try.func80, Try.ntmps80
 go_wp2
 go_ret
 exact ⟨sqI, sqD⟩

end Go.Proofs.Ytdcabfonjmeajaa.PConf
