/- Lean functions for Go functions of the given program, and proofs that the code computes them, each under its theorem's own conditions. Written by a program of this session. -/
import Derived.Test.YtdcabfonjmeajaaPConfx0
import Derived.Test.YtdcabfonjmeajaaPConfx7
import Derived.Test.YtdcabfonjmeajaaPConfx8
namespace Go.Proofs.Ytdcabfonjmeajaa.PConf
open Go.RowKit Go.Proofs.YtdcabfonjmeajaaW.PrintWords Go.Proofs.YtdcabfonjmeajaaW.PrintLast Go.Proofs.YtdcabfonjmeajaaW.PrintMore
attribute [local go_sem] max2_int min2_int max_two min_two max_three min_three max_four min_four   -- for this text's walks alone
set_option linter.unusedVariables false
set_option linter.unusedSimpArgs false

/-! ### boarderref13_Form: function 43 -/
mutual
def boarderref13_Form.j0 : Nat → Bool → Int → Int → List (S41) → Option (Bool)
  | 0, _, _, _, _ => none
  | k + 1, x24, x255000, x255001, x255002 => if x24 = true then (some false) else (boarderref13_Form.l0 k 0 x255000 x255001 x255002)
def boarderref13_Form.l0 : Nat → Int → Int → Int → List (S41) → Option (Bool)
  | 0, _, _, _, _ => none
  | k + 1, x3, x255000, x255001, x255002 => if x3 < (x255002.length : Int) then (if 0 ≤ x3 then (if (((rd_T41 x255002 x3).f0).length : Int) = 0 then (boarderref13_Form.j2 k x3 true x255000 x255001 x255002) else (boarderref13_Form.j2 k x3 (decide ((((rd_T41 x255002 x3).f0).length : Int) > 4)) x255000 x255001 x255002)) else (none)) else (some true)
def boarderref13_Form.j2 : Nat → Int → Bool → Int → Int → List (S41) → Option (Bool)
  | 0, _, _, _, _, _ => none
  | k + 1, x3, x49, x255000, x255001, x255002 => if x49 = true then (some false) else (boarderref13_Form.l1 k x3 0 x255000 x255001 x255002)
def boarderref13_Form.l1 : Nat → Int → Int → Int → Int → List (S41) → Option (Bool)
  | 0, _, _, _, _, _ => none
  | k + 1, x3, x4, x255000, x255001, x255002 => if 0 ≤ x3 then (if x3 < (x255002.length : Int) then (if x4 < (((rd_T41 x255002 x3).f0).length : Int) then (if 0 ≤ x4 then ((boarderref13_subnet.f k ((rd_T57 ((rd_T41 x255002 x3).f0) x4).f0) ((rd_T57 ((rd_T41 x255002 x3).f0) x4).f1) ((rd_T57 ((rd_T41 x255002 x3).f0) x4).f2) ((rd_T57 ((rd_T41 x255002 x3).f0) x4).f3) ((rd_T57 ((rd_T41 x255002 x3).f0) x4).f4) ((rd_T57 ((rd_T41 x255002 x3).f0) x4).f5) ((rd_T57 ((rd_T41 x255002 x3).f0) x4).f6)).bind fun t261 => (if t261 = true then (boarderref13_Form.l1 k x3 (wrap64 (x4 + 1)) x255000 x255001 x255002) else (some false))) else (none)) else (boarderref13_Form.l0 k (wrap64 (x3 + 1)) x255000 x255001 x255002)) else (none)) else (none)
end
def boarderref13_Form.f (k : Nat) (a0_0 : Int) (a0_1 : Int) (l0_2 : List (S41)) : Option (Bool) := (boarderref01_Right.f a0_0).bind fun t255 => (if t255 = true then (if a0_1 < 1 then (boarderref13_Form.j0 k true a0_0 a0_1 l0_2) else (if a0_1 > 2147483648 then (boarderref13_Form.j0 k true a0_0 a0_1 l0_2) else (boarderref13_Form.j0 k (decide ((l0_2.length : Int) > 4)) a0_0 a0_1 l0_2))) else (boarderref13_Form.j0 k true a0_0 a0_1 l0_2))
set_option maxHeartbeats 8000000 in
set_option maxRecDepth 100000 in
theorem boarderref13_Form.calls (k : Nat) (a0_0 : Int) (a0_1 : Int) (A0_2 : Option Addr) (c0_2 : Nat) (l0_2 : List (S41)) (r : Bool) (w : World) (hr0_2 : Kd.C k41 w A0_2 l0_2.length l0_2) (hc0_2 : l0_2.length ≤ c0_2) (h : boarderref13_Form.f k a0_0 a0_1 l0_2 = some r) :
    Calls Try.prog 43 #[.agg #[.int .i64 a0_0, .int .i64 a0_1, .slice A0_2 l0_2.length c0_2]] w fun e w' => e = .returned (.bool r) ∧ Below w.heap.size w w' := by
 have hu24 := Try.underlying24
 have hu57 := Try.underlying57
 have HR0_2 := Aside0.mk hr0_2
 have HC0_2 := Aside0.mk hc0_2
 clear hr0_2 hc0_2
 have HB := Aside0.mk (Below.refl w.heap.size w)
 have H : ((boarderref01_Right.f a0_0).bind fun t255 => (if t255 = true then (if a0_1 < 1 then (boarderref13_Form.j0 k true a0_0 a0_1 l0_2) else (if a0_1 > 2147483648 then (boarderref13_Form.j0 k true a0_0 a0_1 l0_2) else (boarderref13_Form.j0 k (decide ((l0_2.length : Int) > 4)) a0_0 a0_1 l0_2))) else (boarderref13_Form.j0 k true a0_0 a0_1 l0_2))) = some r := h
 clear h
 have HC2 := Aside0.mk H
 clear H
 go_enter Try.func43, Try.ntmps43
 go_upto_region 1 with (first | ((with_reducible refine gate_dst (N := 1) rfl ?_); (try (refine gate_guard (by rfl) ?_; dsimp only)); refine box_event rfl (N := 1) rfl (cs := #[.int .i64 a0_0, .int .i64 a0_1, .slice A0_2 l0_2.length c0_2]) (t := 24) sqs ?_; intro gb254 hg w3 hbox hb; have BK254 := sqM (hbox); have GW254 := sqM (sqZ hg (sqB HB.out)); have GE254 := sqM (sqZ hg (sqB HB.out)); replace HB := sqM (below_step (sqB HB.out) hb); clear hb hbox hg))
 (try simp only [Act.put, List.setIfInBounds_toArray, List.set_cons_zero, List.set_cons_succ])
 go_cut [24] (fun v24 wc => ∃ (kq : Nat) (x24_1 : Bool), v24 = .bool x24_1 ∧ Aside0 (boarderref13_Form.j0 kq x24_1 a0_0 a0_1 l0_2 = some r) ∧ Aside0 (kq ≤ k) ∧ Aside0 (wc.heap[gb254]? = some (.cells #[.int .i64 a0_0, .int .i64 a0_1, (.slice A0_2 l0_2.length c0_2)] 24 (0, 0))) ∧ Aside0 (Below w.heap.size w wc))
 case first =>
  have H := HC2.out
  clear HC2
  replace H := Option.bind_eq_some_iff.mp H
  obtain ⟨t255, A40, H⟩ := H
  replace H : (if t255 = true then (if a0_1 < 1 then (boarderref13_Form.j0 k true a0_0 a0_1 l0_2) else (if a0_1 > 2147483648 then (boarderref13_Form.j0 k true a0_0 a0_1 l0_2) else (boarderref13_Form.j0 k (decide ((l0_2.length : Int) > 4)) a0_0 a0_1 l0_2))) else (boarderref13_Form.j0 k true a0_0 a0_1 l0_2)) = some r := H
  have A4 := Aside0.mk A40
  clear A40
  by_cases c5 : t255 = true
  rotate_left
  · replace c5 := Bool.eq_false_iff.mpr c5
    subst c5
    have H1 : (boarderref13_Form.j0 k true a0_0 a0_1 l0_2) = some r := by rw [if_neg (show ¬ (false = true) by decide)] at H; exact H
    clear H
    have H := H1
    clear H1
    have H' := Aside0.mk H
    clear H
    obtain ⟨hcz11_0, hcz11_1, hcz11_2, hfz11_0, hfz11_1, hfz11_2⟩ := sqF3 BK254.out
    go_wp2_with (first | ((with_reducible refine gate_callee (f := 70) rfl ?_); refine goesL_ (some 7) rfl rfl Try.func70 (by kernel_rfl) rfl #[.int .i64 a0_0] rfl sqA ?_; (with_reducible refine (boarderref01_Right.calls _ _ _ A4.out).mono ?_); rintro e w' ⟨rfl, ⟨nd, rfl⟩⟩; refine ⟨_, rfl, ?_⟩))
    go_meet
    case rel => exact ⟨_, (true), sqI, H', ⟨by first | omega | exact Nat.le_refl _⟩, ⟨sqK BK254.out⟩, ⟨sqB1 HB.out GE254.out⟩⟩
  subst c5
  have H1 : (if a0_1 < 1 then (boarderref13_Form.j0 k true a0_0 a0_1 l0_2) else (if a0_1 > 2147483648 then (boarderref13_Form.j0 k true a0_0 a0_1 l0_2) else (boarderref13_Form.j0 k (decide ((l0_2.length : Int) > 4)) a0_0 a0_1 l0_2))) = some r := by rw [if_pos rfl] at H; exact H
  clear H
  have H := H1
  clear H1
  by_cases c6 : a0_1 < 1
  · rw [if_pos c6] at H
    have c6b0 : decide (a0_1 < 1) = true := decide_eq_true c6
    clear c6
    (first | rw [c6b0] | (simp only [i64_w, i32_w]; rw [c6b0]) | skip)
    have H' := Aside0.mk H
    clear H
    obtain ⟨hcz7_0, hcz7_1, hcz7_2, hfz7_0, hfz7_1, hfz7_2⟩ := sqF3 BK254.out
    go_wp2_with (first | ((with_reducible refine gate_callee (f := 70) rfl ?_); refine goesL_ (some 7) rfl rfl Try.func70 (by kernel_rfl) rfl #[.int .i64 a0_0] rfl sqA ?_; (with_reducible refine (boarderref01_Right.calls _ _ _ A4.out).mono ?_); rintro e w' ⟨rfl, ⟨nd, rfl⟩⟩; refine ⟨_, rfl, ?_⟩))
    go_meet
    case rel => exact ⟨_, (true), sqI, H', ⟨by first | omega | exact Nat.le_refl _⟩, ⟨sqK BK254.out⟩, ⟨sqB1 HB.out GE254.out⟩⟩
  rw [if_neg c6] at H
  have c6b0 : decide (a0_1 < 1) = false := decide_eq_false c6
  clear c6
  (first | rw [c6b0] | (simp only [i64_w, i32_w]; rw [c6b0]) | skip)
  by_cases c8 : a0_1 > 2147483648
  · rw [if_pos c8] at H
    have c8b0 : decide (2147483648 < a0_1) = true := decide_eq_true c8
    clear c8
    have H' := Aside0.mk H
    clear H
    obtain ⟨hcz9_0, hcz9_1, hcz9_2, hfz9_0, hfz9_1, hfz9_2⟩ := sqF3 BK254.out
    go_wp2_with (first | ((with_reducible refine gate_callee (f := 70) rfl ?_); refine goesL_ (some 7) rfl rfl Try.func70 (by kernel_rfl) rfl #[.int .i64 a0_0] rfl sqA ?_; (with_reducible refine (boarderref01_Right.calls _ _ _ A4.out).mono ?_); rintro e w' ⟨rfl, ⟨nd, rfl⟩⟩; refine ⟨_, rfl, ?_⟩))
    go_meet
    case rel => exact ⟨_, (true), sqI, H', ⟨by first | omega | exact Nat.le_refl _⟩, ⟨sqK BK254.out⟩, ⟨sqB1 HB.out GE254.out⟩⟩
  rw [if_neg c8] at H
  have c8b0 : decide (2147483648 < a0_1) = false := decide_eq_false c8
  clear c8
  have H' := Aside0.mk H
  clear H
  obtain ⟨hcz10_0, hcz10_1, hcz10_2, hfz10_0, hfz10_1, hfz10_2⟩ := sqF3 BK254.out
  go_wp2_with (first | ((with_reducible refine gate_callee (f := 70) rfl ?_); refine goesL_ (some 7) rfl rfl Try.func70 (by kernel_rfl) rfl #[.int .i64 a0_0] rfl sqA ?_; (with_reducible refine (boarderref01_Right.calls _ _ _ A4.out).mono ?_); rintro e w' ⟨rfl, ⟨nd, rfl⟩⟩; refine ⟨_, rfl, ?_⟩))
  go_meet
  case rel => exact ⟨_, (decide ((l0_2.length : Int) > 4)), sqI, H', ⟨by first | omega | exact Nat.le_refl _⟩, ⟨sqK BK254.out⟩, ⟨sqB1 HB.out GE254.out⟩⟩
 clear HC2
 try clear p2
 try clear c4
 try clear c5
 try clear c6
 try clear c6b0
 try clear c7
 try clear c8
 try clear c8b0
 try clear hcz10_0 hcz10_1 hcz10_2
 try clear hcz11_0 hcz11_1 hcz11_2
 try clear hcz7_0 hcz7_1 hcz7_2
 try clear hcz9_0 hcz9_1 hcz9_2
 try clear hfz10_0 hfz10_1 hfz10_2
 try clear hfz11_0 hfz11_1 hfz11_2
 try clear hfz7_0 hfz7_1 hfz7_2
 try clear hfz9_0 hfz9_1 hfz9_2
 obtain ⟨kq, x24_1, rfl, HA, HJ1, BK254, HB⟩ := hcut
 cases kq with
 | zero => exact absurd HA.out (by simp [boarderref13_Form.j0])
 | succ kj1 => ?_
 have H := HA.out
 clear HA
 simp only [boarderref13_Form.j0] at H
 by_cases c12 : x24_1 = true
 · subst c12
   have H1 : (some false) = some r := by rw [if_pos rfl] at H; exact H
   clear H
   have H := H1
   clear H1
   obtain rfl := Option.some.inj H
   go_wp2
   go_ret
   exact ⟨sqE, sqB1 HB.out GE254.out⟩
 replace c12 := Bool.eq_false_iff.mpr c12
 subst c12
 have H1 : (boarderref13_Form.l0 kj1 0 a0_0 a0_1 l0_2) = some r := by rw [if_neg (show ¬ (false = true) by decide)] at H; exact H
 clear H
 have H := H1
 clear H1
 have H' := Aside0.mk H
 clear H
 go_wp2
 go_loopg [3] kj1 (fun kq v3 w' => ∃ (x3_2 : Int), v3 = .int .i64 x3_2 ∧ Aside0 (boarderref13_Form.l0 kq x3_2 a0_0 a0_1 l0_2 = some r) ∧ Aside0 (kq ≤ kj1) ∧ Aside0 (w'.heap[gb254]? = some (.cells #[.int .i64 a0_0, .int .i64 a0_1, (.slice A0_2 l0_2.length c0_2)] 24 (0, 0))) ∧ Aside0 (Below w.heap.size w w'))
 case atStart => exact ⟨(0), sqI, H', ⟨Nat.le_refl _⟩, ⟨sqK BK254.out⟩, ⟨sqB1 HB.out GE254.out⟩⟩
 clear H'
 try clear c1
 try clear p2
 try clear c4
 try clear c5
 try clear c6
 try clear c6b0
 try clear c7
 try clear c8
 try clear c8b0
 try clear c12
 try clear hcz10_0 hcz10_1 hcz10_2
 try clear hcz11_0 hcz11_1 hcz11_2
 try clear hcz7_0 hcz7_1 hcz7_2
 try clear hcz9_0 hcz9_1 hcz9_2
 try clear hfz10_0 hfz10_1 hfz10_2
 try clear hfz11_0 hfz11_1 hfz11_2
 try clear hfz7_0 hfz7_1 hfz7_2
 try clear hfz9_0 hfz9_1 hfz9_2
 try clear p2
 obtain ⟨x3_2, rfl, HA, HK2, BK254, HB⟩ := hrel
 cases gk with
 | zero => exact absurd HA.out (by simp [boarderref13_Form.l0])
 | succ k2 => ?_
 have H := HA.out
 clear HA
 simp only [boarderref13_Form.l0] at H
 by_cases c13 : x3_2 < (l0_2.length : Int)
 rotate_left
 · rw [if_neg c13] at H
   have c13b0 : decide (x3_2 < (l0_2.length : Int)) = false := decide_eq_false c13
   clear c13
   obtain rfl := Option.some.inj H
   obtain ⟨hcz32_0, hcz32_1, hcz32_2, hfz32_0, hfz32_1, hfz32_2⟩ := sqF3 BK254.out
   go_wp2
   go_ret
   exact ⟨sqE, sqB1 HB.out GE254.out⟩
 rw [if_pos c13] at H
 have c13b0 : decide (x3_2 < (l0_2.length : Int)) = true := decide_eq_true c13
 clear c13
 have HC14 := Aside0.mk H
 clear H
 obtain ⟨hcz15_0, hcz15_1, hcz15_2, hfz15_0, hfz15_1, hfz15_2⟩ := sqF3 BK254.out
 go_upto_region 6 with (fail)
 go_cut [49] (fun v49 wc => ∃ (kq : Nat) (x49_13 : Bool), v49 = .bool x49_13 ∧ Aside0 (boarderref13_Form.j2 kq x3_2 x49_13 a0_0 a0_1 l0_2 = some r) ∧ Aside0 (kq ≤ k2) ∧ Aside0 (wc.heap[gb254]? = some (.cells #[.int .i64 a0_0, .int .i64 a0_1, (.slice A0_2 l0_2.length c0_2)] 24 (0, 0))) ∧ Aside0 (Below w.heap.size w wc))
 case first =>
  have H := HC14.out
  clear HC14
  by_cases c16 : 0 ≤ x3_2
  rotate_left
  · rw [if_neg c16] at H
    exact absurd H (by simp)
  rw [if_pos c16] at H
  have c16b0 : decide (0 ≤ x3_2) = true := decide_eq_true c16
  clear c16
  (first | rw [c16b0] | (simp only [i64_w, i32_w]; rw [c16b0]) | skip)
  by_cases c17 : (((rd_T41 l0_2 x3_2).f0).length : Int) = 0
  · rw [if_pos c17] at H
    have c17b0 : ((((rd_T41 l0_2 x3_2).f0).length : Int) == 0) = true := beq_iff_eq.mpr c17
    have c17b1 : ((((rd_T41 l0_2 x3_2).f0).length : Int) != 0) = false := bne_eq_false_iff_eq.mpr c17
    clear c17
    have H' := Aside0.mk H
    clear H
    obtain ⟨hcz18_0, hcz18_1, hcz18_2, hfz18_0, hfz18_1, hfz18_2⟩ := sqF3 BK254.out
    have p256 : 0 ≤ (x3_2 : Int) := of_decide_eq_true sqH
    have q256 : x3_2 < (l0_2.length : Int) := of_decide_eq_true sqH
    obtain ⟨ad256, A256_0, c256_0, e256, hx256_0, hl256_0, hi256_0⟩ := at_T41 HR0_2.out x3_2 p256 q256
    cases e256
    replace hx256_0 := sqx HB.out hx256_0
    have HR256_0 := Aside0.mk hi256_0
    have HC256_0 := Aside0.mk hl256_0
    clear hi256_0 hl256_0
    replace p256 := eq_true p256
    replace q256 := eq_true q256
    go_wp2
    go_meet
    case rel => exact ⟨_, (true), sqI, H', ⟨by have := HJ1.out; have := HK2.out; first | omega | exact Nat.le_refl _⟩, ⟨sqK BK254.out⟩, ⟨sqB1 HB.out GE254.out⟩⟩
  rw [if_neg c17] at H
  have c17b0 : ((((rd_T41 l0_2 x3_2).f0).length : Int) == 0) = false := beq_eq_false_iff_ne.mpr c17
  have c17b1 : ((((rd_T41 l0_2 x3_2).f0).length : Int) != 0) = true := bne_iff_ne.mpr c17
  have c17b2 : ¬ (((rd_T41 l0_2 x3_2).f0) = []) := fun h_ => c17 (by rw [h_]; rfl)
  have H' := Aside0.mk H
  clear H
  obtain ⟨hcz19_0, hcz19_1, hcz19_2, hfz19_0, hfz19_1, hfz19_2⟩ := sqF3 BK254.out
  have p256 : 0 ≤ (x3_2 : Int) := of_decide_eq_true sqH
  have q256 : x3_2 < (l0_2.length : Int) := of_decide_eq_true sqH
  obtain ⟨ad256, A256_0, c256_0, e256, hx256_0, hl256_0, hi256_0⟩ := at_T41 HR0_2.out x3_2 p256 q256
  cases e256
  replace hx256_0 := sqx HB.out hx256_0
  have HR256_0 := Aside0.mk hi256_0
  have HC256_0 := Aside0.mk hl256_0
  clear hi256_0 hl256_0
  replace p256 := eq_true p256
  replace q256 := eq_true q256
  have p257 : 0 ≤ (x3_2 : Int) := of_decide_eq_true sqH
  have q257 : x3_2 < (l0_2.length : Int) := of_decide_eq_true sqH
  obtain ⟨ad257, A257_0, c257_0, e257, hx257_0, hl257_0, hi257_0⟩ := at_T41 HR0_2.out x3_2 p257 q257
  obtain rfl : ad256 = ad257 := (by injection e257)
  replace hx257_0 := sqx HB.out hx257_0
  have HR257_0 := Aside0.mk hi257_0
  have HC257_0 := Aside0.mk hl257_0
  clear hi257_0 hl257_0
  replace p257 := eq_true p257
  replace q257 := eq_true q257
  have ea_ := Option.some.inj (hx256_0.symm.trans hx257_0)
  injection ea_ with ea_ en_ ec_
  subst ea_
  subst ec_
  clear en_
  go_wp2
  go_meet
  case rel => exact ⟨_, (decide ((((rd_T41 l0_2 x3_2).f0).length : Int) > 4)), sqI, H', ⟨by have := HJ1.out; have := HK2.out; first | omega | exact Nat.le_refl _⟩, ⟨sqK BK254.out⟩, ⟨sqB1 HB.out GE254.out⟩⟩
 clear HC14
 try clear c1
 try clear c2
 try clear p2
 try clear q2
 try clear hx2
 try clear c4
 try clear c5
 try clear c6
 try clear c6b0
 try clear c7
 try clear c8
 try clear c8b0
 try clear c12
 try clear c13
 try clear c13b0
 try clear c16
 try clear c16b0
 try clear c17
 try clear c17b0
 try clear c17b1
 try clear c17b2
 try clear hcz10_0 hcz10_1 hcz10_2
 try clear hcz11_0 hcz11_1 hcz11_2
 try clear hcz15_0 hcz15_1 hcz15_2
 try clear hcz18_0 hcz18_1 hcz18_2
 try clear hcz19_0 hcz19_1 hcz19_2
 try clear hcz7_0 hcz7_1 hcz7_2
 try clear hcz9_0 hcz9_1 hcz9_2
 try clear hfz10_0 hfz10_1 hfz10_2
 try clear hfz11_0 hfz11_1 hfz11_2
 try clear hfz15_0 hfz15_1 hfz15_2
 try clear hfz18_0 hfz18_1 hfz18_2
 try clear hfz19_0 hfz19_1 hfz19_2
 try clear hfz7_0 hfz7_1 hfz7_2
 try clear hfz9_0 hfz9_1 hfz9_2
 try clear hx256_0
 try clear hx257_0
 try clear p2
 try clear p256
 try clear p257
 try clear q256
 try clear q257
 obtain ⟨kq, x49_13, rfl, HA, HJ13, BK254, HB⟩ := hcut
 cases kq with
 | zero => exact absurd HA.out (by simp [boarderref13_Form.j2])
 | succ kj13 => ?_
 have H := HA.out
 clear HA
 simp only [boarderref13_Form.j2] at H
 by_cases c20 : x49_13 = true
 · subst c20
   have H1 : (some false) = some r := by rw [if_pos rfl] at H; exact H
   clear H
   have H := H1
   clear H1
   obtain rfl := Option.some.inj H
   go_wp2
   go_ret
   exact ⟨sqE, sqB1 HB.out GE254.out⟩
 replace c20 := Bool.eq_false_iff.mpr c20
 subst c20
 have H1 : (boarderref13_Form.l1 kj13 x3_2 0 a0_0 a0_1 l0_2) = some r := by rw [if_neg (show ¬ (false = true) by decide)] at H; exact H
 clear H
 have H := H1
 clear H1
 have H' := Aside0.mk H
 clear H
 go_wp2
 go_loopg [4] kj13 (fun kq v4 w' => ∃ (x4_4 : Int), v4 = .int .i64 x4_4 ∧ Aside0 (boarderref13_Form.l1 kq x3_2 x4_4 a0_0 a0_1 l0_2 = some r) ∧ Aside0 (kq ≤ kj13) ∧ Aside0 (w'.heap[gb254]? = some (.cells #[.int .i64 a0_0, .int .i64 a0_1, (.slice A0_2 l0_2.length c0_2)] 24 (0, 0))) ∧ Aside0 (Below w.heap.size w w'))
 case atStart => exact ⟨(0), sqI, H', ⟨Nat.le_refl _⟩, ⟨sqK BK254.out⟩, ⟨sqB1 HB.out GE254.out⟩⟩
 clear H'
 try clear c1
 try clear c2
 try clear p2
 try clear q2
 try clear hx2
 try clear c4
 try clear c5
 try clear c6
 try clear c6b0
 try clear c7
 try clear c8
 try clear c8b0
 try clear c12
 try clear c13
 try clear c13b0
 try clear c16
 try clear c16b0
 try clear c17
 try clear c17b0
 try clear c17b1
 try clear c17b2
 try clear c20
 try clear hcz10_0 hcz10_1 hcz10_2
 try clear hcz11_0 hcz11_1 hcz11_2
 try clear hcz15_0 hcz15_1 hcz15_2
 try clear hcz18_0 hcz18_1 hcz18_2
 try clear hcz19_0 hcz19_1 hcz19_2
 try clear hcz7_0 hcz7_1 hcz7_2
 try clear hcz9_0 hcz9_1 hcz9_2
 try clear hfz10_0 hfz10_1 hfz10_2
 try clear hfz11_0 hfz11_1 hfz11_2
 try clear hfz15_0 hfz15_1 hfz15_2
 try clear hfz18_0 hfz18_1 hfz18_2
 try clear hfz19_0 hfz19_1 hfz19_2
 try clear hfz7_0 hfz7_1 hfz7_2
 try clear hfz9_0 hfz9_1 hfz9_2
 try clear hx256_0
 try clear hx257_0
 try clear p2
 try clear p256
 try clear p257
 try clear q2
 try clear q256
 try clear q257
 obtain ⟨x4_4, rfl, HA, HK4, BK254, HB⟩ := hrel
 cases gk with
 | zero => exact absurd HA.out (by simp [boarderref13_Form.l1])
 | succ k4 => ?_
 have H := HA.out
 clear HA
 simp only [boarderref13_Form.l1] at H
 by_cases c21 : 0 ≤ x3_2
 rotate_left
 · rw [if_neg c21] at H
   exact absurd H (by simp)
 rw [if_pos c21] at H
 have c21b0 : decide (0 ≤ x3_2) = true := decide_eq_true c21
 clear c21
 by_cases c22 : x3_2 < (l0_2.length : Int)
 rotate_left
 · rw [if_neg c22] at H
   exact absurd H (by simp)
 rw [if_pos c22] at H
 have c22b0 : decide (x3_2 < (l0_2.length : Int)) = true := decide_eq_true c22
 clear c22
 by_cases c23 : x4_4 < (((rd_T41 l0_2 x3_2).f0).length : Int)
 rotate_left
 · rw [if_neg c23] at H
   have c23b0 : decide (x4_4 < (((rd_T41 l0_2 x3_2).f0).length : Int)) = false := decide_eq_false c23
   clear c23
   have H' := Aside0.mk H
   clear H
   obtain ⟨hcz31_0, hcz31_1, hcz31_2, hfz31_0, hfz31_1, hfz31_2⟩ := sqF3 BK254.out
   have p258 : 0 ≤ (x3_2 : Int) := of_decide_eq_true sqH
   have q258 : x3_2 < (l0_2.length : Int) := of_decide_eq_true sqH
   obtain ⟨ad258, A258_0, c258_0, e258, hx258_0, hl258_0, hi258_0⟩ := at_T41 HR0_2.out x3_2 p258 q258
   cases e258
   replace hx258_0 := sqx HB.out hx258_0
   have HR258_0 := sqM hi258_0
   have HC258_0 := sqM hl258_0
   clear hi258_0 hl258_0
   replace p258 := eq_true p258
   replace q258 := eq_true q258
   go_wp2
   go_roundg k4
   case measure => have := HJ1.out; have := HK2.out; have := HJ13.out; have := HK4.out; omega
   case rel => exact ⟨(wrap64 (x3_2 + 1)), sqI, H', ⟨by have := HJ1.out; have := HK2.out; have := HJ13.out; have := HK4.out; omega⟩, ⟨sqK BK254.out⟩, ⟨sqB1 HB.out GE254.out⟩⟩
 rw [if_pos c23] at H
 have c23b0 : decide (x4_4 < (((rd_T41 l0_2 x3_2).f0).length : Int)) = true := decide_eq_true c23
 clear c23
 by_cases c24 : 0 ≤ x4_4
 rotate_left
 · rw [if_neg c24] at H
   exact absurd H (by simp)
 rw [if_pos c24] at H
 have c24b0 : decide (0 ≤ x4_4) = true := decide_eq_true c24
 clear c24
 replace H := Option.bind_eq_some_iff.mp H
 obtain ⟨t261, A250, H⟩ := H
 replace H : (if t261 = true then (boarderref13_Form.l1 k4 x3_2 (wrap64 (x4_4 + 1)) a0_0 a0_1 l0_2) else (some false)) = some r := H
 have A25 := Aside0.mk A250
 clear A250
 by_cases c26 : t261 = true
 rotate_left
 · replace c26 := Bool.eq_false_iff.mpr c26
   subst c26
   have H1 : (some false) = some r := by rw [if_neg (show ¬ (false = true) by decide)] at H; exact H
   clear H
   have H := H1
   clear H1
   obtain rfl := Option.some.inj H
   obtain ⟨hcz29_0, hcz29_1, hcz29_2, hfz29_0, hfz29_1, hfz29_2⟩ := sqF3 BK254.out
   have p258 : 0 ≤ (x3_2 : Int) := of_decide_eq_true sqH
   have q258 : x3_2 < (l0_2.length : Int) := of_decide_eq_true sqH
   obtain ⟨ad258, A258_0, c258_0, e258, hx258_0, hl258_0, hi258_0⟩ := at_T41 HR0_2.out x3_2 p258 q258
   cases e258
   replace hx258_0 := sqx HB.out hx258_0
   have HR258_0 := sqM hi258_0
   have HC258_0 := sqM hl258_0
   clear hi258_0 hl258_0
   replace p258 := eq_true p258
   replace q258 := eq_true q258
   have p259 : 0 ≤ (x3_2 : Int) := of_decide_eq_true sqH
   have q259 : x3_2 < (l0_2.length : Int) := of_decide_eq_true sqH
   obtain ⟨ad259, A259_0, c259_0, e259, hx259_0, hl259_0, hi259_0⟩ := at_T41 HR0_2.out x3_2 p259 q259
   obtain rfl : ad258 = ad259 := (by injection e259)
   replace hx259_0 := sqx HB.out hx259_0
   have HR259_0 := sqM hi259_0
   have HC259_0 := sqM hl259_0
   clear hi259_0 hl259_0
   replace p259 := eq_true p259
   replace q259 := eq_true q259
   have ea_ := Option.some.inj (hx258_0.symm.trans hx259_0)
   injection ea_ with ea_ en_ ec_
   subst ea_
   subst ec_
   clear en_
   have p260 : 0 ≤ (x4_4 : Int) := of_decide_eq_true sqH
   have q260 : x4_4 < (((rd_T41 l0_2 x3_2).f0).length : Int) := of_decide_eq_true sqH
   obtain ⟨ad260, A260_2, c260_2, A260_3, c260_3, e260, hx260_0, hx260_1, hx260_2, hx260_3, hx260_4, hx260_5, hx260_6, hl260_2, hi260_2, hl260_3, hi260_3⟩ := at_T57 HR259_0.out x4_4 p260 q260
   cases e260
   replace hx260_0 := sqx HB.out hx260_0
   replace hx260_1 := sqx HB.out hx260_1
   replace hx260_2 := sqx HB.out hx260_2
   replace hx260_3 := sqx HB.out hx260_3
   replace hx260_4 := sqx HB.out hx260_4
   replace hx260_5 := sqx HB.out hx260_5
   replace hx260_6 := sqx HB.out hx260_6
   have HR260_2 := sqM hi260_2
   have HC260_2 := sqM hl260_2
   clear hi260_2 hl260_2
   have HR260_3 := sqM hi260_3
   have HC260_3 := sqM hl260_3
   clear hi260_3 hl260_3
   replace p260 := eq_true p260
   replace q260 := eq_true q260
   go_wp2_with (first | ((with_reducible refine gate_callee (f := 71) rfl ?_); refine goesL_ (some 70) rfl rfl Try.func71 (by kernel_rfl) rfl #[.agg #[.int .i64 ((rd_T57 ((rd_T41 l0_2 x3_2).f0) x4_4).f0), .int .i64 ((rd_T57 ((rd_T41 l0_2 x3_2).f0) x4_4).f1), .slice A260_2 ((rd_T57 ((rd_T41 l0_2 x3_2).f0) x4_4).f2).length c260_2, .slice A260_3 ((rd_T57 ((rd_T41 l0_2 x3_2).f0) x4_4).f3).length c260_3, .int .i64 ((rd_T57 ((rd_T41 l0_2 x3_2).f0) x4_4).f4), .int .i64 ((rd_T57 ((rd_T41 l0_2 x3_2).f0) x4_4).f5), .int .i64 ((rd_T57 ((rd_T41 l0_2 x3_2).f0) x4_4).f6)]] rfl sqA ?_; (with_reducible refine (boarderref13_subnet.calls _ _ _ _ _ _ _ _ _ _ _ _ _ _ ?side1 ?side2 ?side3 ?side4 A25.out).mono ?_); (case side1 => repeat (first | exact (Kd.C_below HR260_2.out HB.out) | (with_reducible refine Kd.C_alloc ?_ _) | (with_reducible refine Kd.C_drewN ?_ _) | (with_reducible refine Kd.C_drew ?_))); (case side2 => exact HC260_2.out); (case side3 => repeat (first | exact (Kd.C_below HR260_3.out HB.out) | (with_reducible refine Kd.C_alloc ?_ _) | (with_reducible refine Kd.C_drewN ?_ _) | (with_reducible refine Kd.C_drew ?_))); (case side4 => exact HC260_3.out); rintro e w30 ⟨rfl, hb⟩; refine ⟨_, rfl, ?_⟩; replace BK254 := sqM (blk_below (sqK BK254.out) hb); replace HB := sqM (below_step (sqB1 HB.out GE254.out) hb); (try clear hb); (try clear hb2); (try clear hk); (try clear hi)))
   go_ret
   exact ⟨sqE, sqB1 HB.out GE254.out⟩
 subst c26
 have H1 : (boarderref13_Form.l1 k4 x3_2 (wrap64 (x4_4 + 1)) a0_0 a0_1 l0_2) = some r := by rw [if_pos rfl] at H; exact H
 clear H
 have H := H1
 clear H1
 have H' := Aside0.mk H
 clear H
 obtain ⟨hcz27_0, hcz27_1, hcz27_2, hfz27_0, hfz27_1, hfz27_2⟩ := sqF3 BK254.out
 have p258 : 0 ≤ (x3_2 : Int) := of_decide_eq_true sqH
 have q258 : x3_2 < (l0_2.length : Int) := of_decide_eq_true sqH
 obtain ⟨ad258, A258_0, c258_0, e258, hx258_0, hl258_0, hi258_0⟩ := at_T41 HR0_2.out x3_2 p258 q258
 cases e258
 replace hx258_0 := sqx HB.out hx258_0
 have HR258_0 := sqM hi258_0
 have HC258_0 := sqM hl258_0
 clear hi258_0 hl258_0
 replace p258 := eq_true p258
 replace q258 := eq_true q258
 have p259 : 0 ≤ (x3_2 : Int) := of_decide_eq_true sqH
 have q259 : x3_2 < (l0_2.length : Int) := of_decide_eq_true sqH
 obtain ⟨ad259, A259_0, c259_0, e259, hx259_0, hl259_0, hi259_0⟩ := at_T41 HR0_2.out x3_2 p259 q259
 obtain rfl : ad258 = ad259 := (by injection e259)
 replace hx259_0 := sqx HB.out hx259_0
 have HR259_0 := sqM hi259_0
 have HC259_0 := sqM hl259_0
 clear hi259_0 hl259_0
 replace p259 := eq_true p259
 replace q259 := eq_true q259
 have ea_ := Option.some.inj (hx258_0.symm.trans hx259_0)
 injection ea_ with ea_ en_ ec_
 subst ea_
 subst ec_
 clear en_
 have p260 : 0 ≤ (x4_4 : Int) := of_decide_eq_true sqH
 have q260 : x4_4 < (((rd_T41 l0_2 x3_2).f0).length : Int) := of_decide_eq_true sqH
 obtain ⟨ad260, A260_2, c260_2, A260_3, c260_3, e260, hx260_0, hx260_1, hx260_2, hx260_3, hx260_4, hx260_5, hx260_6, hl260_2, hi260_2, hl260_3, hi260_3⟩ := at_T57 HR259_0.out x4_4 p260 q260
 cases e260
 replace hx260_0 := sqx HB.out hx260_0
 replace hx260_1 := sqx HB.out hx260_1
 replace hx260_2 := sqx HB.out hx260_2
 replace hx260_3 := sqx HB.out hx260_3
 replace hx260_4 := sqx HB.out hx260_4
 replace hx260_5 := sqx HB.out hx260_5
 replace hx260_6 := sqx HB.out hx260_6
 have HR260_2 := sqM hi260_2
 have HC260_2 := sqM hl260_2
 clear hi260_2 hl260_2
 have HR260_3 := sqM hi260_3
 have HC260_3 := sqM hl260_3
 clear hi260_3 hl260_3
 replace p260 := eq_true p260
 replace q260 := eq_true q260
 go_wp2_with (first | ((with_reducible refine gate_callee (f := 71) rfl ?_); refine goesL_ (some 70) rfl rfl Try.func71 (by kernel_rfl) rfl #[.agg #[.int .i64 ((rd_T57 ((rd_T41 l0_2 x3_2).f0) x4_4).f0), .int .i64 ((rd_T57 ((rd_T41 l0_2 x3_2).f0) x4_4).f1), .slice A260_2 ((rd_T57 ((rd_T41 l0_2 x3_2).f0) x4_4).f2).length c260_2, .slice A260_3 ((rd_T57 ((rd_T41 l0_2 x3_2).f0) x4_4).f3).length c260_3, .int .i64 ((rd_T57 ((rd_T41 l0_2 x3_2).f0) x4_4).f4), .int .i64 ((rd_T57 ((rd_T41 l0_2 x3_2).f0) x4_4).f5), .int .i64 ((rd_T57 ((rd_T41 l0_2 x3_2).f0) x4_4).f6)]] rfl sqA ?_; (with_reducible refine (boarderref13_subnet.calls _ _ _ _ _ _ _ _ _ _ _ _ _ _ ?side1 ?side2 ?side3 ?side4 A25.out).mono ?_); (case side1 => repeat (first | exact (Kd.C_below HR260_2.out HB.out) | (with_reducible refine Kd.C_alloc ?_ _) | (with_reducible refine Kd.C_drewN ?_ _) | (with_reducible refine Kd.C_drew ?_))); (case side2 => exact HC260_2.out); (case side3 => repeat (first | exact (Kd.C_below HR260_3.out HB.out) | (with_reducible refine Kd.C_alloc ?_ _) | (with_reducible refine Kd.C_drewN ?_ _) | (with_reducible refine Kd.C_drew ?_))); (case side4 => exact HC260_3.out); rintro e w28 ⟨rfl, hb⟩; refine ⟨_, rfl, ?_⟩; replace BK254 := sqM (blk_below (sqK BK254.out) hb); replace HB := sqM (below_step (sqB1 HB.out GE254.out) hb); (try clear hb); (try clear hb2); (try clear hk); (try clear hi)))
 go_roundg k4
 case measure => have := HJ1.out; have := HK2.out; have := HJ13.out; have := HK4.out; omega
 case rel => exact ⟨(wrap64 (x4_4 + 1)), sqI, H', ⟨by have := HJ1.out; have := HK2.out; have := HJ13.out; have := HK4.out; omega⟩, ⟨sqK BK254.out⟩, ⟨sqB1 HB.out GE254.out⟩⟩

/-! ### boarderref01_Has: function 50 -/
def boarderref01_Has.f (k : Nat) (a0 : Int) (a1 : Int) (a2 : Int) : Option (Bool) := (boarderref01_Fair.f k a0 a1).bind fun t262 => (if t262 = true then ((boarderref01_Right.f a2).bind fun t263 => (if t263 = true then (if a2 ≥ a0 then ((boarderref01_Size.f k a1).bind fun t264 => (some (decide (a2 < (wrap64 (a0 + t264)))))) else (some false)) else (some false))) else (some false))
set_option maxHeartbeats 8000000 in
set_option maxRecDepth 100000 in
theorem boarderref01_Has.calls (k : Nat) (a0 : Int) (a1 : Int) (a2 : Int) (r : Bool) (w : World) (h : boarderref01_Has.f k a0 a1 a2 = some r) :
    Calls Try.prog 50 #[.int .i64 a0, .int .i64 a1, .int .i64 a2] w fun e w' => e = .returned (.bool r) ∧ Drawn0 w w' := by
 have H : ((boarderref01_Fair.f k a0 a1).bind fun t262 => (if t262 = true then ((boarderref01_Right.f a2).bind fun t263 => (if t263 = true then (if a2 ≥ a0 then ((boarderref01_Size.f k a1).bind fun t264 => (some (decide (a2 < (wrap64 (a0 + t264)))))) else (some false)) else (some false))) else (some false))) = some r := h
 clear h
 replace H := Option.bind_eq_some_iff.mp H
 obtain ⟨t262, A40, H⟩ := H
 replace H : (if t262 = true then ((boarderref01_Right.f a2).bind fun t263 => (if t263 = true then (if a2 ≥ a0 then ((boarderref01_Size.f k a1).bind fun t264 => (some (decide (a2 < (wrap64 (a0 + t264)))))) else (some false)) else (some false))) else (some false)) = some r := H
 have A4 := Aside0.mk A40
 clear A40
 by_cases c5 : t262 = true
 rotate_left
 · replace c5 := Bool.eq_false_iff.mpr c5
   subst c5
   have H1 : (some false) = some r := by rw [if_neg (show ¬ (false = true) by decide)] at H; exact H
   clear H
   have H := H1
   clear H1
   obtain rfl := Option.some.inj H
   go_enter Try.func50, Try.ntmps50
   go_wp2_with (first | ((with_reducible refine gate_callee (f := 77) rfl ?_); refine goesL_ (some 9) rfl rfl Try.func77 (by kernel_rfl) rfl #[.int .i64 a0, .int .i64 a1] rfl sqA ?_; (with_reducible refine (boarderref01_Fair.calls _ _ _ _ _ A4.out).mono ?_); rintro e w' ⟨rfl, ⟨nd, rfl⟩⟩; refine ⟨_, rfl, ?_⟩))
   go_ret
   exact ⟨sqI, sqD⟩
 subst c5
 have H1 : ((boarderref01_Right.f a2).bind fun t263 => (if t263 = true then (if a2 ≥ a0 then ((boarderref01_Size.f k a1).bind fun t264 => (some (decide (a2 < (wrap64 (a0 + t264)))))) else (some false)) else (some false))) = some r := by rw [if_pos rfl] at H; exact H
 clear H
 have H := H1
 clear H1
 replace H := Option.bind_eq_some_iff.mp H
 obtain ⟨t263, A60, H⟩ := H
 replace H : (if t263 = true then (if a2 ≥ a0 then ((boarderref01_Size.f k a1).bind fun t264 => (some (decide (a2 < (wrap64 (a0 + t264)))))) else (some false)) else (some false)) = some r := H
 have A6 := Aside0.mk A60
 clear A60
 by_cases c7 : t263 = true
 rotate_left
 · replace c7 := Bool.eq_false_iff.mpr c7
   subst c7
   have H1 : (some false) = some r := by rw [if_neg (show ¬ (false = true) by decide)] at H; exact H
   clear H
   have H := H1
   clear H1
   obtain rfl := Option.some.inj H
   go_enter Try.func50, Try.ntmps50
   go_wp2_with (first | ((with_reducible refine gate_callee (f := 77) rfl ?_); refine goesL_ (some 9) rfl rfl Try.func77 (by kernel_rfl) rfl #[.int .i64 a0, .int .i64 a1] rfl sqA ?_; (with_reducible refine (boarderref01_Fair.calls _ _ _ _ _ A4.out).mono ?_); rintro e w' ⟨rfl, ⟨nd, rfl⟩⟩; refine ⟨_, rfl, ?_⟩) | (go_at_call 70; (with_reducible refine (boarderref01_Right.calls _ _ _ A6.out).mono ?_); rintro e w' ⟨rfl, ⟨nd, rfl⟩⟩))
   go_ret
   exact ⟨sqI, sqD⟩
 subst c7
 have H1 : (if a2 ≥ a0 then ((boarderref01_Size.f k a1).bind fun t264 => (some (decide (a2 < (wrap64 (a0 + t264)))))) else (some false)) = some r := by rw [if_pos rfl] at H; exact H
 clear H
 have H := H1
 clear H1
 by_cases c8 : a2 ≥ a0
 rotate_left
 · rw [if_neg c8] at H
   have c8b0 : decide (a0 ≤ a2) = false := decide_eq_false c8
   clear c8
   obtain rfl := Option.some.inj H
   go_enter Try.func50, Try.ntmps50
   go_wp2_with (first | ((with_reducible refine gate_callee (f := 77) rfl ?_); refine goesL_ (some 9) rfl rfl Try.func77 (by kernel_rfl) rfl #[.int .i64 a0, .int .i64 a1] rfl sqA ?_; (with_reducible refine (boarderref01_Fair.calls _ _ _ _ _ A4.out).mono ?_); rintro e w' ⟨rfl, ⟨nd, rfl⟩⟩; refine ⟨_, rfl, ?_⟩) | (go_at_call 70; (with_reducible refine (boarderref01_Right.calls _ _ _ A6.out).mono ?_); rintro e w' ⟨rfl, ⟨nd, rfl⟩⟩))
   go_ret
   exact ⟨sqI, sqD⟩
 rw [if_pos c8] at H
 have c8b0 : decide (a0 ≤ a2) = true := decide_eq_true c8
 clear c8
 replace H := Option.bind_eq_some_iff.mp H
 obtain ⟨t264, A90, H⟩ := H
 replace H : (some (decide (a2 < (wrap64 (a0 + t264))))) = some r := H
 have A9 := Aside0.mk A90
 clear A90
 obtain rfl := Option.some.inj H
 go_enter Try.func50, Try.ntmps50
 go_wp2_with (first | ((with_reducible refine gate_callee (f := 77) rfl ?_); refine goesL_ (some 9) rfl rfl Try.func77 (by kernel_rfl) rfl #[.int .i64 a0, .int .i64 a1] rfl sqA ?_; (with_reducible refine (boarderref01_Fair.calls _ _ _ _ _ A4.out).mono ?_); rintro e w' ⟨rfl, ⟨nd, rfl⟩⟩; refine ⟨_, rfl, ?_⟩) | (go_at_call 70; (with_reducible refine (boarderref01_Right.calls _ _ _ A6.out).mono ?_); rintro e w' ⟨rfl, ⟨nd, rfl⟩⟩) | (go_at_call 78; (with_reducible refine (boarderref01_Size.calls _ _ _ _ A9.out).mono ?_); rintro e w' ⟨rfl, ⟨nd, rfl⟩⟩))
 go_ret
 exact ⟨sqI, sqD⟩

/-! ### boarderref01_Last: function 87 -/
def boarderref01_Last.f (k : Nat) (a0 : Int) (a1 : Int) : Option (Int) := (boarderref01_Size.f k a1).bind fun t265 => (some (wrap64 ((wrap64 (a0 + t265)) - 1)))
set_option maxHeartbeats 8000000 in
set_option maxRecDepth 100000 in
theorem boarderref01_Last.calls (k : Nat) (a0 : Int) (a1 : Int) (r : Int) (w : World) (h : boarderref01_Last.f k a0 a1 = some r) :
    Calls Try.prog 87 #[.int .i64 a0, .int .i64 a1] w fun e w' => e = .returned (.int .i64 r) ∧ Drawn0 w w' := by
 have H : ((boarderref01_Size.f k a1).bind fun t265 => (some (wrap64 ((wrap64 (a0 + t265)) - 1)))) = some r := h
 clear h
 replace H := Option.bind_eq_some_iff.mp H
 obtain ⟨t265, A30, H⟩ := H
 replace H : (some (wrap64 ((wrap64 (a0 + t265)) - 1))) = some r := H
 have A3 := Aside0.mk A30
 clear A30
 obtain rfl := Option.some.inj H
 go_enter Try.func87, Try.ntmps87
 go_wp2_with (first | ((with_reducible refine gate_callee (f := 78) rfl ?_); refine goesL_ (some 7) rfl rfl Try.func78 (by kernel_rfl) rfl #[.int .i64 a1] rfl sqA ?_; (with_reducible refine (boarderref01_Size.calls _ _ _ _ A3.out).mono ?_); rintro e w' ⟨rfl, ⟨nd, rfl⟩⟩; refine ⟨_, rfl, ?_⟩))
 go_ret
 exact ⟨sqI, sqD⟩

/-! ### boarderref13_lends: function 72 -/
def boarderref13_lends.f (k : Nat) (a0_0 : Int) (a0_1 : Int) (l0_2 : List (S62)) (l0_3 : List (S59)) (a0_4 : Int) (a0_5 : Int) (a0_6 : Int) (a1 : Int) : Option (Bool) := if a1 > a0_0 then ((boarderref01_Last.f k a0_0 a0_1).bind fun t267 => (some (decide (a1 < t267)))) else (some false)
set_option maxHeartbeats 8000000 in
set_option maxRecDepth 100000 in
theorem boarderref13_lends.calls (k : Nat) (a0_0 : Int) (a0_1 : Int) (A0_2 : Option Addr) (c0_2 : Nat) (l0_2 : List (S62)) (A0_3 : Option Addr) (c0_3 : Nat) (l0_3 : List (S59)) (a0_4 : Int) (a0_5 : Int) (a0_6 : Int) (a1 : Int) (r : Bool) (w : World) (hr0_2 : Kd.C k62 w A0_2 l0_2.length l0_2) (hc0_2 : l0_2.length ≤ c0_2) (hr0_3 : Kd.C k59 w A0_3 l0_3.length l0_3) (hc0_3 : l0_3.length ≤ c0_3) (h : boarderref13_lends.f k a0_0 a0_1 l0_2 l0_3 a0_4 a0_5 a0_6 a1 = some r) :
    Calls Try.prog 72 #[.agg #[.int .i64 a0_0, .int .i64 a0_1, .slice A0_2 l0_2.length c0_2, .slice A0_3 l0_3.length c0_3, .int .i64 a0_4, .int .i64 a0_5, .int .i64 a0_6], .int .i64 a1] w fun e w' => e = .returned (.bool r) ∧ Below w.heap.size w w' := by
 have hu57 := Try.underlying57
 have HR0_2 := Aside0.mk hr0_2
 have HC0_2 := Aside0.mk hc0_2
 clear hr0_2 hc0_2
 have HR0_3 := Aside0.mk hr0_3
 have HC0_3 := Aside0.mk hc0_3
 clear hr0_3 hc0_3
 have HB := Aside0.mk (Below.refl w.heap.size w)
 have H : (if a1 > a0_0 then ((boarderref01_Last.f k a0_0 a0_1).bind fun t267 => (some (decide (a1 < t267)))) else (some false)) = some r := h
 clear h
 by_cases c3 : a1 > a0_0
 rotate_left
 · rw [if_neg c3] at H
   have c3b0 : decide (a0_0 < a1) = false := decide_eq_false c3
   clear c3
   obtain rfl := Option.some.inj H
   go_enter Try.func72, Try.ntmps72
   go_wp2_with (first | ((with_reducible refine gate_dst (N := 2) rfl ?_); refine box_event rfl (N := 2) rfl (cs := #[.int .i64 a0_0, .int .i64 a0_1, .slice A0_2 l0_2.length c0_2, .slice A0_3 l0_3.length c0_3, .int .i64 a0_4, .int .i64 a0_5, .int .i64 a0_6]) (t := 57) sqs ?_; intro gb266 hg w7 hbox hb; have BK266 := sqM (hbox); have GW266 := sqM (sqZ hg (sqB HB.out)); have GE266 := sqM (sqZ hg (sqB HB.out)); replace HB := sqM (below_step (sqB HB.out) hb); clear hb hbox hg; obtain ⟨hcz8_0, hcz8_1, hcz8_2, hcz8_3, hcz8_4, hcz8_5, hcz8_6, hfz8_0, hfz8_1, hfz8_2, hfz8_3, hfz8_4, hfz8_5, hfz8_6⟩ := sqF7 BK266.out))
   go_ret
   exact ⟨sqE, sqB1 HB.out GE266.out⟩
 rw [if_pos c3] at H
 have c3b0 : decide (a0_0 < a1) = true := decide_eq_true c3
 clear c3
 replace H := Option.bind_eq_some_iff.mp H
 obtain ⟨t267, A40, H⟩ := H
 replace H : (some (decide (a1 < t267))) = some r := H
 have A4 := Aside0.mk A40
 clear A40
 obtain rfl := Option.some.inj H
 go_enter Try.func72, Try.ntmps72
 go_wp2_with (first | ((with_reducible refine gate_dst (N := 2) rfl ?_); refine box_event rfl (N := 2) rfl (cs := #[.int .i64 a0_0, .int .i64 a0_1, .slice A0_2 l0_2.length c0_2, .slice A0_3 l0_3.length c0_3, .int .i64 a0_4, .int .i64 a0_5, .int .i64 a0_6]) (t := 57) sqs ?_; intro gb266 hg w5 hbox hb; have BK266 := sqM (hbox); have GW266 := sqM (sqZ hg (sqB HB.out)); have GE266 := sqM (sqZ hg (sqB HB.out)); replace HB := sqM (below_step (sqB HB.out) hb); clear hb hbox hg; obtain ⟨hcz6_0, hcz6_1, hcz6_2, hcz6_3, hcz6_4, hcz6_5, hcz6_6, hfz6_0, hfz6_1, hfz6_2, hfz6_3, hfz6_4, hfz6_5, hfz6_6⟩ := sqF7 BK266.out) | (go_at_call 87; (with_reducible refine (boarderref01_Last.calls _ _ _ _ _ A4.out).mono ?_); rintro e w' ⟨rfl, ⟨nd, rfl⟩⟩))
 go_ret
 exact ⟨sqE, sqB1 HB.out GE266.out⟩

end Go.Proofs.Ytdcabfonjmeajaa.PConf
