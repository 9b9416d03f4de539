/- Lean functions for Go functions of the given program, and proofs that the code computes them, each under its theorem's own conditions. Written by a program of this session. -/
import Derived.Test.YtdcabfonjmeajaaPConfx0
import Derived.Test.YtdcabfonjmeajaaPConfx1
import Derived.Test.YtdcabfonjmeajaaPConfx2
namespace Go.Proofs.Ytdcabfonjmeajaa.PConf
open Go.RowKit Go.Proofs.YtdcabfonjmeajaaW.PrintWords Go.Proofs.YtdcabfonjmeajaaW.PrintLast Go.Proofs.YtdcabfonjmeajaaW.PrintMore
attribute [local go_sem] max2_int min2_int max_two min_two max_three min_three max_four min_four   -- for this text's walks alone
set_option linter.unusedVariables false
set_option linter.unusedSimpArgs false

/-! ### conf_form: function 40 -/
mutual
def conf_form.j0 : Nat → Bool → Int → Int → List (S41) → Option (Bool)
  | 0, _, _, _, _ => none
  | k + 1, x22, x129000, x129001, x129002 => if x22 = true then (some false) else (conf_form.l0 k x129002 (x129002.length : Int) 0 x129000 x129001 x129002)
def conf_form.l0 : Nat → List (S41) → Int → Int → Int → Int → List (S41) → Option (Bool)
  | 0, _, _, _, _, _, _ => none
  | k + 1, x24, x25, x26, x129000, x129001, x129002 => if x26 < x25 then (if 0 ≤ x26 then (if x26 < (x24.length : Int) then ((conf_within.f (((rd_T41 x24 x26).f0).length : Int) 1 4).bind fun t133 => (if t133 = true then (conf_form.l0 k x24 x25 (wrap64 (x26 + 1)) x129000 x129001 x129002) else (some false))) else (none)) else (none)) else ((conf_spots.f k x129000 x129001 x129002).bind fun t134 => (conf_form.l1 k t134 (t134.length : Int) 0))
def conf_form.l1 : Nat → List (S66) → Int → Int → Option (Bool)
  | 0, _, _, _ => none
  | k + 1, x37, x38, x39 => if x39 < x38 then (if 0 ≤ x39 then (if x39 < (x37.length : Int) then ((conf_fair.f k ((rd_T66 x37 x39).f2.f0) ((rd_T66 x37 x39).f2.f1) ((rd_T66 x37 x39).f2.f2) ((rd_T66 x37 x39).f2.f3) ((rd_T66 x37 x39).f2.f4) ((rd_T66 x37 x39).f2.f5) ((rd_T66 x37 x39).f2.f6)).bind fun t139 => (if t139 = true then (conf_form.l1 k x37 x38 (wrap64 (x39 + 1))) else (some false))) else (none)) else (none)) else (some true)
end
def conf_form.f (k : Nat) (a0_0 : Int) (a0_1 : Int) (l0_2 : List (S41)) : Option (Bool) := (addr_Right.f a0_0).bind fun t129 => (if t129 = true then ((conf_within.f a0_1 1 2147483648).bind fun t130 => (if t130 = true then (conf_form.j0 k (decide ((l0_2.length : Int) > 4)) a0_0 a0_1 l0_2) else (conf_form.j0 k true a0_0 a0_1 l0_2))) else (conf_form.j0 k true a0_0 a0_1 l0_2))
theorem conf_form.mono_l : ∀ k, (∀ y0 y1 y2 y3, LeO (conf_form.j0 k y0 y1 y2 y3) (conf_form.j0 (k + 1) y0 y1 y2 y3)) ∧ (∀ y0 y1 y2 y3 y4 y5, LeO (conf_form.l0 k y0 y1 y2 y3 y4 y5) (conf_form.l0 (k + 1) y0 y1 y2 y3 y4 y5)) ∧ (∀ y0 y1 y2, LeO (conf_form.l1 k y0 y1 y2) (conf_form.l1 (k + 1) y0 y1 y2))
  | 0 => ⟨fun _ _ _ _ r h => by simp [conf_form.j0] at h, fun _ _ _ _ _ _ r h => by simp [conf_form.l0] at h, fun _ _ _ r h => by simp [conf_form.l1] at h⟩
  | k + 1 => by
    obtain ⟨ih0, ih1, ih2⟩ := conf_form.mono_l k
    refine ⟨?_, ?_, ?_⟩
    · intro y0 y1 y2 y3
      unfold conf_form.j0
      repeat' first
      | (with_reducible exact ih0 _ _ _ _)
      | (with_reducible exact ih1 _ _ _ _ _ _)
      | (with_reducible exact ih2 _ _ _)
      | (with_reducible exact conf_fair.mono _ _ _ _ _ _ _ _)
      | (with_reducible exact conf_spots.mono _ _ _ _)
      | (with_reducible exact LeO.refl _)
      | (with_reducible exact LeO.none _)
      | (with_reducible refine LeO.ite ?_ ?_)
      | (with_reducible refine LeO.bind ?_ (fun _ => ?_))
    · intro y0 y1 y2 y3 y4 y5
      unfold conf_form.l0
      repeat' first
      | (with_reducible exact ih0 _ _ _ _)
      | (with_reducible exact ih1 _ _ _ _ _ _)
      | (with_reducible exact ih2 _ _ _)
      | (with_reducible exact conf_fair.mono _ _ _ _ _ _ _ _)
      | (with_reducible exact conf_spots.mono _ _ _ _)
      | (with_reducible exact LeO.refl _)
      | (with_reducible exact LeO.none _)
      | (with_reducible refine LeO.ite ?_ ?_)
      | (with_reducible refine LeO.bind ?_ (fun _ => ?_))
    · intro y0 y1 y2
      unfold conf_form.l1
      repeat' first
      | (with_reducible exact ih0 _ _ _ _)
      | (with_reducible exact ih1 _ _ _ _ _ _)
      | (with_reducible exact ih2 _ _ _)
      | (with_reducible exact conf_fair.mono _ _ _ _ _ _ _ _)
      | (with_reducible exact conf_spots.mono _ _ _ _)
      | (with_reducible exact LeO.refl _)
      | (with_reducible exact LeO.none _)
      | (with_reducible refine LeO.ite ?_ ?_)
      | (with_reducible refine LeO.bind ?_ (fun _ => ?_))
theorem conf_form.mono : ∀ a0 a1 a2 k, LeO (conf_form.f k a0 a1 a2) (conf_form.f (k + 1) a0 a1 a2) := by
 intro a0 a1 a2 k
 obtain ⟨ih0, ih1, ih2⟩ := conf_form.mono_l k
 unfold conf_form.f
 repeat' first
  | (with_reducible exact ih0 _ _ _ _)
  | (with_reducible exact ih1 _ _ _ _ _ _)
  | (with_reducible exact ih2 _ _ _)
  | (with_reducible exact conf_fair.mono _ _ _ _ _ _ _ _)
  | (with_reducible exact conf_spots.mono _ _ _ _)
  | (with_reducible exact LeO.refl _)
  | (with_reducible exact LeO.none _)
  | (with_reducible refine LeO.ite ?_ ?_)
  | (with_reducible refine LeO.bind ?_ (fun _ => ?_))
set_option maxHeartbeats 8000000 in
set_option maxRecDepth 100000 in
theorem conf_form.calls (k : Nat) (a0_0 : Int) (a0_1 : Int) (A0_2 : Option Addr) (c0_2 : Nat) (l0_2 : List (S41)) (r : Bool) (w : World) (hr0_2 : Kd.C k41 w A0_2 l0_2.length l0_2) (hc0_2 : l0_2.length ≤ c0_2) (h : conf_form.f k a0_0 a0_1 l0_2 = some r) :
    Calls Try.prog 40 #[.agg #[.int .i64 a0_0, .int .i64 a0_1, .slice A0_2 l0_2.length c0_2]] w fun e w' => e = .returned (.bool r) ∧ Below w.heap.size w w' := by
 have hu24 := Try.underlying24
 have hu41 := Try.underlying41
 have hu66 := Try.underlying66
 have hu57 := Try.underlying57
 have HR0_2 := Aside0.mk hr0_2
 have HC0_2 := Aside0.mk hc0_2
 clear hr0_2 hc0_2
 have HB := Aside0.mk (Below.refl w.heap.size w)
 have H : ((addr_Right.f a0_0).bind fun t129 => (if t129 = true then ((conf_within.f a0_1 1 2147483648).bind fun t130 => (if t130 = true then (conf_form.j0 k (decide ((l0_2.length : Int) > 4)) a0_0 a0_1 l0_2) else (conf_form.j0 k true a0_0 a0_1 l0_2))) else (conf_form.j0 k true a0_0 a0_1 l0_2))) = some r := h
 clear h
 have HC2 := Aside0.mk H
 clear H
 go_enter Try.func40, Try.ntmps40
 go_upto_region 1 with (first | ((with_reducible refine gate_dst (N := 1) rfl ?_); (try (refine gate_guard (by rfl) ?_; dsimp only)); refine box_event rfl (N := 1) rfl (cs := #[.int .i64 a0_0, .int .i64 a0_1, .slice A0_2 l0_2.length c0_2]) (t := 24) sqs ?_; intro gb128 hg w3 hbox hb; have BK128 := sqM (hbox); have GW128 := sqM (sqZ hg (sqB HB.out)); have GE128 := sqM (sqZ hg (sqB HB.out)); replace HB := sqM (below_step (sqB HB.out) hb); clear hb hbox hg))
 (try simp only [Act.put, List.setIfInBounds_toArray, List.set_cons_zero, List.set_cons_succ])
 go_cut [22] (fun v22 wc => ∃ (kq : Nat) (x22_1 : Bool), v22 = .bool x22_1 ∧ Aside0 (conf_form.j0 kq x22_1 a0_0 a0_1 l0_2 = some r) ∧ Aside0 (kq ≤ k) ∧ Aside0 (wc.heap[gb128]? = some (.cells #[.int .i64 a0_0, .int .i64 a0_1, (.slice A0_2 l0_2.length c0_2)] 24 (0, 0))) ∧ Aside0 (Below w.heap.size w wc))
 case first =>
  have H := HC2.out
  clear HC2
  replace H := Option.bind_eq_some_iff.mp H
  obtain ⟨t129, A40, H⟩ := H
  replace H : (if t129 = true then ((conf_within.f a0_1 1 2147483648).bind fun t130 => (if t130 = true then (conf_form.j0 k (decide ((l0_2.length : Int) > 4)) a0_0 a0_1 l0_2) else (conf_form.j0 k true a0_0 a0_1 l0_2))) else (conf_form.j0 k true a0_0 a0_1 l0_2)) = some r := H
  have A4 := Aside0.mk A40
  clear A40
  by_cases c5 : t129 = true
  rotate_left
  · replace c5 := Bool.eq_false_iff.mpr c5
    subst c5
    have H1 : (conf_form.j0 k true a0_0 a0_1 l0_2) = some r := by rw [if_neg (show ¬ (false = true) by decide)] at H; exact H
    clear H
    have H := H1
    clear H1
    have H' := Aside0.mk H
    clear H
    obtain ⟨hcz10_0, hcz10_1, hcz10_2, hfz10_0, hfz10_1, hfz10_2⟩ := sqF3 BK128.out
    go_wp2_with (first | ((with_reducible refine gate_callee (f := 64) rfl ?_); refine goesL_ (some 9) rfl rfl Try.func64 (by kernel_rfl) rfl #[.int .i64 a0_0] rfl sqA ?_; (with_reducible refine (addr_Right.calls _ _ _ A4.out).mono ?_); rintro e w' ⟨rfl, ⟨nd, rfl⟩⟩; refine ⟨_, rfl, ?_⟩))
    go_meet
    case rel => exact ⟨_, (true), sqI, H', ⟨by first | omega | exact Nat.le_refl _⟩, ⟨sqK BK128.out⟩, ⟨sqB1 HB.out GE128.out⟩⟩
  subst c5
  have H1 : ((conf_within.f a0_1 1 2147483648).bind fun t130 => (if t130 = true then (conf_form.j0 k (decide ((l0_2.length : Int) > 4)) a0_0 a0_1 l0_2) else (conf_form.j0 k true a0_0 a0_1 l0_2))) = some r := by rw [if_pos rfl] at H; exact H
  clear H
  have H := H1
  clear H1
  replace H := Option.bind_eq_some_iff.mp H
  obtain ⟨t130, A60, H⟩ := H
  replace H : (if t130 = true then (conf_form.j0 k (decide ((l0_2.length : Int) > 4)) a0_0 a0_1 l0_2) else (conf_form.j0 k true a0_0 a0_1 l0_2)) = some r := H
  have A6 := Aside0.mk A60
  clear A60
  by_cases c7 : t130 = true
  · subst c7
    have H1 : (conf_form.j0 k (decide ((l0_2.length : Int) > 4)) a0_0 a0_1 l0_2) = some r := by rw [if_pos rfl] at H; exact H
    clear H
    have H := H1
    clear H1
    have H' := Aside0.mk H
    clear H
    obtain ⟨hcz8_0, hcz8_1, hcz8_2, hfz8_0, hfz8_1, hfz8_2⟩ := sqF3 BK128.out
    go_wp2_with (first | ((with_reducible refine gate_callee (f := 64) rfl ?_); refine goesL_ (some 9) rfl rfl Try.func64 (by kernel_rfl) rfl #[.int .i64 a0_0] rfl sqA ?_; (with_reducible refine (addr_Right.calls _ _ _ A4.out).mono ?_); rintro e w' ⟨rfl, ⟨nd, rfl⟩⟩; refine ⟨_, rfl, ?_⟩) | (go_at_call 65; (with_reducible refine (conf_within.calls _ _ _ _ _ A6.out).mono ?_); rintro e w' ⟨rfl, ⟨nd, rfl⟩⟩))
    go_meet
    case rel => exact ⟨_, (decide ((l0_2.length : Int) > 4)), sqI, H', ⟨by first | omega | exact Nat.le_refl _⟩, ⟨sqK BK128.out⟩, ⟨sqB1 HB.out GE128.out⟩⟩
  replace c7 := Bool.eq_false_iff.mpr c7
  subst c7
  have H1 : (conf_form.j0 k true a0_0 a0_1 l0_2) = some r := by rw [if_neg (show ¬ (false = true) by decide)] at H; exact H
  clear H
  have H := H1
  clear H1
  have H' := Aside0.mk H
  clear H
  obtain ⟨hcz9_0, hcz9_1, hcz9_2, hfz9_0, hfz9_1, hfz9_2⟩ := sqF3 BK128.out
  go_wp2_with (first | ((with_reducible refine gate_callee (f := 64) rfl ?_); refine goesL_ (some 9) rfl rfl Try.func64 (by kernel_rfl) rfl #[.int .i64 a0_0] rfl sqA ?_; (with_reducible refine (addr_Right.calls _ _ _ A4.out).mono ?_); rintro e w' ⟨rfl, ⟨nd, rfl⟩⟩; refine ⟨_, rfl, ?_⟩) | (go_at_call 65; (with_reducible refine (conf_within.calls _ _ _ _ _ A6.out).mono ?_); rintro e w' ⟨rfl, ⟨nd, rfl⟩⟩))
  go_meet
  case rel => exact ⟨_, (true), sqI, H', ⟨by first | omega | exact Nat.le_refl _⟩, ⟨sqK BK128.out⟩, ⟨sqB1 HB.out GE128.out⟩⟩
 clear HC2
 try clear p2
 try clear c4
 try clear c5
 try clear c6
 try clear c7
 try clear hcz10_0 hcz10_1 hcz10_2
 try clear hcz8_0 hcz8_1 hcz8_2
 try clear hcz9_0 hcz9_1 hcz9_2
 try clear hfz10_0 hfz10_1 hfz10_2
 try clear hfz8_0 hfz8_1 hfz8_2
 try clear hfz9_0 hfz9_1 hfz9_2
 obtain ⟨kq, x22_1, rfl, HA, HJ1, BK128, HB⟩ := hcut
 cases kq with
 | zero => exact absurd HA.out (by simp [conf_form.j0])
 | succ kj1 => ?_
 have H := HA.out
 clear HA
 simp only [conf_form.j0] at H
 by_cases c11 : x22_1 = true
 · subst c11
   have H1 : (some false) = some r := by rw [if_pos rfl] at H; exact H
   clear H
   have H := H1
   clear H1
   obtain rfl := Option.some.inj H
   go_wp2
   go_ret
   exact ⟨sqE, sqB1 HB.out GE128.out⟩
 replace c11 := Bool.eq_false_iff.mpr c11
 subst c11
 have H1 : (conf_form.l0 kj1 l0_2 (l0_2.length : Int) 0 a0_0 a0_1 l0_2) = some r := by rw [if_neg (show ¬ (false = true) by decide)] at H; exact H
 clear H
 have H := H1
 clear H1
 have H' := Aside0.mk H
 clear H
 obtain ⟨hcz12_0, hcz12_1, hcz12_2, hfz12_0, hfz12_1, hfz12_2⟩ := sqF3 BK128.out
 go_wp2
 go_loopg [26] kj1 (fun kq v26 w' => ∃ (x26_2 : Int), v26 = .int .i64 x26_2 ∧ Aside0 (conf_form.l0 kq l0_2 (l0_2.length : Int) x26_2 a0_0 a0_1 l0_2 = some r) ∧ Aside0 (kq ≤ kj1) ∧ Aside0 (w'.heap[gb128]? = some (.cells #[.int .i64 a0_0, .int .i64 a0_1, (.slice A0_2 l0_2.length c0_2)] 24 (0, 0))) ∧ Aside0 (Below w.heap.size w w'))
 case atStart => exact ⟨(0), sqI, H', ⟨Nat.le_refl _⟩, ⟨sqK BK128.out⟩, ⟨sqB1 HB.out GE128.out⟩⟩
 clear H'
 try clear c1
 try clear p2
 try clear c4
 try clear c5
 try clear c6
 try clear c7
 try clear c11
 try clear hcz10_0 hcz10_1 hcz10_2
 try clear hcz12_0 hcz12_1 hcz12_2
 try clear hcz8_0 hcz8_1 hcz8_2
 try clear hcz9_0 hcz9_1 hcz9_2
 try clear hfz10_0 hfz10_1 hfz10_2
 try clear hfz12_0 hfz12_1 hfz12_2
 try clear hfz8_0 hfz8_1 hfz8_2
 try clear hfz9_0 hfz9_1 hfz9_2
 try clear p2
 obtain ⟨x26_2, rfl, HA, HK2, BK128, HB⟩ := hrel
 cases gk with
 | zero => exact absurd HA.out (by simp [conf_form.l0])
 | succ k2 => ?_
 have H := HA.out
 clear HA
 simp only [conf_form.l0] at H
 by_cases c13 : x26_2 < (l0_2.length : Int)
 · rw [if_pos c13] at H
   have c13b0 : decide (x26_2 < (l0_2.length : Int)) = true := decide_eq_true c13
   clear c13
   by_cases c14 : 0 ≤ x26_2
   rotate_left
   · rw [if_neg c14] at H
     exact absurd H (by simp)
   rw [if_pos c14] at H
   have c14b0 : decide (0 ≤ x26_2) = true := decide_eq_true c14
   clear c14
   by_cases c15 : x26_2 < (l0_2.length : Int)
   rotate_left
   · rw [if_neg c15] at H
     exact absurd H (by simp)
   rw [if_pos c15] at H
   have c15b0 : decide (x26_2 < (l0_2.length : Int)) = true := decide_eq_true c15
   clear c15
   replace H := Option.bind_eq_some_iff.mp H
   obtain ⟨t133, A160, H⟩ := H
   replace H : (if t133 = true then (conf_form.l0 k2 l0_2 (l0_2.length : Int) (wrap64 (x26_2 + 1)) a0_0 a0_1 l0_2) else (some false)) = some r := H
   have A16 := Aside0.mk A160
   clear A160
   by_cases c17 : t133 = true
   rotate_left
   · replace c17 := Bool.eq_false_iff.mpr c17
     subst c17
     have H1 : (some false) = some r := by rw [if_neg (show ¬ (false = true) by decide)] at H; exact H
     clear H
     have H := H1
     clear H1
     obtain rfl := Option.some.inj H
     have p131 : 0 ≤ (x26_2 : Int) := of_decide_eq_true sqH
     have q131 : x26_2 < (l0_2.length : Int) := of_decide_eq_true sqH
     obtain ⟨ad131, A131_0, c131_0, e131, hx131_0, hl131_0, hi131_0⟩ := at_T41 HR0_2.out x26_2 p131 q131
     cases e131
     replace hx131_0 := sqx HB.out hx131_0
     have HR131_0 := Aside0.mk hi131_0
     have HC131_0 := Aside0.mk hl131_0
     clear hi131_0 hl131_0
     replace p131 := eq_true p131
     replace q131 := eq_true q131
     go_wp2_with (first | ((with_reducible refine gate_dst (N := 4) rfl ?_); (try (refine gate_guard (by rfl) ?_; dsimp only)); refine box_event rfl (N := 4) rfl (cs := #[.slice none 0 0]) (t := 41) sqs ?_; intro gb132 hg w21 hbox hb; have BK132 := sqM (hbox); have GW132 := sqM (sqZ hg (sqB1 HB.out GE128.out)); have GE132 := sqM (sqZ hg (sqB1 HB.out GE128.out)); have NB128_132 := sqM (sqL hg (sqK BK128.out)); have NB132_128 := sqM (sqG hg (sqK BK128.out)); replace BK128 := sqM (blk_below (sqK BK128.out) hb); replace HB := sqM (below_step (sqB1 HB.out GE128.out) hb); clear hb hbox hg; have hnb22 := NB132_128.out; have hnc22 := NB128_132.out; obtain ⟨hcz23_0, hfz23_0⟩ := sqF1 BK132.out) | ((with_reducible refine gate_callee (f := 65) rfl ?_); refine goesL_ (some 33) rfl rfl Try.func65 (by kernel_rfl) rfl #[.int .i64 (((rd_T41 l0_2 x26_2).f0).length : Int), .int .i64 1, .int .i64 4] rfl sqA ?_; (with_reducible refine (conf_within.calls _ _ _ _ _ A16.out).mono ?_); rintro e w' ⟨rfl, ⟨nd, rfl⟩⟩; refine ⟨_, rfl, ?_⟩))
     go_ret
     exact ⟨sqE, sqB2 HB.out GE128.out GE132.out⟩
   subst c17
   have H1 : (conf_form.l0 k2 l0_2 (l0_2.length : Int) (wrap64 (x26_2 + 1)) a0_0 a0_1 l0_2) = some r := by rw [if_pos rfl] at H; exact H
   clear H
   have H := H1
   clear H1
   have H' := Aside0.mk H
   clear H
   have p131 : 0 ≤ (x26_2 : Int) := of_decide_eq_true sqH
   have q131 : x26_2 < (l0_2.length : Int) := of_decide_eq_true sqH
   obtain ⟨ad131, A131_0, c131_0, e131, hx131_0, hl131_0, hi131_0⟩ := at_T41 HR0_2.out x26_2 p131 q131
   cases e131
   replace hx131_0 := sqx HB.out hx131_0
   have HR131_0 := Aside0.mk hi131_0
   have HC131_0 := Aside0.mk hl131_0
   clear hi131_0 hl131_0
   replace p131 := eq_true p131
   replace q131 := eq_true q131
   go_wp2_with (first | ((with_reducible refine gate_dst (N := 4) rfl ?_); (try (refine gate_guard (by rfl) ?_; dsimp only)); refine box_event rfl (N := 4) rfl (cs := #[.slice none 0 0]) (t := 41) sqs ?_; intro gb132 hg w18 hbox hb; have BK132 := sqM (hbox); have GW132 := sqM (sqZ hg (sqB1 HB.out GE128.out)); have GE132 := sqM (sqZ hg (sqB1 HB.out GE128.out)); have NB128_132 := sqM (sqL hg (sqK BK128.out)); have NB132_128 := sqM (sqG hg (sqK BK128.out)); replace BK128 := sqM (blk_below (sqK BK128.out) hb); replace HB := sqM (below_step (sqB1 HB.out GE128.out) hb); clear hb hbox hg; have hnb19 := NB132_128.out; have hnc19 := NB128_132.out; obtain ⟨hcz20_0, hfz20_0⟩ := sqF1 BK132.out) | ((with_reducible refine gate_callee (f := 65) rfl ?_); refine goesL_ (some 33) rfl rfl Try.func65 (by kernel_rfl) rfl #[.int .i64 (((rd_T41 l0_2 x26_2).f0).length : Int), .int .i64 1, .int .i64 4] rfl sqA ?_; (with_reducible refine (conf_within.calls _ _ _ _ _ A16.out).mono ?_); rintro e w' ⟨rfl, ⟨nd, rfl⟩⟩; refine ⟨_, rfl, ?_⟩))
   go_roundg k2
   case measure => have := HJ1.out; have := HK2.out; omega
   case rel => exact ⟨(wrap64 (x26_2 + 1)), sqI, H', ⟨by have := HJ1.out; have := HK2.out; omega⟩, ⟨by refine sqK ?_; refine blk_far ?_ NB128_132.out _; refine sqK ?_; exact BK128.out⟩, ⟨sqB2 HB.out GE128.out GE132.out⟩⟩
 rw [if_neg c13] at H
 have c13b0 : decide (x26_2 < (l0_2.length : Int)) = false := decide_eq_false c13
 clear c13
 replace H := Option.bind_eq_some_iff.mp H
 obtain ⟨t134, A240, H⟩ := H
 replace H : (conf_form.l1 k2 t134 (t134.length : Int) 0) = some r := H
 have A24 := Aside0.mk A240
 clear A240
 have H' := Aside0.mk H
 clear H
 obtain ⟨hcz25_0, hcz25_1, hcz25_2, hfz25_0, hfz25_1, hfz25_2⟩ := sqF3 BK128.out
 go_wp2_with (first | ((with_reducible refine gate_callee (f := 66) rfl ?_); refine goesL_ (some 37) rfl rfl Try.func66 (by kernel_rfl) rfl #[.agg #[.int .i64 a0_0, .int .i64 a0_1, .slice A0_2 l0_2.length c0_2]] rfl sqA ?_; (with_reducible refine (conf_spots.calls _ _ _ (fun k_ => k_ < w.heap.size) _ _ _ _ _ ?side1 A24.out).mono ?_); (case side1 => exact Kd.V_mk HC0_2.out (Kd.F_below (Kd.C_F k41_heap HR0_2.out) (sqB1 HB.out GE128.out))); rintro e w26 ⟨v135, rfl, ho0, hb⟩; refine ⟨_, rfl, ?_⟩; have HO136 := sqM (Kd.N_lower (Kd.N_mono (ok' := fun k_ => k_ ≠ gb128) ho0 (fun k_ hk_ => Or.elim hk_ (fun hs_ => fun e_ => Nat.not_le.2 hs_ (by rw [e_]; exact GW128.out)) (fun hn_ => (Kd.freshB (g := gb128) (o := .cells #[.int .i64 a0_0, .int .i64 a0_1, .slice A0_2 l0_2.length c0_2] 24 (0, 0)) (sqK BK128.out) k_ hn_)))) (below_size (sqB1 HB.out GE128.out))); replace BK128 := sqM (blk_below (sqK BK128.out) hb); replace HB := sqM (below_step (sqB1 HB.out GE128.out) hb); (try clear hb); (try clear hb2); (try clear hk); (try clear hi); (try clear ho0); obtain ⟨Ao27, co27, eo27⟩ := Kd.N_slice HO136.out; subst eo27))
 go_loopg [39] k2 (fun kq v39 w' => ∃ (x39_3 : Int), v39 = .int .i64 x39_3 ∧ Aside0 (conf_form.l1 kq t134 (t134.length : Int) x39_3 = some r) ∧ Aside0 (kq ≤ k2) ∧ Aside0 (Kd.N k66 66 w' w.heap.size (fun k_ => k_ ≠ gb128) (.slice Ao27 t134.length co27) t134) ∧ Aside0 (w'.heap[gb128]? = some (.cells #[.int .i64 a0_0, .int .i64 a0_1, (.slice A0_2 l0_2.length c0_2)] 24 (0, 0))) ∧ Aside0 (Below w.heap.size w w'))
 case atStart => exact ⟨(0), sqI, H', ⟨Nat.le_refl _⟩, ⟨sqN HO136.out⟩, ⟨sqK BK128.out⟩, ⟨sqB1 HB.out GE128.out⟩⟩
 clear H'
 try clear c1
 try clear p1
 try clear q1
 try clear hx1
 try clear c2
 try clear p2
 try clear c4
 try clear c5
 try clear c6
 try clear p6
 try clear c7
 try clear c11
 try clear c13
 try clear c13b0
 try clear p13
 try clear q13
 try clear hx13
 try clear c14
 try clear c14b0
 try clear c15
 try clear c15b0
 try clear c17
 try clear c19
 try clear c22
 try clear hcz10_0 hcz10_1 hcz10_2
 try clear hcz12_0 hcz12_1 hcz12_2
 try clear hcz20_0
 try clear hcz23_0
 try clear hcz25_0 hcz25_1 hcz25_2
 try clear hcz8_0 hcz8_1 hcz8_2
 try clear hcz9_0 hcz9_1 hcz9_2
 try clear hfz10_0 hfz10_1 hfz10_2
 try clear hfz12_0 hfz12_1 hfz12_2
 try clear hfz20_0
 try clear hfz23_0
 try clear hfz25_0 hfz25_1 hfz25_2
 try clear hfz8_0 hfz8_1 hfz8_2
 try clear hfz9_0 hfz9_1 hfz9_2
 try clear hx131_0
 try clear p131
 try clear p2
 try clear q131
 obtain ⟨x39_3, rfl, HA, HK3, HO_37, BK128, HB⟩ := hrel
 cases gk with
 | zero => exact absurd HA.out (by simp [conf_form.l1])
 | succ k3 => ?_
 have H := HA.out
 clear HA
 simp only [conf_form.l1] at H
 by_cases c28 : x39_3 < (t134.length : Int)
 rotate_left
 · rw [if_neg c28] at H
   have c28b0 : decide (x39_3 < (t134.length : Int)) = false := decide_eq_false c28
   clear c28
   obtain rfl := Option.some.inj H
   go_wp2
   go_ret
   exact ⟨sqE, sqB1 HB.out GE128.out⟩
 rw [if_pos c28] at H
 have c28b0 : decide (x39_3 < (t134.length : Int)) = true := decide_eq_true c28
 clear c28
 by_cases c29 : 0 ≤ x39_3
 rotate_left
 · rw [if_neg c29] at H
   exact absurd H (by simp)
 rw [if_pos c29] at H
 have c29b0 : decide (0 ≤ x39_3) = true := decide_eq_true c29
 clear c29
 by_cases c30 : x39_3 < (t134.length : Int)
 rotate_left
 · rw [if_neg c30] at H
   exact absurd H (by simp)
 rw [if_pos c30] at H
 have c30b0 : decide (x39_3 < (t134.length : Int)) = true := decide_eq_true c30
 clear c30
 replace H := Option.bind_eq_some_iff.mp H
 obtain ⟨t139, A310, H⟩ := H
 replace H : (if t139 = true then (conf_form.l1 k3 t134 (t134.length : Int) (wrap64 (x39_3 + 1))) else (some false)) = some r := H
 have A31 := Aside0.mk A310
 clear A310
 by_cases c32 : t139 = true
 rotate_left
 · replace c32 := Bool.eq_false_iff.mpr c32
   subst c32
   have H1 : (some false) = some r := by rw [if_neg (show ¬ (false = true) by decide)] at H; exact H
   clear H
   have H := H1
   clear H1
   obtain rfl := Option.some.inj H
   have p137 : 0 ≤ (x39_3 : Int) := of_decide_eq_true sqH
   have q137 : x39_3 < (t134.length : Int) := of_decide_eq_true sqH
   obtain ⟨ad137, A137_4, c137_4, A137_5, c137_5, e137, hx137_0, hx137_1, hx137_2, hx137_3, hx137_4, hx137_5, hx137_6, hx137_7, hx137_8, hl137_4, hi137_4, hl137_5, hi137_5⟩ := at_T66 (Kd.N_reads' HO_37.out).2.2 x39_3 p137 q137
   cases e137
   obtain ⟨ce137, hce137, hMe137, hcc137⟩ := Kd.N_get HO_37.out z66 x39_3 p137 (by first | exact q137 | exact of_decide_eq_true sqH | (have e_ := (Kd.N_reads' HO_37.out).1; omega))
   obtain ⟨ua137_4, uc137_4, ua137_5, uc137_5, rfl, ul137_4, ge137_4, ul137_5, ge137_5⟩ := k66_openF hMe137
   have hv137_4 := hcc137 4 _ rfl
   rw [add_field _ _ 4 (by omega)] at hv137_4
   replace hv137_4 := Option.some.inj (hv137_4.symm.trans hx137_4)
   injection hv137_4 with hva_ hvn_ hvc_
   rw [hva_] at ge137_4
   rw [hvc_] at ul137_4
   have HL137_4 := sqM (show Kd.V k62 62 _ w.heap.size _ _ ((rd_T66 t134 x39_3).f2.f2) from Kd.V_mk ul137_4 ge137_4)
   clear hva_ hvn_ hvc_ ge137_4 ul137_4
   have hv137_5 := hcc137 5 _ rfl
   rw [add_field _ _ 5 (by omega)] at hv137_5
   replace hv137_5 := Option.some.inj (hv137_5.symm.trans hx137_5)
   injection hv137_5 with hva_ hvn_ hvc_
   rw [hva_] at ge137_5
   rw [hvc_] at ul137_5
   have HL137_5 := sqM (show Kd.V k59 59 _ w.heap.size _ _ ((rd_T66 t134 x39_3).f2.f3) from Kd.V_mk ul137_5 ge137_5)
   clear hva_ hvn_ hvc_ ge137_5 ul137_5
   clear hcc137 hce137
   have HR137_4 := Aside0.mk hi137_4
   have HC137_4 := Aside0.mk hl137_4
   clear hi137_4 hl137_4
   have HR137_5 := Aside0.mk hi137_5
   have HC137_5 := Aside0.mk hl137_5
   clear hi137_5 hl137_5
   replace p137 := eq_true p137
   replace q137 := eq_true q137
   go_wp2_with (first | ((with_reducible refine gate_dst (N := 6) rfl ?_); (try (refine gate_guard (by rfl) ?_; dsimp only)); refine box_event rfl (N := 6) rfl (cs := #[.int .i64 0, .int .i64 0, .int .i64 0, .int .i64 0, .slice none 0 0, .slice none 0 0, .int .i64 0, .int .i64 0, .int .i64 0]) (t := 66) sqs ?_; intro gb138 hg w37 hbox hb; have BK138 := sqM (hbox); have GW138 := sqM (sqZ hg (sqB1 HB.out GE128.out)); have GE138 := sqM (sqZ hg (sqB1 HB.out GE128.out)); have NB128_138 := sqM (sqL hg (sqK BK128.out)); have NB138_128 := sqM (sqG hg (sqK BK128.out)); replace HO_37 := sqM (sqNe (sqN HO_37.out) hg hb); replace HL137_4 := sqM (sqVe (sqV HL137_4.out) hg hb); replace HL137_5 := sqM (sqVe (sqV HL137_5.out) hg hb); replace BK128 := sqM (blk_below (sqK BK128.out) hb); replace HR137_4 := sqM (Kd.C_below (sqC HR137_4.out) hb); replace HR137_5 := sqM (Kd.C_below (sqC HR137_5.out) hb); replace HB := sqM (below_step (sqB1 HB.out GE128.out) hb); clear hb hbox hg; have hnb38 := NB138_128.out; have hnc38 := NB128_138.out; obtain ⟨hcz39_0, hcz39_1, hcz39_2, hcz39_3, hcz39_4, hcz39_5, hcz39_6, hcz39_7, hcz39_8, hfz39_0, hfz39_1, hfz39_2, hfz39_3, hfz39_4, hfz39_5, hfz39_6, hfz39_7, hfz39_8⟩ := sqF9 BK138.out) | ((with_reducible refine gate_callee (f := 67) rfl ?_); refine goesL_ (some 45) rfl rfl Try.func67 (by kernel_rfl) rfl #[.agg #[.int .i64 ((rd_T66 t134 x39_3).f2.f0), .int .i64 ((rd_T66 t134 x39_3).f2.f1), .slice A137_4 ((rd_T66 t134 x39_3).f2.f2).length c137_4, .slice A137_5 ((rd_T66 t134 x39_3).f2.f3).length c137_5, .int .i64 ((rd_T66 t134 x39_3).f2.f4), .int .i64 ((rd_T66 t134 x39_3).f2.f5), .int .i64 ((rd_T66 t134 x39_3).f2.f6)]] rfl sqA ?_; (with_reducible refine (conf_fair.calls _ _ _ _ _ _ _ _ _ _ _ _ _ _ ?side1 ?side2 ?side3 ?side4 A31.out).mono ?_); (case side1 => repeat (first | exact ((Kd.V_reads' (by refine sqV ?_; exact (sqV9 HL137_4.out (fun k_ hk => hk.2)))).2.2) | (with_reducible refine Kd.C_alloc ?_ _) | (with_reducible refine Kd.C_drewN ?_ _) | (with_reducible refine Kd.C_drew ?_))); (case side2 => exact HC137_4.out); (case side3 => repeat (first | exact ((Kd.V_reads' (by refine sqV ?_; exact (sqV9 HL137_5.out (fun k_ hk => hk.2)))).2.2) | (with_reducible refine Kd.C_alloc ?_ _) | (with_reducible refine Kd.C_drewN ?_ _) | (with_reducible refine Kd.C_drew ?_))); (case side4 => exact HC137_5.out); rintro e w40 ⟨rfl, hb⟩; refine ⟨_, rfl, ?_⟩; replace HO_37 := sqM (Kd.N_below (by refine sqN ?_; exact (sqN9 HO_37.out (fun k_ hk => hk.2))) hb); replace BK128 := sqM (blk_below (sqK (sqX9 BK128.out NB128_138.out)) hb); replace HR137_4 := sqM (Kd.C_below ((Kd.V_reads' (by refine sqV ?_; exact (sqV9 HL137_4.out (fun k_ hk => hk.2)))).2.2) hb); replace HL137_4 := sqM (Kd.V_below (by refine sqV ?_; exact (sqV9 HL137_4.out (fun k_ hk => hk.2))) hb); replace HR137_5 := sqM (Kd.C_below ((Kd.V_reads' (by refine sqV ?_; exact (sqV9 HL137_5.out (fun k_ hk => hk.2)))).2.2) hb); replace HL137_5 := sqM (Kd.V_below (by refine sqV ?_; exact (sqV9 HL137_5.out (fun k_ hk => hk.2))) hb); replace BK138 := sqM (blk_below (sqK (sqP9 BK138.out)) hb); replace HB := sqM (below_step (sqB2 HB.out GE128.out GE138.out) hb); (try clear hb); (try clear hb2); (try clear hk); (try clear hi)))
   go_ret
   exact ⟨sqE, sqB2 HB.out GE128.out GE138.out⟩
 subst c32
 have H1 : (conf_form.l1 k3 t134 (t134.length : Int) (wrap64 (x39_3 + 1))) = some r := by rw [if_pos rfl] at H; exact H
 clear H
 have H := H1
 clear H1
 have H' := Aside0.mk H
 clear H
 have p137 : 0 ≤ (x39_3 : Int) := of_decide_eq_true sqH
 have q137 : x39_3 < (t134.length : Int) := of_decide_eq_true sqH
 obtain ⟨ad137, A137_4, c137_4, A137_5, c137_5, e137, hx137_0, hx137_1, hx137_2, hx137_3, hx137_4, hx137_5, hx137_6, hx137_7, hx137_8, hl137_4, hi137_4, hl137_5, hi137_5⟩ := at_T66 (Kd.N_reads' HO_37.out).2.2 x39_3 p137 q137
 cases e137
 obtain ⟨ce137, hce137, hMe137, hcc137⟩ := Kd.N_get HO_37.out z66 x39_3 p137 (by first | exact q137 | exact of_decide_eq_true sqH | (have e_ := (Kd.N_reads' HO_37.out).1; omega))
 obtain ⟨ua137_4, uc137_4, ua137_5, uc137_5, rfl, ul137_4, ge137_4, ul137_5, ge137_5⟩ := k66_openF hMe137
 have hv137_4 := hcc137 4 _ rfl
 rw [add_field _ _ 4 (by omega)] at hv137_4
 replace hv137_4 := Option.some.inj (hv137_4.symm.trans hx137_4)
 injection hv137_4 with hva_ hvn_ hvc_
 rw [hva_] at ge137_4
 rw [hvc_] at ul137_4
 have HL137_4 := sqM (show Kd.V k62 62 _ w.heap.size _ _ ((rd_T66 t134 x39_3).f2.f2) from Kd.V_mk ul137_4 ge137_4)
 clear hva_ hvn_ hvc_ ge137_4 ul137_4
 have hv137_5 := hcc137 5 _ rfl
 rw [add_field _ _ 5 (by omega)] at hv137_5
 replace hv137_5 := Option.some.inj (hv137_5.symm.trans hx137_5)
 injection hv137_5 with hva_ hvn_ hvc_
 rw [hva_] at ge137_5
 rw [hvc_] at ul137_5
 have HL137_5 := sqM (show Kd.V k59 59 _ w.heap.size _ _ ((rd_T66 t134 x39_3).f2.f3) from Kd.V_mk ul137_5 ge137_5)
 clear hva_ hvn_ hvc_ ge137_5 ul137_5
 clear hcc137 hce137
 have HR137_4 := Aside0.mk hi137_4
 have HC137_4 := Aside0.mk hl137_4
 clear hi137_4 hl137_4
 have HR137_5 := Aside0.mk hi137_5
 have HC137_5 := Aside0.mk hl137_5
 clear hi137_5 hl137_5
 replace p137 := eq_true p137
 replace q137 := eq_true q137
 go_wp2_with (first | ((with_reducible refine gate_dst (N := 6) rfl ?_); (try (refine gate_guard (by rfl) ?_; dsimp only)); refine box_event rfl (N := 6) rfl (cs := #[.int .i64 0, .int .i64 0, .int .i64 0, .int .i64 0, .slice none 0 0, .slice none 0 0, .int .i64 0, .int .i64 0, .int .i64 0]) (t := 66) sqs ?_; intro gb138 hg w33 hbox hb; have BK138 := sqM (hbox); have GW138 := sqM (sqZ hg (sqB1 HB.out GE128.out)); have GE138 := sqM (sqZ hg (sqB1 HB.out GE128.out)); have NB128_138 := sqM (sqL hg (sqK BK128.out)); have NB138_128 := sqM (sqG hg (sqK BK128.out)); replace HO_37 := sqM (sqNe (sqN HO_37.out) hg hb); replace HL137_4 := sqM (sqVe (sqV HL137_4.out) hg hb); replace HL137_5 := sqM (sqVe (sqV HL137_5.out) hg hb); replace BK128 := sqM (blk_below (sqK BK128.out) hb); replace HR137_4 := sqM (Kd.C_below (sqC HR137_4.out) hb); replace HR137_5 := sqM (Kd.C_below (sqC HR137_5.out) hb); replace HB := sqM (below_step (sqB1 HB.out GE128.out) hb); clear hb hbox hg; have hnb34 := NB138_128.out; have hnc34 := NB128_138.out; obtain ⟨hcz35_0, hcz35_1, hcz35_2, hcz35_3, hcz35_4, hcz35_5, hcz35_6, hcz35_7, hcz35_8, hfz35_0, hfz35_1, hfz35_2, hfz35_3, hfz35_4, hfz35_5, hfz35_6, hfz35_7, hfz35_8⟩ := sqF9 BK138.out) | ((with_reducible refine gate_callee (f := 67) rfl ?_); refine goesL_ (some 45) rfl rfl Try.func67 (by kernel_rfl) rfl #[.agg #[.int .i64 ((rd_T66 t134 x39_3).f2.f0), .int .i64 ((rd_T66 t134 x39_3).f2.f1), .slice A137_4 ((rd_T66 t134 x39_3).f2.f2).length c137_4, .slice A137_5 ((rd_T66 t134 x39_3).f2.f3).length c137_5, .int .i64 ((rd_T66 t134 x39_3).f2.f4), .int .i64 ((rd_T66 t134 x39_3).f2.f5), .int .i64 ((rd_T66 t134 x39_3).f2.f6)]] rfl sqA ?_; (with_reducible refine (conf_fair.calls _ _ _ _ _ _ _ _ _ _ _ _ _ _ ?side1 ?side2 ?side3 ?side4 A31.out).mono ?_); (case side1 => repeat (first | exact ((Kd.V_reads' (by refine sqV ?_; exact (sqV9 HL137_4.out (fun k_ hk => hk.2)))).2.2) | (with_reducible refine Kd.C_alloc ?_ _) | (with_reducible refine Kd.C_drewN ?_ _) | (with_reducible refine Kd.C_drew ?_))); (case side2 => exact HC137_4.out); (case side3 => repeat (first | exact ((Kd.V_reads' (by refine sqV ?_; exact (sqV9 HL137_5.out (fun k_ hk => hk.2)))).2.2) | (with_reducible refine Kd.C_alloc ?_ _) | (with_reducible refine Kd.C_drewN ?_ _) | (with_reducible refine Kd.C_drew ?_))); (case side4 => exact HC137_5.out); rintro e w36 ⟨rfl, hb⟩; refine ⟨_, rfl, ?_⟩; replace HO_37 := sqM (Kd.N_below (by refine sqN ?_; exact (sqN9 HO_37.out (fun k_ hk => hk.2))) hb); replace BK128 := sqM (blk_below (sqK (sqX9 BK128.out NB128_138.out)) hb); replace HR137_4 := sqM (Kd.C_below ((Kd.V_reads' (by refine sqV ?_; exact (sqV9 HL137_4.out (fun k_ hk => hk.2)))).2.2) hb); replace HL137_4 := sqM (Kd.V_below (by refine sqV ?_; exact (sqV9 HL137_4.out (fun k_ hk => hk.2))) hb); replace HR137_5 := sqM (Kd.C_below ((Kd.V_reads' (by refine sqV ?_; exact (sqV9 HL137_5.out (fun k_ hk => hk.2)))).2.2) hb); replace HL137_5 := sqM (Kd.V_below (by refine sqV ?_; exact (sqV9 HL137_5.out (fun k_ hk => hk.2))) hb); replace BK138 := sqM (blk_below (sqK (sqP9 BK138.out)) hb); replace HB := sqM (below_step (sqB2 HB.out GE128.out GE138.out) hb); (try clear hb); (try clear hb2); (try clear hk); (try clear hi)))
 go_roundg k3
 case measure => have := HJ1.out; have := HK2.out; have := HK3.out; omega
 case rel => exact ⟨(wrap64 (x39_3 + 1)), sqI, H', ⟨by have := HJ1.out; have := HK2.out; have := HK3.out; omega⟩, ⟨by refine sqN ?_; exact Kd.N_mono HO_37.out (fun _ hk => hk.1)⟩, ⟨sqK BK128.out⟩, ⟨sqB2 HB.out GE128.out GE138.out⟩⟩

/-! ### conf_has: function 48 -/
def conf_has.f (a0_0 : Int) (a0_1 : Int) (a1 : Int) : Option (Bool) := (conf_within.f a1 a0_0 a0_1).bind fun t141 => (some t141)
set_option maxHeartbeats 8000000 in
set_option maxRecDepth 100000 in
theorem conf_has.calls (a0_0 : Int) (a0_1 : Int) (a1 : Int) (r : Bool) (w : World) (h : conf_has.f a0_0 a0_1 a1 = some r) :
    Calls Try.prog 48 #[.agg #[.int .i64 a0_0, .int .i64 a0_1], .int .i64 a1] w fun e w' => e = .returned (.bool r) ∧ Below w.heap.size w w' := by
 have hu62 := Try.underlying62
 have HB := Aside0.mk (Below.refl w.heap.size w)
 have H : ((conf_within.f a1 a0_0 a0_1).bind fun t141 => (some t141)) = some r := h
 clear h
 replace H := Option.bind_eq_some_iff.mp H
 obtain ⟨t141, A30, H⟩ := H
 replace H : (some t141) = some r := H
 have A3 := Aside0.mk A30
 clear A30
 obtain rfl := Option.some.inj H
 go_enter Try.func48, Try.ntmps48
 go_wp2_with (first | ((with_reducible refine gate_dst (N := 2) rfl ?_); refine box_event rfl (N := 2) rfl (cs := #[.int .i64 a0_0, .int .i64 a0_1]) (t := 62) sqs ?_; intro gb140 hg w4 hbox hb; have BK140 := sqM (hbox); have GW140 := sqM (sqZ hg (sqB HB.out)); have GE140 := sqM (sqZ hg (sqB HB.out)); replace HB := sqM (below_step (sqB HB.out) hb); clear hb hbox hg; obtain ⟨hcz5_0, hcz5_1, hfz5_0, hfz5_1⟩ := sqF2 BK140.out) | ((with_reducible refine gate_callee (f := 65) rfl ?_); refine goesL_ (some 10) rfl rfl Try.func65 (by kernel_rfl) rfl #[.int .i64 a1, .int .i64 a0_0, .int .i64 a0_1] rfl sqA ?_; (with_reducible refine (conf_within.calls _ _ _ _ _ A3.out).mono ?_); rintro e w' ⟨rfl, ⟨nd, rfl⟩⟩; refine ⟨_, rfl, ?_⟩))
 go_ret
 exact ⟨sqE, sqB1 HB.out GE140.out⟩

/-! ### addr_Has: function 49 -/
def addr_Has.f (a0 : Int) (a1 : Int) (a2 : Int) : Option (Bool) := (addr_Fair.f a0 a1).bind fun t142 => (if t142 = true then ((addr_Right.f a2).bind fun t143 => (if t143 = true then ((addr_mask.f a1).bind fun t144 => (some ((Go.bits .and .i64 a2 t144) == a0))) else (some false))) else (some false))
set_option maxHeartbeats 8000000 in
set_option maxRecDepth 100000 in
theorem addr_Has.calls (a0 : Int) (a1 : Int) (a2 : Int) (r : Bool) (w : World) (h : addr_Has.f a0 a1 a2 = some r) :
    Calls Try.prog 49 #[.int .i64 a0, .int .i64 a1, .int .i64 a2] w fun e w' => e = .returned (.bool r) ∧ Drawn0 w w' := by
 have H : ((addr_Fair.f a0 a1).bind fun t142 => (if t142 = true then ((addr_Right.f a2).bind fun t143 => (if t143 = true then ((addr_mask.f a1).bind fun t144 => (some ((Go.bits .and .i64 a2 t144) == a0))) else (some false))) else (some false))) = some r := h
 clear h
 replace H := Option.bind_eq_some_iff.mp H
 obtain ⟨t142, A40, H⟩ := H
 replace H : (if t142 = true then ((addr_Right.f a2).bind fun t143 => (if t143 = true then ((addr_mask.f a1).bind fun t144 => (some ((Go.bits .and .i64 a2 t144) == a0))) else (some false))) else (some false)) = some r := H
 have A4 := Aside0.mk A40
 clear A40
 by_cases c5 : t142 = true
 rotate_left
 · replace c5 := Bool.eq_false_iff.mpr c5
   subst c5
   have H1 : (some false) = some r := by rw [if_neg (show ¬ (false = true) by decide)] at H; exact H
   clear H
   have H := H1
   clear H1
   obtain rfl := Option.some.inj H
   go_enter Try.func49, Try.ntmps49
   go_wp2_with (first | ((with_reducible refine gate_callee (f := 75) rfl ?_); refine goesL_ (some 9) rfl rfl Try.func75 (by kernel_rfl) rfl #[.int .i64 a0, .int .i64 a1] rfl sqA ?_; (with_reducible refine (addr_Fair.calls _ _ _ _ A4.out).mono ?_); rintro e w' ⟨rfl, ⟨nd, rfl⟩⟩; refine ⟨_, rfl, ?_⟩))
   go_ret
   exact ⟨sqI, sqD⟩
 subst c5
 have H1 : ((addr_Right.f a2).bind fun t143 => (if t143 = true then ((addr_mask.f a1).bind fun t144 => (some ((Go.bits .and .i64 a2 t144) == a0))) else (some false))) = some r := by rw [if_pos rfl] at H; exact H
 clear H
 have H := H1
 clear H1
 replace H := Option.bind_eq_some_iff.mp H
 obtain ⟨t143, A60, H⟩ := H
 replace H : (if t143 = true then ((addr_mask.f a1).bind fun t144 => (some ((Go.bits .and .i64 a2 t144) == a0))) else (some false)) = some r := H
 have A6 := Aside0.mk A60
 clear A60
 by_cases c7 : t143 = true
 rotate_left
 · replace c7 := Bool.eq_false_iff.mpr c7
   subst c7
   have H1 : (some false) = some r := by rw [if_neg (show ¬ (false = true) by decide)] at H; exact H
   clear H
   have H := H1
   clear H1
   obtain rfl := Option.some.inj H
   go_enter Try.func49, Try.ntmps49
   go_wp2_with (first | ((with_reducible refine gate_callee (f := 75) rfl ?_); refine goesL_ (some 9) rfl rfl Try.func75 (by kernel_rfl) rfl #[.int .i64 a0, .int .i64 a1] rfl sqA ?_; (with_reducible refine (addr_Fair.calls _ _ _ _ A4.out).mono ?_); rintro e w' ⟨rfl, ⟨nd, rfl⟩⟩; refine ⟨_, rfl, ?_⟩) | (go_at_call 64; (with_reducible refine (addr_Right.calls _ _ _ A6.out).mono ?_); rintro e w' ⟨rfl, ⟨nd, rfl⟩⟩))
   go_ret
   exact ⟨sqI, sqD⟩
 subst c7
 have H1 : ((addr_mask.f a1).bind fun t144 => (some ((Go.bits .and .i64 a2 t144) == a0))) = some r := by rw [if_pos rfl] at H; exact H
 clear H
 have H := H1
 clear H1
 replace H := Option.bind_eq_some_iff.mp H
 obtain ⟨t144, A80, H⟩ := H
 replace H : (some ((Go.bits .and .i64 a2 t144) == a0)) = some r := H
 have A8 := Aside0.mk A80
 clear A80
 obtain rfl := Option.some.inj H
 go_enter Try.func49, Try.ntmps49
 go_wp2_with (first | ((with_reducible refine gate_callee (f := 75) rfl ?_); refine goesL_ (some 9) rfl rfl Try.func75 (by kernel_rfl) rfl #[.int .i64 a0, .int .i64 a1] rfl sqA ?_; (with_reducible refine (addr_Fair.calls _ _ _ _ A4.out).mono ?_); rintro e w' ⟨rfl, ⟨nd, rfl⟩⟩; refine ⟨_, rfl, ?_⟩) | (go_at_call 64; (with_reducible refine (addr_Right.calls _ _ _ A6.out).mono ?_); rintro e w' ⟨rfl, ⟨nd, rfl⟩⟩) | (go_at_call 76; (with_reducible refine (addr_mask.calls _ _ _ A8.out).mono ?_); rintro e w' ⟨rfl, ⟨nd, rfl⟩⟩))
 go_ret
 exact ⟨sqI, sqD⟩

/-! ### addr_Last: function 85 -/
def addr_Last.f (a0 : Int) (a1 : Int) : Option (Int × Int) := (addr_Fair.f a0 a1).bind fun t145 => (if t145 = true then ((addr_mask.f a1).bind fun t146 => (some (Go.bits .or .i64 a0 (Go.bits .andNot .i64 4294967295 t146), 0))) else (some (0, 1)))
set_option maxHeartbeats 8000000 in
set_option maxRecDepth 100000 in
theorem addr_Last.calls (a0 : Int) (a1 : Int) (r1 : Int) (r2 : Int) (w : World) (h : addr_Last.f a0 a1 = some (r1, r2)) :
    Calls Try.prog 85 #[.int .i64 a0, .int .i64 a1] w fun e w' => e = .returned (.tuple #[.int .i64 r1, .int .i64 r2]) ∧ Drawn0 w w' := by
 have H : ((addr_Fair.f a0 a1).bind fun t145 => (if t145 = true then ((addr_mask.f a1).bind fun t146 => (some (Go.bits .or .i64 a0 (Go.bits .andNot .i64 4294967295 t146), 0))) else (some (0, 1)))) = some (r1, r2) := h
 clear h
 replace H := Option.bind_eq_some_iff.mp H
 obtain ⟨t145, A30, H⟩ := H
 replace H : (if t145 = true then ((addr_mask.f a1).bind fun t146 => (some (Go.bits .or .i64 a0 (Go.bits .andNot .i64 4294967295 t146), 0))) else (some (0, 1))) = some (r1, r2) := H
 have A3 := Aside0.mk A30
 clear A30
 by_cases c4 : t145 = true
 rotate_left
 · replace c4 := Bool.eq_false_iff.mpr c4
   subst c4
   have H1 : (some (0, 1)) = some (r1, r2) := by rw [if_neg (show ¬ (false = true) by decide)] at H; exact H
   clear H
   have H := H1
   clear H1
   simp only [Option.some.injEq, Prod.mk.injEq] at H
   obtain ⟨rfl, rfl⟩ := H
   go_enter Try.func85, Try.ntmps85
   go_wp2_with (first | ((with_reducible refine gate_callee (f := 75) rfl ?_); refine goesL_ (some 8) rfl rfl Try.func75 (by kernel_rfl) rfl #[.int .i64 a0, .int .i64 a1] rfl sqA ?_; (with_reducible refine (addr_Fair.calls _ _ _ _ A3.out).mono ?_); rintro e w' ⟨rfl, ⟨nd, rfl⟩⟩; refine ⟨_, rfl, ?_⟩))
   go_ret2
   exact ⟨sqI, sqD⟩
 subst c4
 have H1 : ((addr_mask.f a1).bind fun t146 => (some (Go.bits .or .i64 a0 (Go.bits .andNot .i64 4294967295 t146), 0))) = some (r1, r2) := by rw [if_pos rfl] at H; exact H
 clear H
 have H := H1
 clear H1
 replace H := Option.bind_eq_some_iff.mp H
 obtain ⟨t146, A50, H⟩ := H
 replace H : (some (Go.bits .or .i64 a0 (Go.bits .andNot .i64 4294967295 t146), 0)) = some (r1, r2) := H
 have A5 := Aside0.mk A50
 clear A50
 simp only [Option.some.injEq, Prod.mk.injEq] at H
 obtain ⟨rfl, rfl⟩ := H
 go_enter Try.func85, Try.ntmps85
 go_wp2_with (first | ((with_reducible refine gate_callee (f := 75) rfl ?_); refine goesL_ (some 8) rfl rfl Try.func75 (by kernel_rfl) rfl #[.int .i64 a0, .int .i64 a1] rfl sqA ?_; (with_reducible refine (addr_Fair.calls _ _ _ _ A3.out).mono ?_); rintro e w' ⟨rfl, ⟨nd, rfl⟩⟩; refine ⟨_, rfl, ?_⟩) | ((with_reducible refine gate_callee (f := 76) rfl ?_); refine goesL_ (some 12) rfl rfl Try.func76 (by kernel_rfl) rfl #[.int .i64 a1] rfl sqA ?_; (with_reducible refine (addr_mask.calls _ _ _ A5.out).mono ?_); rintro e w' ⟨rfl, ⟨nd, rfl⟩⟩; refine ⟨_, rfl, ?_⟩))
 go_ret2
 exact ⟨sqI, sqD⟩

/-! ### conf_inside: function 68 -/
def conf_inside.f (a0_0 : Int) (a0_1 : Int) (l0_2 : List (S62)) (l0_3 : List (S59)) (a0_4 : Int) (a0_5 : Int) (a0_6 : Int) (a1 : Int) : Option (Bool) := (addr_Last.f a0_0 a0_1).bind fun bt148 => (if a1 > a0_0 then (some (decide (a1 < bt148.1))) else (some false))
set_option maxHeartbeats 8000000 in
set_option maxRecDepth 100000 in
theorem conf_inside.calls (a0_0 : Int) (a0_1 : Int) (A0_2 : Option Addr) (c0_2 : Nat) (l0_2 : List (S62)) (A0_3 : Option Addr) (c0_3 : Nat) (l0_3 : List (S59)) (a0_4 : Int) (a0_5 : Int) (a0_6 : Int) (a1 : Int) (r : Bool) (w : World) (hr0_2 : Kd.C k62 w A0_2 l0_2.length l0_2) (hc0_2 : l0_2.length ≤ c0_2) (hr0_3 : Kd.C k59 w A0_3 l0_3.length l0_3) (hc0_3 : l0_3.length ≤ c0_3) (h : conf_inside.f a0_0 a0_1 l0_2 l0_3 a0_4 a0_5 a0_6 a1 = some r) :
    Calls Try.prog 68 #[.agg #[.int .i64 a0_0, .int .i64 a0_1, .slice A0_2 l0_2.length c0_2, .slice A0_3 l0_3.length c0_3, .int .i64 a0_4, .int .i64 a0_5, .int .i64 a0_6], .int .i64 a1] w fun e w' => e = .returned (.bool r) ∧ Below w.heap.size w w' := by
 have hu57 := Try.underlying57
 have HR0_2 := Aside0.mk hr0_2
 have HC0_2 := Aside0.mk hc0_2
 clear hr0_2 hc0_2
 have HR0_3 := Aside0.mk hr0_3
 have HC0_3 := Aside0.mk hc0_3
 clear hr0_3 hc0_3
 have HB := Aside0.mk (Below.refl w.heap.size w)
 have H : ((addr_Last.f a0_0 a0_1).bind fun bt148 => (if a1 > a0_0 then (some (decide (a1 < bt148.1))) else (some false))) = some r := h
 clear h
 replace H := Option.bind_eq_some_iff.mp H
 obtain ⟨⟨t148, t149⟩, A30, H⟩ := H
 replace H : (if a1 > a0_0 then (some (decide (a1 < t148))) else (some false)) = some r := H
 have A3 := Aside0.mk A30
 clear A30
 by_cases c4 : a1 > a0_0
 · rw [if_pos c4] at H
   have c4b0 : decide (a0_0 < a1) = true := decide_eq_true c4
   clear c4
   obtain rfl := Option.some.inj H
   go_enter Try.func68, Try.ntmps68
   go_wp2_with (first | ((with_reducible refine gate_dst (N := 2) rfl ?_); refine box_event rfl (N := 2) rfl (cs := #[.int .i64 a0_0, .int .i64 a0_1, .slice A0_2 l0_2.length c0_2, .slice A0_3 l0_3.length c0_3, .int .i64 a0_4, .int .i64 a0_5, .int .i64 a0_6]) (t := 57) sqs ?_; intro gb147 hg w5 hbox hb; have BK147 := sqM (hbox); have GW147 := sqM (sqZ hg (sqB HB.out)); have GE147 := sqM (sqZ hg (sqB HB.out)); replace HB := sqM (below_step (sqB HB.out) hb); clear hb hbox hg; obtain ⟨hcz6_0, hcz6_1, hcz6_2, hcz6_3, hcz6_4, hcz6_5, hcz6_6, hfz6_0, hfz6_1, hfz6_2, hfz6_3, hfz6_4, hfz6_5, hfz6_6⟩ := sqF7 BK147.out) | ((with_reducible refine gate_callee (f := 85) rfl ?_); refine goesL_ (some 12) rfl rfl Try.func85 (by kernel_rfl) rfl #[.int .i64 a0_0, .int .i64 a0_1] rfl sqA ?_; (with_reducible refine (addr_Last.calls _ _ _ _ _ A3.out).mono ?_); rintro e w' ⟨rfl, ⟨nd, rfl⟩⟩; refine ⟨_, rfl, ?_⟩))
   go_ret
   exact ⟨sqE, sqB1 HB.out GE147.out⟩
 rw [if_neg c4] at H
 have c4b0 : decide (a0_0 < a1) = false := decide_eq_false c4
 clear c4
 obtain rfl := Option.some.inj H
 go_enter Try.func68, Try.ntmps68
 go_wp2_with (first | ((with_reducible refine gate_dst (N := 2) rfl ?_); refine box_event rfl (N := 2) rfl (cs := #[.int .i64 a0_0, .int .i64 a0_1, .slice A0_2 l0_2.length c0_2, .slice A0_3 l0_3.length c0_3, .int .i64 a0_4, .int .i64 a0_5, .int .i64 a0_6]) (t := 57) sqs ?_; intro gb147 hg w7 hbox hb; have BK147 := sqM (hbox); have GW147 := sqM (sqZ hg (sqB HB.out)); have GE147 := sqM (sqZ hg (sqB HB.out)); replace HB := sqM (below_step (sqB HB.out) hb); clear hb hbox hg; obtain ⟨hcz8_0, hcz8_1, hcz8_2, hcz8_3, hcz8_4, hcz8_5, hcz8_6, hfz8_0, hfz8_1, hfz8_2, hfz8_3, hfz8_4, hfz8_5, hfz8_6⟩ := sqF7 BK147.out) | ((with_reducible refine gate_callee (f := 85) rfl ?_); refine goesL_ (some 12) rfl rfl Try.func85 (by kernel_rfl) rfl #[.int .i64 a0_0, .int .i64 a0_1] rfl sqA ?_; (with_reducible refine (addr_Last.calls _ _ _ _ _ A3.out).mono ?_); rintro e w' ⟨rfl, ⟨nd, rfl⟩⟩; refine ⟨_, rfl, ?_⟩))
 go_ret
 exact ⟨sqE, sqB1 HB.out GE147.out⟩

end Go.Proofs.Ytdcabfonjmeajaa.PConf
