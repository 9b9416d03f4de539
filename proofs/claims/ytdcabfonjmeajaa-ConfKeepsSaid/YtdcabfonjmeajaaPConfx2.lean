/- Lean functions for Go functions of the given program, and proofs that the code computes them, each under its theorem's own conditions. Written by a program of this session. -/
import Derived.Test.YtdcabfonjmeajaaPConfx0
import Derived.Test.YtdcabfonjmeajaaPConfx1
namespace Go.Proofs.Ytdcabfonjmeajaa.PConf
open Go.RowKit Go.Proofs.YtdcabfonjmeajaaW.PrintWords Go.Proofs.YtdcabfonjmeajaaW.PrintLast Go.Proofs.YtdcabfonjmeajaaW.PrintMore
attribute [local go_sem] max2_int min2_int max_two min_two max_three min_three max_four min_four   -- for this text's walks alone
set_option linter.unusedVariables false
set_option linter.unusedSimpArgs false

/-! ### conf_fair: function 67 -/
mutual
def conf_fair.j0 : Nat → Bool → Int → Int → List (S62) → List (S59) → Int → Int → Int → Option (Bool)
  | 0, _, _, _, _, _, _, _, _ => none
  | k + 1, x42, x119000, x119001, x119002, x119003, x119004, x119005, x119006 => if x42 = true then (some false) else (conf_fair.l0 k x119002 (x119002.length : Int) 0 x119000 x119001 x119002 x119003 x119004 x119005 x119006)
def conf_fair.l0 : Nat → List (S62) → Int → Int → Int → Int → List (S62) → List (S59) → Int → Int → Int → Option (Bool)
  | 0, _, _, _, _, _, _, _, _, _, _ => none
  | k + 1, x44, x45, x46, x119000, x119001, x119002, x119003, x119004, x119005, x119006 => if x46 < x45 then (if 0 ≤ x46 then (if x46 < (x44.length : Int) then (if ((rd_T62 x44 x46).f0) > ((rd_T62 x44 x46).f1) then (some false) else (conf_fair.l0 k x44 x45 (wrap64 (x46 + 1)) x119000 x119001 x119002 x119003 x119004 x119005 x119006)) else (none)) else (none)) else (conf_fair.l1 k x119003 (x119003.length : Int) 0)
def conf_fair.l1 : Nat → List (S59) → Int → Int → Option (Bool)
  | 0, _, _, _ => none
  | k + 1, x57, x58, x59 => if x59 < x58 then (if 0 ≤ x59 then (if x59 < (x57.length : Int) then ((key_Right.f ((rd_T59 x57 x59).f0)).bind fun t127 => (if t127 = true then (conf_fair.l1 k x57 x58 (wrap64 (x59 + 1))) else (some false))) else (none)) else (none)) else (some true)
end
def conf_fair.f (k : Nat) (a0_0 : Int) (a0_1 : Int) (l0_2 : List (S62)) (l0_3 : List (S59)) (a0_4 : Int) (a0_5 : Int) (a0_6 : Int) : Option (Bool) := (addr_Fair.f a0_0 a0_1).bind fun t119 => (if t119 = true then ((conf_within.f a0_1 8 30).bind fun t120 => (if t120 = true then (if (l0_2.length : Int) > 4 then (conf_fair.j0 k true a0_0 a0_1 l0_2 l0_3 a0_4 a0_5 a0_6) else (if (l0_3.length : Int) > 8 then (conf_fair.j0 k true a0_0 a0_1 l0_2 l0_3 a0_4 a0_5 a0_6) else ((conf_within.f a0_4 0 99).bind fun t121 => (if t121 = true then ((conf_within.f a0_6 1 2147483648).bind fun t122 => (conf_fair.j0 k (!t122) a0_0 a0_1 l0_2 l0_3 a0_4 a0_5 a0_6)) else (conf_fair.j0 k true a0_0 a0_1 l0_2 l0_3 a0_4 a0_5 a0_6))))) else (conf_fair.j0 k true a0_0 a0_1 l0_2 l0_3 a0_4 a0_5 a0_6))) else (conf_fair.j0 k true a0_0 a0_1 l0_2 l0_3 a0_4 a0_5 a0_6))
theorem conf_fair.mono_l : ∀ k, (∀ y0 y1 y2 y3 y4 y5 y6 y7, LeO (conf_fair.j0 k y0 y1 y2 y3 y4 y5 y6 y7) (conf_fair.j0 (k + 1) y0 y1 y2 y3 y4 y5 y6 y7)) ∧ (∀ y0 y1 y2 y3 y4 y5 y6 y7 y8 y9, LeO (conf_fair.l0 k y0 y1 y2 y3 y4 y5 y6 y7 y8 y9) (conf_fair.l0 (k + 1) y0 y1 y2 y3 y4 y5 y6 y7 y8 y9)) ∧ (∀ y0 y1 y2, LeO (conf_fair.l1 k y0 y1 y2) (conf_fair.l1 (k + 1) y0 y1 y2))
  | 0 => ⟨fun _ _ _ _ _ _ _ _ r h => by simp [conf_fair.j0] at h, fun _ _ _ _ _ _ _ _ _ _ r h => by simp [conf_fair.l0] at h, fun _ _ _ r h => by simp [conf_fair.l1] at h⟩
  | k + 1 => by
    obtain ⟨ih0, ih1, ih2⟩ := conf_fair.mono_l k
    refine ⟨?_, ?_, ?_⟩
    · intro y0 y1 y2 y3 y4 y5 y6 y7
      unfold conf_fair.j0
      repeat' first
      | (with_reducible exact ih0 _ _ _ _ _ _ _ _)
      | (with_reducible exact ih1 _ _ _ _ _ _ _ _ _ _)
      | (with_reducible exact ih2 _ _ _)
      | (with_reducible exact LeO.refl _)
      | (with_reducible exact LeO.none _)
      | (with_reducible refine LeO.ite ?_ ?_)
      | (with_reducible refine LeO.bind ?_ (fun _ => ?_))
    · intro y0 y1 y2 y3 y4 y5 y6 y7 y8 y9
      unfold conf_fair.l0
      repeat' first
      | (with_reducible exact ih0 _ _ _ _ _ _ _ _)
      | (with_reducible exact ih1 _ _ _ _ _ _ _ _ _ _)
      | (with_reducible exact ih2 _ _ _)
      | (with_reducible exact LeO.refl _)
      | (with_reducible exact LeO.none _)
      | (with_reducible refine LeO.ite ?_ ?_)
      | (with_reducible refine LeO.bind ?_ (fun _ => ?_))
    · intro y0 y1 y2
      unfold conf_fair.l1
      repeat' first
      | (with_reducible exact ih0 _ _ _ _ _ _ _ _)
      | (with_reducible exact ih1 _ _ _ _ _ _ _ _ _ _)
      | (with_reducible exact ih2 _ _ _)
      | (with_reducible exact LeO.refl _)
      | (with_reducible exact LeO.none _)
      | (with_reducible refine LeO.ite ?_ ?_)
      | (with_reducible refine LeO.bind ?_ (fun _ => ?_))
theorem conf_fair.mono : ∀ a0 a1 a2 a3 a4 a5 a6 k, LeO (conf_fair.f k a0 a1 a2 a3 a4 a5 a6) (conf_fair.f (k + 1) a0 a1 a2 a3 a4 a5 a6) := by
 intro a0 a1 a2 a3 a4 a5 a6 k
 obtain ⟨ih0, ih1, ih2⟩ := conf_fair.mono_l k
 unfold conf_fair.f
 repeat' first
  | (with_reducible exact ih0 _ _ _ _ _ _ _ _)
  | (with_reducible exact ih1 _ _ _ _ _ _ _ _ _ _)
  | (with_reducible exact ih2 _ _ _)
  | (with_reducible exact LeO.refl _)
  | (with_reducible exact LeO.none _)
  | (with_reducible refine LeO.ite ?_ ?_)
  | (with_reducible refine LeO.bind ?_ (fun _ => ?_))
set_option maxHeartbeats 8000000 in
set_option maxRecDepth 100000 in
theorem conf_fair.calls (k : Nat) (a0_0 : Int) (a0_1 : Int) (A0_2 : Option Addr) (c0_2 : Nat) (l0_2 : List (S62)) (A0_3 : Option Addr) (c0_3 : Nat) (l0_3 : List (S59)) (a0_4 : Int) (a0_5 : Int) (a0_6 : Int) (r : Bool) (w : World) (hr0_2 : Kd.C k62 w A0_2 l0_2.length l0_2) (hc0_2 : l0_2.length ≤ c0_2) (hr0_3 : Kd.C k59 w A0_3 l0_3.length l0_3) (hc0_3 : l0_3.length ≤ c0_3) (h : conf_fair.f k a0_0 a0_1 l0_2 l0_3 a0_4 a0_5 a0_6 = some r) :
    Calls Try.prog 67 #[.agg #[.int .i64 a0_0, .int .i64 a0_1, .slice A0_2 l0_2.length c0_2, .slice A0_3 l0_3.length c0_3, .int .i64 a0_4, .int .i64 a0_5, .int .i64 a0_6]] w fun e w' => e = .returned (.bool r) ∧ Below w.heap.size w w' := by
 have hu57 := Try.underlying57
 have hu62 := Try.underlying62
 have hu59 := Try.underlying59
 have HR0_2 := Aside0.mk hr0_2
 have HC0_2 := Aside0.mk hc0_2
 clear hr0_2 hc0_2
 have HR0_3 := Aside0.mk hr0_3
 have HC0_3 := Aside0.mk hc0_3
 clear hr0_3 hc0_3
 have HB := Aside0.mk (Below.refl w.heap.size w)
 have H : ((addr_Fair.f a0_0 a0_1).bind fun t119 => (if t119 = true then ((conf_within.f a0_1 8 30).bind fun t120 => (if t120 = true then (if (l0_2.length : Int) > 4 then (conf_fair.j0 k true a0_0 a0_1 l0_2 l0_3 a0_4 a0_5 a0_6) else (if (l0_3.length : Int) > 8 then (conf_fair.j0 k true a0_0 a0_1 l0_2 l0_3 a0_4 a0_5 a0_6) else ((conf_within.f a0_4 0 99).bind fun t121 => (if t121 = true then ((conf_within.f a0_6 1 2147483648).bind fun t122 => (conf_fair.j0 k (!t122) a0_0 a0_1 l0_2 l0_3 a0_4 a0_5 a0_6)) else (conf_fair.j0 k true a0_0 a0_1 l0_2 l0_3 a0_4 a0_5 a0_6))))) else (conf_fair.j0 k true a0_0 a0_1 l0_2 l0_3 a0_4 a0_5 a0_6))) else (conf_fair.j0 k true a0_0 a0_1 l0_2 l0_3 a0_4 a0_5 a0_6))) = some r := h
 clear h
 have HC2 := Aside0.mk H
 clear H
 go_enter Try.func67, Try.ntmps67
 go_upto_region 1 with (first | ((with_reducible refine gate_dst (N := 1) rfl ?_); (try (refine gate_guard (by rfl) ?_; dsimp only)); refine box_event rfl (N := 1) rfl (cs := #[.int .i64 a0_0, .int .i64 a0_1, .slice A0_2 l0_2.length c0_2, .slice A0_3 l0_3.length c0_3, .int .i64 a0_4, .int .i64 a0_5, .int .i64 a0_6]) (t := 57) sqs ?_; intro gb118 hg w3 hbox hb; have BK118 := sqM (hbox); have GW118 := sqM (sqZ hg (sqB HB.out)); have GE118 := sqM (sqZ hg (sqB HB.out)); replace HB := sqM (below_step (sqB HB.out) hb); clear hb hbox hg))
 (try simp only [Act.put, List.setIfInBounds_toArray, List.set_cons_zero, List.set_cons_succ])
 go_cut [42] (fun v42 wc => ∃ (kq : Nat) (x42_1 : Bool), v42 = .bool x42_1 ∧ Aside0 (conf_fair.j0 kq x42_1 a0_0 a0_1 l0_2 l0_3 a0_4 a0_5 a0_6 = some r) ∧ Aside0 (kq ≤ k) ∧ Aside0 (wc.heap[gb118]? = some (.cells #[.int .i64 a0_0, .int .i64 a0_1, (.slice A0_2 l0_2.length c0_2), (.slice A0_3 l0_3.length c0_3), .int .i64 a0_4, .int .i64 a0_5, .int .i64 a0_6] 57 (0, 0))) ∧ Aside0 (Below w.heap.size w wc))
 case first =>
  have H := HC2.out
  clear HC2
  replace H := Option.bind_eq_some_iff.mp H
  obtain ⟨t119, A40, H⟩ := H
  replace H : (if t119 = true then ((conf_within.f a0_1 8 30).bind fun t120 => (if t120 = true then (if (l0_2.length : Int) > 4 then (conf_fair.j0 k true a0_0 a0_1 l0_2 l0_3 a0_4 a0_5 a0_6) else (if (l0_3.length : Int) > 8 then (conf_fair.j0 k true a0_0 a0_1 l0_2 l0_3 a0_4 a0_5 a0_6) else ((conf_within.f a0_4 0 99).bind fun t121 => (if t121 = true then ((conf_within.f a0_6 1 2147483648).bind fun t122 => (conf_fair.j0 k (!t122) a0_0 a0_1 l0_2 l0_3 a0_4 a0_5 a0_6)) else (conf_fair.j0 k true a0_0 a0_1 l0_2 l0_3 a0_4 a0_5 a0_6))))) else (conf_fair.j0 k true a0_0 a0_1 l0_2 l0_3 a0_4 a0_5 a0_6))) else (conf_fair.j0 k true a0_0 a0_1 l0_2 l0_3 a0_4 a0_5 a0_6)) = some r := H
  have A4 := Aside0.mk A40
  clear A40
  by_cases c5 : t119 = true
  rotate_left
  · replace c5 := Bool.eq_false_iff.mpr c5
    subst c5
    have H1 : (conf_fair.j0 k true a0_0 a0_1 l0_2 l0_3 a0_4 a0_5 a0_6) = some r := by rw [if_neg (show ¬ (false = true) by decide)] at H; exact H
    clear H
    have H := H1
    clear H1
    have H' := Aside0.mk H
    clear H
    obtain ⟨hcz18_0, hcz18_1, hcz18_2, hcz18_3, hcz18_4, hcz18_5, hcz18_6, hfz18_0, hfz18_1, hfz18_2, hfz18_3, hfz18_4, hfz18_5, hfz18_6⟩ := sqF7 BK118.out
    go_wp2_with (first | ((with_reducible refine gate_callee (f := 75) rfl ?_); refine goesL_ (some 11) rfl rfl Try.func75 (by kernel_rfl) rfl #[.int .i64 a0_0, .int .i64 a0_1] rfl sqA ?_; (with_reducible refine (addr_Fair.calls _ _ _ _ A4.out).mono ?_); rintro e w' ⟨rfl, ⟨nd, rfl⟩⟩; refine ⟨_, rfl, ?_⟩))
    go_meet
    case rel => exact ⟨_, (true), sqI, H', ⟨by first | omega | exact Nat.le_refl _⟩, ⟨sqK BK118.out⟩, ⟨sqB1 HB.out GE118.out⟩⟩
  subst c5
  have H1 : ((conf_within.f a0_1 8 30).bind fun t120 => (if t120 = true then (if (l0_2.length : Int) > 4 then (conf_fair.j0 k true a0_0 a0_1 l0_2 l0_3 a0_4 a0_5 a0_6) else (if (l0_3.length : Int) > 8 then (conf_fair.j0 k true a0_0 a0_1 l0_2 l0_3 a0_4 a0_5 a0_6) else ((conf_within.f a0_4 0 99).bind fun t121 => (if t121 = true then ((conf_within.f a0_6 1 2147483648).bind fun t122 => (conf_fair.j0 k (!t122) a0_0 a0_1 l0_2 l0_3 a0_4 a0_5 a0_6)) else (conf_fair.j0 k true a0_0 a0_1 l0_2 l0_3 a0_4 a0_5 a0_6))))) else (conf_fair.j0 k true a0_0 a0_1 l0_2 l0_3 a0_4 a0_5 a0_6))) = some r := by rw [if_pos rfl] at H; exact H
  clear H
  have H := H1
  clear H1
  replace H := Option.bind_eq_some_iff.mp H
  obtain ⟨t120, A60, H⟩ := H
  replace H : (if t120 = true then (if (l0_2.length : Int) > 4 then (conf_fair.j0 k true a0_0 a0_1 l0_2 l0_3 a0_4 a0_5 a0_6) else (if (l0_3.length : Int) > 8 then (conf_fair.j0 k true a0_0 a0_1 l0_2 l0_3 a0_4 a0_5 a0_6) else ((conf_within.f a0_4 0 99).bind fun t121 => (if t121 = true then ((conf_within.f a0_6 1 2147483648).bind fun t122 => (conf_fair.j0 k (!t122) a0_0 a0_1 l0_2 l0_3 a0_4 a0_5 a0_6)) else (conf_fair.j0 k true a0_0 a0_1 l0_2 l0_3 a0_4 a0_5 a0_6))))) else (conf_fair.j0 k true a0_0 a0_1 l0_2 l0_3 a0_4 a0_5 a0_6)) = some r := H
  have A6 := Aside0.mk A60
  clear A60
  by_cases c7 : t120 = true
  rotate_left
  · replace c7 := Bool.eq_false_iff.mpr c7
    subst c7
    have H1 : (conf_fair.j0 k true a0_0 a0_1 l0_2 l0_3 a0_4 a0_5 a0_6) = some r := by rw [if_neg (show ¬ (false = true) by decide)] at H; exact H
    clear H
    have H := H1
    clear H1
    have H' := Aside0.mk H
    clear H
    obtain ⟨hcz17_0, hcz17_1, hcz17_2, hcz17_3, hcz17_4, hcz17_5, hcz17_6, hfz17_0, hfz17_1, hfz17_2, hfz17_3, hfz17_4, hfz17_5, hfz17_6⟩ := sqF7 BK118.out
    go_wp2_with (first | ((with_reducible refine gate_callee (f := 75) rfl ?_); refine goesL_ (some 11) rfl rfl Try.func75 (by kernel_rfl) rfl #[.int .i64 a0_0, .int .i64 a0_1] rfl sqA ?_; (with_reducible refine (addr_Fair.calls _ _ _ _ A4.out).mono ?_); rintro e w' ⟨rfl, ⟨nd, rfl⟩⟩; refine ⟨_, rfl, ?_⟩) | (go_at_call 65; (with_reducible refine (conf_within.calls _ _ _ _ _ A6.out).mono ?_); rintro e w' ⟨rfl, ⟨nd, rfl⟩⟩))
    go_meet
    case rel => exact ⟨_, (true), sqI, H', ⟨by first | omega | exact Nat.le_refl _⟩, ⟨sqK BK118.out⟩, ⟨sqB1 HB.out GE118.out⟩⟩
  subst c7
  have H1 : (if (l0_2.length : Int) > 4 then (conf_fair.j0 k true a0_0 a0_1 l0_2 l0_3 a0_4 a0_5 a0_6) else (if (l0_3.length : Int) > 8 then (conf_fair.j0 k true a0_0 a0_1 l0_2 l0_3 a0_4 a0_5 a0_6) else ((conf_within.f a0_4 0 99).bind fun t121 => (if t121 = true then ((conf_within.f a0_6 1 2147483648).bind fun t122 => (conf_fair.j0 k (!t122) a0_0 a0_1 l0_2 l0_3 a0_4 a0_5 a0_6)) else (conf_fair.j0 k true a0_0 a0_1 l0_2 l0_3 a0_4 a0_5 a0_6))))) = some r := by rw [if_pos rfl] at H; exact H
  clear H
  have H := H1
  clear H1
  by_cases c8 : (l0_2.length : Int) > 4
  · rw [if_pos c8] at H
    have c8b0 : decide (4 < (l0_2.length : Int)) = true := decide_eq_true c8
    have c8b1 : decide (4 < l0_2.length) = true := decide_eq_true (by omega)
    clear c8
    (first | rw [c8b0] | (simp only [i64_w, i32_w]; rw [c8b0]) | skip)
    have H' := Aside0.mk H
    clear H
    obtain ⟨hcz9_0, hcz9_1, hcz9_2, hcz9_3, hcz9_4, hcz9_5, hcz9_6, hfz9_0, hfz9_1, hfz9_2, hfz9_3, hfz9_4, hfz9_5, hfz9_6⟩ := sqF7 BK118.out
    go_wp2_with (first | ((with_reducible refine gate_callee (f := 75) rfl ?_); refine goesL_ (some 11) rfl rfl Try.func75 (by kernel_rfl) rfl #[.int .i64 a0_0, .int .i64 a0_1] rfl sqA ?_; (with_reducible refine (addr_Fair.calls _ _ _ _ A4.out).mono ?_); rintro e w' ⟨rfl, ⟨nd, rfl⟩⟩; refine ⟨_, rfl, ?_⟩) | (go_at_call 65; (with_reducible refine (conf_within.calls _ _ _ _ _ A6.out).mono ?_); rintro e w' ⟨rfl, ⟨nd, rfl⟩⟩))
    go_meet
    case rel => exact ⟨_, (true), sqI, H', ⟨by first | omega | exact Nat.le_refl _⟩, ⟨sqK BK118.out⟩, ⟨sqB1 HB.out GE118.out⟩⟩
  rw [if_neg c8] at H
  have c8b0 : decide (4 < (l0_2.length : Int)) = false := decide_eq_false c8
  have c8b1 : decide (4 < l0_2.length) = false := decide_eq_false (by omega)
  clear c8
  (first | rw [c8b0] | (simp only [i64_w, i32_w]; rw [c8b0]) | skip)
  by_cases c10 : (l0_3.length : Int) > 8
  · rw [if_pos c10] at H
    have c10b0 : decide (8 < (l0_3.length : Int)) = true := decide_eq_true c10
    have c10b1 : decide (8 < l0_3.length) = true := decide_eq_true (by omega)
    clear c10
    have H' := Aside0.mk H
    clear H
    obtain ⟨hcz11_0, hcz11_1, hcz11_2, hcz11_3, hcz11_4, hcz11_5, hcz11_6, hfz11_0, hfz11_1, hfz11_2, hfz11_3, hfz11_4, hfz11_5, hfz11_6⟩ := sqF7 BK118.out
    go_wp2_with (first | ((with_reducible refine gate_callee (f := 75) rfl ?_); refine goesL_ (some 11) rfl rfl Try.func75 (by kernel_rfl) rfl #[.int .i64 a0_0, .int .i64 a0_1] rfl sqA ?_; (with_reducible refine (addr_Fair.calls _ _ _ _ A4.out).mono ?_); rintro e w' ⟨rfl, ⟨nd, rfl⟩⟩; refine ⟨_, rfl, ?_⟩) | (go_at_call 65; (with_reducible refine (conf_within.calls _ _ _ _ _ A6.out).mono ?_); rintro e w' ⟨rfl, ⟨nd, rfl⟩⟩))
    go_meet
    case rel => exact ⟨_, (true), sqI, H', ⟨by first | omega | exact Nat.le_refl _⟩, ⟨sqK BK118.out⟩, ⟨sqB1 HB.out GE118.out⟩⟩
  rw [if_neg c10] at H
  have c10b0 : decide (8 < (l0_3.length : Int)) = false := decide_eq_false c10
  have c10b1 : decide (8 < l0_3.length) = false := decide_eq_false (by omega)
  clear c10
  replace H := Option.bind_eq_some_iff.mp H
  obtain ⟨t121, A120, H⟩ := H
  replace H : (if t121 = true then ((conf_within.f a0_6 1 2147483648).bind fun t122 => (conf_fair.j0 k (!t122) a0_0 a0_1 l0_2 l0_3 a0_4 a0_5 a0_6)) else (conf_fair.j0 k true a0_0 a0_1 l0_2 l0_3 a0_4 a0_5 a0_6)) = some r := H
  have A12 := Aside0.mk A120
  clear A120
  by_cases c13 : t121 = true
  rotate_left
  · replace c13 := Bool.eq_false_iff.mpr c13
    subst c13
    have H1 : (conf_fair.j0 k true a0_0 a0_1 l0_2 l0_3 a0_4 a0_5 a0_6) = some r := by rw [if_neg (show ¬ (false = true) by decide)] at H; exact H
    clear H
    have H := H1
    clear H1
    have H' := Aside0.mk H
    clear H
    obtain ⟨hcz16_0, hcz16_1, hcz16_2, hcz16_3, hcz16_4, hcz16_5, hcz16_6, hfz16_0, hfz16_1, hfz16_2, hfz16_3, hfz16_4, hfz16_5, hfz16_6⟩ := sqF7 BK118.out
    go_wp2_with (first | ((with_reducible refine gate_callee (f := 75) rfl ?_); refine goesL_ (some 11) rfl rfl Try.func75 (by kernel_rfl) rfl #[.int .i64 a0_0, .int .i64 a0_1] rfl sqA ?_; (with_reducible refine (addr_Fair.calls _ _ _ _ A4.out).mono ?_); rintro e w' ⟨rfl, ⟨nd, rfl⟩⟩; refine ⟨_, rfl, ?_⟩) | (go_at_call 65; (with_reducible refine (conf_within.calls _ _ _ _ _ A6.out).mono ?_); rintro e w' ⟨rfl, ⟨nd, rfl⟩⟩) | (go_at_call 65; (with_reducible refine (conf_within.calls _ _ _ _ _ A12.out).mono ?_); rintro e w' ⟨rfl, ⟨nd, rfl⟩⟩))
    go_meet
    case rel => exact ⟨_, (true), sqI, H', ⟨by first | omega | exact Nat.le_refl _⟩, ⟨sqK BK118.out⟩, ⟨sqB1 HB.out GE118.out⟩⟩
  subst c13
  have H1 : ((conf_within.f a0_6 1 2147483648).bind fun t122 => (conf_fair.j0 k (!t122) a0_0 a0_1 l0_2 l0_3 a0_4 a0_5 a0_6)) = some r := by rw [if_pos rfl] at H; exact H
  clear H
  have H := H1
  clear H1
  replace H := Option.bind_eq_some_iff.mp H
  obtain ⟨t122, A140, H⟩ := H
  replace H : (conf_fair.j0 k (!t122) a0_0 a0_1 l0_2 l0_3 a0_4 a0_5 a0_6) = some r := H
  have A14 := Aside0.mk A140
  clear A140
  have H' := Aside0.mk H
  clear H
  obtain ⟨hcz15_0, hcz15_1, hcz15_2, hcz15_3, hcz15_4, hcz15_5, hcz15_6, hfz15_0, hfz15_1, hfz15_2, hfz15_3, hfz15_4, hfz15_5, hfz15_6⟩ := sqF7 BK118.out
  go_wp2_with (first | ((with_reducible refine gate_callee (f := 75) rfl ?_); refine goesL_ (some 11) rfl rfl Try.func75 (by kernel_rfl) rfl #[.int .i64 a0_0, .int .i64 a0_1] rfl sqA ?_; (with_reducible refine (addr_Fair.calls _ _ _ _ A4.out).mono ?_); rintro e w' ⟨rfl, ⟨nd, rfl⟩⟩; refine ⟨_, rfl, ?_⟩) | (go_at_call 65; (with_reducible refine (conf_within.calls _ _ _ _ _ A6.out).mono ?_); rintro e w' ⟨rfl, ⟨nd, rfl⟩⟩) | (go_at_call 65; (with_reducible refine (conf_within.calls _ _ _ _ _ A12.out).mono ?_); rintro e w' ⟨rfl, ⟨nd, rfl⟩⟩) | (go_at_call 65; (with_reducible refine (conf_within.calls _ _ _ _ _ A14.out).mono ?_); rintro e w' ⟨rfl, ⟨nd, rfl⟩⟩))
  go_meet
  case rel => exact ⟨_, (!t122), sqI, H', ⟨by first | omega | exact Nat.le_refl _⟩, ⟨sqK BK118.out⟩, ⟨sqB1 HB.out GE118.out⟩⟩
 clear HC2
 try clear c1
 try clear p2
 try clear c5
 try clear c6
 try clear c7
 try clear c8
 try clear c8b0
 try clear c8b1
 try clear c10
 try clear c10b0
 try clear c10b1
 try clear c13
 try clear hcz11_0 hcz11_1 hcz11_2 hcz11_3 hcz11_4 hcz11_5 hcz11_6
 try clear hcz15_0 hcz15_1 hcz15_2 hcz15_3 hcz15_4 hcz15_5 hcz15_6
 try clear hcz16_0 hcz16_1 hcz16_2 hcz16_3 hcz16_4 hcz16_5 hcz16_6
 try clear hcz17_0 hcz17_1 hcz17_2 hcz17_3 hcz17_4 hcz17_5 hcz17_6
 try clear hcz18_0 hcz18_1 hcz18_2 hcz18_3 hcz18_4 hcz18_5 hcz18_6
 try clear hcz9_0 hcz9_1 hcz9_2 hcz9_3 hcz9_4 hcz9_5 hcz9_6
 try clear hfz11_0 hfz11_1 hfz11_2 hfz11_3 hfz11_4 hfz11_5 hfz11_6
 try clear hfz15_0 hfz15_1 hfz15_2 hfz15_3 hfz15_4 hfz15_5 hfz15_6
 try clear hfz16_0 hfz16_1 hfz16_2 hfz16_3 hfz16_4 hfz16_5 hfz16_6
 try clear hfz17_0 hfz17_1 hfz17_2 hfz17_3 hfz17_4 hfz17_5 hfz17_6
 try clear hfz18_0 hfz18_1 hfz18_2 hfz18_3 hfz18_4 hfz18_5 hfz18_6
 try clear hfz9_0 hfz9_1 hfz9_2 hfz9_3 hfz9_4 hfz9_5 hfz9_6
 obtain ⟨kq, x42_1, rfl, HA, HJ1, BK118, HB⟩ := hcut
 cases kq with
 | zero => exact absurd HA.out (by simp [conf_fair.j0])
 | succ kj1 => ?_
 have H := HA.out
 clear HA
 simp only [conf_fair.j0] at H
 by_cases c19 : x42_1 = true
 · subst c19
   have H1 : (some false) = some r := by rw [if_pos rfl] at H; exact H
   clear H
   have H := H1
   clear H1
   obtain rfl := Option.some.inj H
   go_wp2
   go_ret
   exact ⟨sqE, sqB1 HB.out GE118.out⟩
 replace c19 := Bool.eq_false_iff.mpr c19
 subst c19
 have H1 : (conf_fair.l0 kj1 l0_2 (l0_2.length : Int) 0 a0_0 a0_1 l0_2 l0_3 a0_4 a0_5 a0_6) = some r := by rw [if_neg (show ¬ (false = true) by decide)] at H; exact H
 clear H
 have H := H1
 clear H1
 have H' := Aside0.mk H
 clear H
 obtain ⟨hcz20_0, hcz20_1, hcz20_2, hcz20_3, hcz20_4, hcz20_5, hcz20_6, hfz20_0, hfz20_1, hfz20_2, hfz20_3, hfz20_4, hfz20_5, hfz20_6⟩ := sqF7 BK118.out
 go_wp2
 go_loopg [46] kj1 (fun kq v46 w' => ∃ (x46_2 : Int), v46 = .int .i64 x46_2 ∧ Aside0 (conf_fair.l0 kq l0_2 (l0_2.length : Int) x46_2 a0_0 a0_1 l0_2 l0_3 a0_4 a0_5 a0_6 = some r) ∧ Aside0 (kq ≤ kj1) ∧ Aside0 (w'.heap[gb118]? = some (.cells #[.int .i64 a0_0, .int .i64 a0_1, (.slice A0_2 l0_2.length c0_2), (.slice A0_3 l0_3.length c0_3), .int .i64 a0_4, .int .i64 a0_5, .int .i64 a0_6] 57 (0, 0))) ∧ Aside0 (Below w.heap.size w w'))
 case atStart => exact ⟨(0), sqI, H', ⟨Nat.le_refl _⟩, ⟨sqK BK118.out⟩, ⟨sqB1 HB.out GE118.out⟩⟩
 clear H'
 try clear c1
 try clear p2
 try clear c5
 try clear c6
 try clear c7
 try clear c8
 try clear c8b0
 try clear c8b1
 try clear c10
 try clear c10b0
 try clear c10b1
 try clear c13
 try clear c19
 try clear hcz11_0 hcz11_1 hcz11_2 hcz11_3 hcz11_4 hcz11_5 hcz11_6
 try clear hcz15_0 hcz15_1 hcz15_2 hcz15_3 hcz15_4 hcz15_5 hcz15_6
 try clear hcz16_0 hcz16_1 hcz16_2 hcz16_3 hcz16_4 hcz16_5 hcz16_6
 try clear hcz17_0 hcz17_1 hcz17_2 hcz17_3 hcz17_4 hcz17_5 hcz17_6
 try clear hcz18_0 hcz18_1 hcz18_2 hcz18_3 hcz18_4 hcz18_5 hcz18_6
 try clear hcz20_0 hcz20_1 hcz20_2 hcz20_3 hcz20_4 hcz20_5 hcz20_6
 try clear hcz9_0 hcz9_1 hcz9_2 hcz9_3 hcz9_4 hcz9_5 hcz9_6
 try clear hfz11_0 hfz11_1 hfz11_2 hfz11_3 hfz11_4 hfz11_5 hfz11_6
 try clear hfz15_0 hfz15_1 hfz15_2 hfz15_3 hfz15_4 hfz15_5 hfz15_6
 try clear hfz16_0 hfz16_1 hfz16_2 hfz16_3 hfz16_4 hfz16_5 hfz16_6
 try clear hfz17_0 hfz17_1 hfz17_2 hfz17_3 hfz17_4 hfz17_5 hfz17_6
 try clear hfz18_0 hfz18_1 hfz18_2 hfz18_3 hfz18_4 hfz18_5 hfz18_6
 try clear hfz20_0 hfz20_1 hfz20_2 hfz20_3 hfz20_4 hfz20_5 hfz20_6
 try clear hfz9_0 hfz9_1 hfz9_2 hfz9_3 hfz9_4 hfz9_5 hfz9_6
 try clear p2
 obtain ⟨x46_2, rfl, HA, HK2, BK118, HB⟩ := hrel
 cases gk with
 | zero => exact absurd HA.out (by simp [conf_fair.l0])
 | succ k2 => ?_
 have H := HA.out
 clear HA
 simp only [conf_fair.l0] at H
 by_cases c21 : x46_2 < (l0_2.length : Int)
 · rw [if_pos c21] at H
   have c21b0 : decide (x46_2 < (l0_2.length : Int)) = true := decide_eq_true c21
   clear c21
   by_cases c22 : 0 ≤ x46_2
   rotate_left
   · rw [if_neg c22] at H
     exact absurd H (by simp)
   rw [if_pos c22] at H
   have c22b0 : decide (0 ≤ x46_2) = true := decide_eq_true c22
   clear c22
   by_cases c23 : x46_2 < (l0_2.length : Int)
   rotate_left
   · rw [if_neg c23] at H
     exact absurd H (by simp)
   rw [if_pos c23] at H
   have c23b0 : decide (x46_2 < (l0_2.length : Int)) = true := decide_eq_true c23
   clear c23
   by_cases c24 : ((rd_T62 l0_2 x46_2).f0) > ((rd_T62 l0_2 x46_2).f1)
   · rw [if_pos c24] at H
     have c24b0 : decide (((rd_T62 l0_2 x46_2).f1) < ((rd_T62 l0_2 x46_2).f0)) = true := decide_eq_true c24
     clear c24
     obtain rfl := Option.some.inj H
     have p123 : 0 ≤ (x46_2 : Int) := of_decide_eq_true sqH
     have q123 : x46_2 < (l0_2.length : Int) := of_decide_eq_true sqH
     obtain ⟨ad123, e123, hx123_0, hx123_1⟩ := at_T62 HR0_2.out x46_2 p123 q123
     cases e123
     replace hx123_0 := sqx HB.out hx123_0
     replace hx123_1 := sqx HB.out hx123_1
     replace p123 := eq_true p123
     replace q123 := eq_true q123
     go_wp2_with (first | ((with_reducible refine gate_dst (N := 4) rfl ?_); (try (refine gate_guard (by rfl) ?_; dsimp only)); refine box_event rfl (N := 4) rfl (cs := #[.int .i64 0, .int .i64 0]) (t := 62) sqs ?_; intro gb124 hg w25 hbox hb; have BK124 := sqM (hbox); have GW124 := sqM (sqZ hg (sqB1 HB.out GE118.out)); have GE124 := sqM (sqZ hg (sqB1 HB.out GE118.out)); have NB118_124 := sqM (sqL hg (sqK BK118.out)); have NB124_118 := sqM (sqG hg (sqK BK118.out)); replace BK118 := sqM (blk_below (sqK BK118.out) hb); replace HB := sqM (below_step (sqB1 HB.out GE118.out) hb); clear hb hbox hg; have hnb26 := NB124_118.out; have hnc26 := NB118_124.out; obtain ⟨hcz27_0, hcz27_1, hfz27_0, hfz27_1⟩ := sqF2 BK124.out))
     go_ret
     exact ⟨sqE, sqB2 HB.out GE118.out GE124.out⟩
   rw [if_neg c24] at H
   have c24b0 : decide (((rd_T62 l0_2 x46_2).f1) < ((rd_T62 l0_2 x46_2).f0)) = false := decide_eq_false c24
   clear c24
   have H' := Aside0.mk H
   clear H
   have p123 : 0 ≤ (x46_2 : Int) := of_decide_eq_true sqH
   have q123 : x46_2 < (l0_2.length : Int) := of_decide_eq_true sqH
   obtain ⟨ad123, e123, hx123_0, hx123_1⟩ := at_T62 HR0_2.out x46_2 p123 q123
   cases e123
   replace hx123_0 := sqx HB.out hx123_0
   replace hx123_1 := sqx HB.out hx123_1
   replace p123 := eq_true p123
   replace q123 := eq_true q123
   go_wp2_with (first | ((with_reducible refine gate_dst (N := 4) rfl ?_); (try (refine gate_guard (by rfl) ?_; dsimp only)); refine box_event rfl (N := 4) rfl (cs := #[.int .i64 0, .int .i64 0]) (t := 62) sqs ?_; intro gb124 hg w28 hbox hb; have BK124 := sqM (hbox); have GW124 := sqM (sqZ hg (sqB1 HB.out GE118.out)); have GE124 := sqM (sqZ hg (sqB1 HB.out GE118.out)); have NB118_124 := sqM (sqL hg (sqK BK118.out)); have NB124_118 := sqM (sqG hg (sqK BK118.out)); replace BK118 := sqM (blk_below (sqK BK118.out) hb); replace HB := sqM (below_step (sqB1 HB.out GE118.out) hb); clear hb hbox hg; have hnb29 := NB124_118.out; have hnc29 := NB118_124.out; obtain ⟨hcz30_0, hcz30_1, hfz30_0, hfz30_1⟩ := sqF2 BK124.out))
   go_roundg k2
   case measure => have := HJ1.out; have := HK2.out; omega
   case rel => exact ⟨(wrap64 (x46_2 + 1)), sqI, H', ⟨by have := HJ1.out; have := HK2.out; omega⟩, ⟨(sqK (sqX2 BK118.out NB118_124.out))⟩, ⟨sqB2 HB.out GE118.out GE124.out⟩⟩
 rw [if_neg c21] at H
 have c21b0 : decide (x46_2 < (l0_2.length : Int)) = false := decide_eq_false c21
 clear c21
 have H' := Aside0.mk H
 clear H
 obtain ⟨hcz31_0, hcz31_1, hcz31_2, hcz31_3, hcz31_4, hcz31_5, hcz31_6, hfz31_0, hfz31_1, hfz31_2, hfz31_3, hfz31_4, hfz31_5, hfz31_6⟩ := sqF7 BK118.out
 go_wp2
 go_loopg [59] k2 (fun kq v59 w' => ∃ (x59_3 : Int), v59 = .int .i64 x59_3 ∧ Aside0 (conf_fair.l1 kq l0_3 (l0_3.length : Int) x59_3 = some r) ∧ Aside0 (kq ≤ k2) ∧ Aside0 (w'.heap[gb118]? = some (.cells #[.int .i64 a0_0, .int .i64 a0_1, (.slice A0_2 l0_2.length c0_2), (.slice A0_3 l0_3.length c0_3), .int .i64 a0_4, .int .i64 a0_5, .int .i64 a0_6] 57 (0, 0))) ∧ Aside0 (Below w.heap.size w w'))
 case atStart => exact ⟨(0), sqI, H', ⟨Nat.le_refl _⟩, ⟨sqK BK118.out⟩, ⟨sqB1 HB.out GE118.out⟩⟩
 clear H'
 try clear c1
 try clear p1
 try clear q1
 try clear hx1
 try clear c2
 try clear p2
 try clear c5
 try clear c6
 try clear p6
 try clear c7
 try clear c8
 try clear c8b0
 try clear c8b1
 try clear c10
 try clear c10b0
 try clear c10b1
 try clear p12
 try clear q12
 try clear hx12
 try clear c13
 try clear c19
 try clear c21
 try clear c21b0
 try clear c22
 try clear c22b0
 try clear c23
 try clear c23b0
 try clear c24
 try clear c24b0
 try clear c26
 try clear c29
 try clear hcz11_0 hcz11_1 hcz11_2 hcz11_3 hcz11_4 hcz11_5 hcz11_6
 try clear hcz15_0 hcz15_1 hcz15_2 hcz15_3 hcz15_4 hcz15_5 hcz15_6
 try clear hcz16_0 hcz16_1 hcz16_2 hcz16_3 hcz16_4 hcz16_5 hcz16_6
 try clear hcz17_0 hcz17_1 hcz17_2 hcz17_3 hcz17_4 hcz17_5 hcz17_6
 try clear hcz18_0 hcz18_1 hcz18_2 hcz18_3 hcz18_4 hcz18_5 hcz18_6
 try clear hcz20_0 hcz20_1 hcz20_2 hcz20_3 hcz20_4 hcz20_5 hcz20_6
 try clear hcz27_0 hcz27_1
 try clear hcz30_0 hcz30_1
 try clear hcz31_0 hcz31_1 hcz31_2 hcz31_3 hcz31_4 hcz31_5 hcz31_6
 try clear hcz9_0 hcz9_1 hcz9_2 hcz9_3 hcz9_4 hcz9_5 hcz9_6
 try clear hfz11_0 hfz11_1 hfz11_2 hfz11_3 hfz11_4 hfz11_5 hfz11_6
 try clear hfz15_0 hfz15_1 hfz15_2 hfz15_3 hfz15_4 hfz15_5 hfz15_6
 try clear hfz16_0 hfz16_1 hfz16_2 hfz16_3 hfz16_4 hfz16_5 hfz16_6
 try clear hfz17_0 hfz17_1 hfz17_2 hfz17_3 hfz17_4 hfz17_5 hfz17_6
 try clear hfz18_0 hfz18_1 hfz18_2 hfz18_3 hfz18_4 hfz18_5 hfz18_6
 try clear hfz20_0 hfz20_1 hfz20_2 hfz20_3 hfz20_4 hfz20_5 hfz20_6
 try clear hfz27_0 hfz27_1
 try clear hfz30_0 hfz30_1
 try clear hfz31_0 hfz31_1 hfz31_2 hfz31_3 hfz31_4 hfz31_5 hfz31_6
 try clear hfz9_0 hfz9_1 hfz9_2 hfz9_3 hfz9_4 hfz9_5 hfz9_6
 try clear hx123_0 hx123_1
 try clear p123
 try clear p2
 try clear q123
 obtain ⟨x59_3, rfl, HA, HK3, BK118, HB⟩ := hrel
 cases gk with
 | zero => exact absurd HA.out (by simp [conf_fair.l1])
 | succ k3 => ?_
 have H := HA.out
 clear HA
 simp only [conf_fair.l1] at H
 by_cases c32 : x59_3 < (l0_3.length : Int)
 rotate_left
 · rw [if_neg c32] at H
   have c32b0 : decide (x59_3 < (l0_3.length : Int)) = false := decide_eq_false c32
   clear c32
   obtain rfl := Option.some.inj H
   go_wp2
   go_ret
   exact ⟨sqE, sqB1 HB.out GE118.out⟩
 rw [if_pos c32] at H
 have c32b0 : decide (x59_3 < (l0_3.length : Int)) = true := decide_eq_true c32
 clear c32
 by_cases c33 : 0 ≤ x59_3
 rotate_left
 · rw [if_neg c33] at H
   exact absurd H (by simp)
 rw [if_pos c33] at H
 have c33b0 : decide (0 ≤ x59_3) = true := decide_eq_true c33
 clear c33
 by_cases c34 : x59_3 < (l0_3.length : Int)
 rotate_left
 · rw [if_neg c34] at H
   exact absurd H (by simp)
 rw [if_pos c34] at H
 have c34b0 : decide (x59_3 < (l0_3.length : Int)) = true := decide_eq_true c34
 clear c34
 replace H := Option.bind_eq_some_iff.mp H
 obtain ⟨t127, A350, H⟩ := H
 replace H : (if t127 = true then (conf_fair.l1 k3 l0_3 (l0_3.length : Int) (wrap64 (x59_3 + 1))) else (some false)) = some r := H
 have A35 := Aside0.mk A350
 clear A350
 by_cases c36 : t127 = true
 rotate_left
 · replace c36 := Bool.eq_false_iff.mpr c36
   subst c36
   have H1 : (some false) = some r := by rw [if_neg (show ¬ (false = true) by decide)] at H; exact H
   clear H
   have H := H1
   clear H1
   obtain rfl := Option.some.inj H
   have p125 : 0 ≤ (x59_3 : Int) := of_decide_eq_true sqH
   have q125 : x59_3 < (l0_3.length : Int) := of_decide_eq_true sqH
   obtain ⟨ad125, e125, hx125_0, hx125_1⟩ := at_T59 HR0_3.out x59_3 p125 q125
   cases e125
   replace hx125_0 := sqx HB.out hx125_0
   replace hx125_1 := sqx HB.out hx125_1
   replace p125 := eq_true p125
   replace q125 := eq_true q125
   go_wp2_with (first | ((with_reducible refine gate_dst (N := 6) rfl ?_); (try (refine gate_guard (by rfl) ?_; dsimp only)); refine box_event rfl (N := 6) rfl (cs := #[.string (⟨#[]⟩ : ByteArray), .int .i64 0]) (t := 59) sqs ?_; intro gb126 hg w40 hbox hb; have BK126 := sqM (hbox); have GW126 := sqM (sqZ hg (sqB1 HB.out GE118.out)); have GE126 := sqM (sqZ hg (sqB1 HB.out GE118.out)); have NB118_126 := sqM (sqL hg (sqK BK118.out)); have NB126_118 := sqM (sqG hg (sqK BK118.out)); replace BK118 := sqM (blk_below (sqK BK118.out) hb); replace HB := sqM (below_step (sqB1 HB.out GE118.out) hb); clear hb hbox hg; have hnb41 := NB126_118.out; have hnc41 := NB118_126.out; obtain ⟨hcz42_0, hcz42_1, hfz42_0, hfz42_1⟩ := sqF2 BK126.out) | ((with_reducible refine gate_callee (f := 80) rfl ?_); refine goesL_ (some 65) rfl rfl Try.func80 (by kernel_rfl) rfl #[.string ((rd_T59 l0_3 x59_3).f0)] rfl sqA ?_; (with_reducible refine (key_Right.calls _ _ _ A35.out).mono ?_); rintro e w' ⟨rfl, ⟨nd, rfl⟩⟩; refine ⟨_, rfl, ?_⟩))
   go_ret
   exact ⟨sqE, sqB2 HB.out GE118.out GE126.out⟩
 subst c36
 have H1 : (conf_fair.l1 k3 l0_3 (l0_3.length : Int) (wrap64 (x59_3 + 1))) = some r := by rw [if_pos rfl] at H; exact H
 clear H
 have H := H1
 clear H1
 have H' := Aside0.mk H
 clear H
 have p125 : 0 ≤ (x59_3 : Int) := of_decide_eq_true sqH
 have q125 : x59_3 < (l0_3.length : Int) := of_decide_eq_true sqH
 obtain ⟨ad125, e125, hx125_0, hx125_1⟩ := at_T59 HR0_3.out x59_3 p125 q125
 cases e125
 replace hx125_0 := sqx HB.out hx125_0
 replace hx125_1 := sqx HB.out hx125_1
 replace p125 := eq_true p125
 replace q125 := eq_true q125
 go_wp2_with (first | ((with_reducible refine gate_dst (N := 6) rfl ?_); (try (refine gate_guard (by rfl) ?_; dsimp only)); refine box_event rfl (N := 6) rfl (cs := #[.string (⟨#[]⟩ : ByteArray), .int .i64 0]) (t := 59) sqs ?_; intro gb126 hg w37 hbox hb; have BK126 := sqM (hbox); have GW126 := sqM (sqZ hg (sqB1 HB.out GE118.out)); have GE126 := sqM (sqZ hg (sqB1 HB.out GE118.out)); have NB118_126 := sqM (sqL hg (sqK BK118.out)); have NB126_118 := sqM (sqG hg (sqK BK118.out)); replace BK118 := sqM (blk_below (sqK BK118.out) hb); replace HB := sqM (below_step (sqB1 HB.out GE118.out) hb); clear hb hbox hg; have hnb38 := NB126_118.out; have hnc38 := NB118_126.out; obtain ⟨hcz39_0, hcz39_1, hfz39_0, hfz39_1⟩ := sqF2 BK126.out) | ((with_reducible refine gate_callee (f := 80) rfl ?_); refine goesL_ (some 65) rfl rfl Try.func80 (by kernel_rfl) rfl #[.string ((rd_T59 l0_3 x59_3).f0)] rfl sqA ?_; (with_reducible refine (key_Right.calls _ _ _ A35.out).mono ?_); rintro e w' ⟨rfl, ⟨nd, rfl⟩⟩; refine ⟨_, rfl, ?_⟩))
 go_roundg k3
 case measure => have := HJ1.out; have := HK2.out; have := HK3.out; omega
 case rel => exact ⟨(wrap64 (x59_3 + 1)), sqI, H', ⟨by have := HJ1.out; have := HK2.out; have := HK3.out; omega⟩, ⟨(sqK (sqX2 BK118.out NB118_126.out))⟩, ⟨sqB2 HB.out GE118.out GE126.out⟩⟩

end Go.Proofs.Ytdcabfonjmeajaa.PConf
