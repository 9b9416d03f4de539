/- Lean functions for Go functions of the given program, and proofs that the code computes them, each under its theorem's own conditions. Written by a program of this session. -/
import Derived.Test.YtdcabfonjmeajaaPConfx0
import Derived.Test.YtdcabfonjmeajaaPConfx7
namespace Go.Proofs.Ytdcabfonjmeajaa.PConf
open Go.RowKit Go.Proofs.YtdcabfonjmeajaaW.PrintWords Go.Proofs.YtdcabfonjmeajaaW.PrintLast Go.Proofs.YtdcabfonjmeajaaW.PrintMore
attribute [local go_sem] max2_int min2_int max_two min_two max_three min_three max_four min_four   -- for this text's walks alone
set_option linter.unusedVariables false
set_option linter.unusedSimpArgs false

/-! ### boarderref13_subnet: function 71 -/
mutual
def boarderref13_subnet.j0 : Nat → Bool → Int → Int → List (S62) → List (S59) → Int → Int → Int → Option (Bool)
  | 0, _, _, _, _, _, _, _, _ => none
  | k + 1, x32, x249000, x249001, x249002, x249003, x249004, x249005, x249006 => if x32 = true then (some false) else (if x249004 < 0 then (boarderref13_subnet.j1 k true x249000 x249001 x249002 x249003 x249004 x249005 x249006) else (if x249004 > 99 then (boarderref13_subnet.j1 k true x249000 x249001 x249002 x249003 x249004 x249005 x249006) else (if x249006 < 1 then (boarderref13_subnet.j1 k true x249000 x249001 x249002 x249003 x249004 x249005 x249006) else (boarderref13_subnet.j1 k (decide (x249006 > 2147483648)) x249000 x249001 x249002 x249003 x249004 x249005 x249006))))
def boarderref13_subnet.j1 : Nat → Bool → Int → Int → List (S62) → List (S59) → Int → Int → Int → Option (Bool)
  | 0, _, _, _, _, _, _, _, _ => none
  | k + 1, x50, x249000, x249001, x249002, x249003, x249004, x249005, x249006 => if x50 = true then (some false) else (boarderref13_subnet.l0 k 0 x249000 x249001 x249002 x249003 x249004 x249005 x249006)
def boarderref13_subnet.l0 : Nat → Int → Int → Int → List (S62) → List (S59) → Int → Int → Int → Option (Bool)
  | 0, _, _, _, _, _, _, _, _ => none
  | k + 1, x3, x249000, x249001, x249002, x249003, x249004, x249005, x249006 => if x3 < (x249002.length : Int) then (if 0 ≤ x3 then (if ((rd_T62 x249002 x3).f1) < ((rd_T62 x249002 x3).f0) then (some false) else (boarderref13_subnet.l0 k (wrap64 (x3 + 1)) x249000 x249001 x249002 x249003 x249004 x249005 x249006)) else (none)) else (boarderref13_subnet.l1 k 0 x249000 x249001 x249002 x249003 x249004 x249005 x249006)
def boarderref13_subnet.l1 : Nat → Int → Int → Int → List (S62) → List (S59) → Int → Int → Int → Option (Bool)
  | 0, _, _, _, _, _, _, _, _ => none
  | k + 1, x4, x249000, x249001, x249002, x249003, x249004, x249005, x249006 => if x4 < (x249003.length : Int) then (if 0 ≤ x4 then ((boarderref07_Right.f ((rd_T59 x249003 x4).f0)).bind fun t253 => (if t253 = true then (boarderref13_subnet.l1 k (wrap64 (x4 + 1)) x249000 x249001 x249002 x249003 x249004 x249005 x249006) else (some false))) else (none)) else (some true)
end
def boarderref13_subnet.f (k : Nat) (a0_0 : Int) (a0_1 : Int) (l0_2 : List (S62)) (l0_3 : List (S59)) (a0_4 : Int) (a0_5 : Int) (a0_6 : Int) : Option (Bool) := (boarderref01_Fair.f k a0_0 a0_1).bind fun t249 => (if t249 = true then (if a0_1 < 8 then (boarderref13_subnet.j0 k true a0_0 a0_1 l0_2 l0_3 a0_4 a0_5 a0_6) else (if a0_1 > 30 then (boarderref13_subnet.j0 k true a0_0 a0_1 l0_2 l0_3 a0_4 a0_5 a0_6) else (if (l0_2.length : Int) > 4 then (boarderref13_subnet.j0 k true a0_0 a0_1 l0_2 l0_3 a0_4 a0_5 a0_6) else (boarderref13_subnet.j0 k (decide ((l0_3.length : Int) > 8)) a0_0 a0_1 l0_2 l0_3 a0_4 a0_5 a0_6)))) else (boarderref13_subnet.j0 k true a0_0 a0_1 l0_2 l0_3 a0_4 a0_5 a0_6))
set_option maxHeartbeats 8000000 in
set_option maxRecDepth 100000 in
theorem boarderref13_subnet.calls (k : Nat) (a0_0 : Int) (a0_1 : Int) (A0_2 : Option Addr) (c0_2 : Nat) (l0_2 : List (S62)) (A0_3 : Option Addr) (c0_3 : Nat) (l0_3 : List (S59)) (a0_4 : Int) (a0_5 : Int) (a0_6 : Int) (r : Bool) (w : World) (hr0_2 : Kd.C k62 w A0_2 l0_2.length l0_2) (hc0_2 : l0_2.length ≤ c0_2) (hr0_3 : Kd.C k59 w A0_3 l0_3.length l0_3) (hc0_3 : l0_3.length ≤ c0_3) (h : boarderref13_subnet.f k a0_0 a0_1 l0_2 l0_3 a0_4 a0_5 a0_6 = some r) :
    Calls Try.prog 71 #[.agg #[.int .i64 a0_0, .int .i64 a0_1, .slice A0_2 l0_2.length c0_2, .slice A0_3 l0_3.length c0_3, .int .i64 a0_4, .int .i64 a0_5, .int .i64 a0_6]] w fun e w' => e = .returned (.bool r) ∧ Below w.heap.size w w' := by
 have hu57 := Try.underlying57
 have HR0_2 := Aside0.mk hr0_2
 have HC0_2 := Aside0.mk hc0_2
 clear hr0_2 hc0_2
 have HR0_3 := Aside0.mk hr0_3
 have HC0_3 := Aside0.mk hc0_3
 clear hr0_3 hc0_3
 have HB := Aside0.mk (Below.refl w.heap.size w)
 have H : ((boarderref01_Fair.f k a0_0 a0_1).bind fun t249 => (if t249 = true then (if a0_1 < 8 then (boarderref13_subnet.j0 k true a0_0 a0_1 l0_2 l0_3 a0_4 a0_5 a0_6) else (if a0_1 > 30 then (boarderref13_subnet.j0 k true a0_0 a0_1 l0_2 l0_3 a0_4 a0_5 a0_6) else (if (l0_2.length : Int) > 4 then (boarderref13_subnet.j0 k true a0_0 a0_1 l0_2 l0_3 a0_4 a0_5 a0_6) else (boarderref13_subnet.j0 k (decide ((l0_3.length : Int) > 8)) a0_0 a0_1 l0_2 l0_3 a0_4 a0_5 a0_6)))) else (boarderref13_subnet.j0 k true a0_0 a0_1 l0_2 l0_3 a0_4 a0_5 a0_6))) = some r := h
 clear h
 have HC2 := Aside0.mk H
 clear H
 go_enter Try.func71, Try.ntmps71
 go_upto_region 1 with (first | ((with_reducible refine gate_dst (N := 1) rfl ?_); (try (refine gate_guard (by rfl) ?_; dsimp only)); refine box_event rfl (N := 1) rfl (cs := #[.int .i64 a0_0, .int .i64 a0_1, .slice A0_2 l0_2.length c0_2, .slice A0_3 l0_3.length c0_3, .int .i64 a0_4, .int .i64 a0_5, .int .i64 a0_6]) (t := 57) sqs ?_; intro gb248 hg w3 hbox hb; have BK248 := sqM (hbox); have GW248 := sqM (sqZ hg (sqB HB.out)); have GE248 := sqM (sqZ hg (sqB HB.out)); replace HB := sqM (below_step (sqB HB.out) hb); clear hb hbox hg))
 repeat (go_quiet (first | ((with_reducible refine gate_dst (N := 1) rfl ?_); (try (refine gate_guard (by rfl) ?_; dsimp only)); refine box_event rfl (N := 1) rfl (cs := #[.int .i64 a0_0, .int .i64 a0_1, .slice A0_2 l0_2.length c0_2, .slice A0_3 l0_3.length c0_3, .int .i64 a0_4, .int .i64 a0_5, .int .i64 a0_6]) (t := 57) sqs ?_; intro gb248 hg w3 hbox hb; have BK248 := sqM (hbox); have GW248 := sqM (sqZ hg (sqB HB.out)); have GE248 := sqM (sqZ hg (sqB HB.out)); replace HB := sqM (below_step (sqB HB.out) hb); clear hb hbox hg)); go_upto_region 1 with (first | ((with_reducible refine gate_dst (N := 1) rfl ?_); (try (refine gate_guard (by rfl) ?_; dsimp only)); refine box_event rfl (N := 1) rfl (cs := #[.int .i64 a0_0, .int .i64 a0_1, .slice A0_2 l0_2.length c0_2, .slice A0_3 l0_3.length c0_3, .int .i64 a0_4, .int .i64 a0_5, .int .i64 a0_6]) (t := 57) sqs ?_; intro gb248 hg w3 hbox hb; have BK248 := sqM (hbox); have GW248 := sqM (sqZ hg (sqB HB.out)); have GE248 := sqM (sqZ hg (sqB HB.out)); replace HB := sqM (below_step (sqB HB.out) hb); clear hb hbox hg)))
 (try simp only [Act.put, List.setIfInBounds_toArray, List.set_cons_zero, List.set_cons_succ])
 go_cut [32] (fun v32 wc => ∃ (kq : Nat) (x32_1 : Bool), v32 = .bool x32_1 ∧ Aside0 (boarderref13_subnet.j0 kq x32_1 a0_0 a0_1 l0_2 l0_3 a0_4 a0_5 a0_6 = some r) ∧ Aside0 (kq ≤ k) ∧ Aside0 (wc.heap[gb248]? = some (.cells #[.int .i64 a0_0, .int .i64 a0_1, (.slice A0_2 l0_2.length c0_2), (.slice A0_3 l0_3.length c0_3), .int .i64 a0_4, .int .i64 a0_5, .int .i64 a0_6] 57 (0, 0))) ∧ Aside0 (Below w.heap.size w wc))
 case first =>
  have H := HC2.out
  clear HC2
  replace H := Option.bind_eq_some_iff.mp H
  obtain ⟨t249, A40, H⟩ := H
  replace H : (if t249 = true then (if a0_1 < 8 then (boarderref13_subnet.j0 k true a0_0 a0_1 l0_2 l0_3 a0_4 a0_5 a0_6) else (if a0_1 > 30 then (boarderref13_subnet.j0 k true a0_0 a0_1 l0_2 l0_3 a0_4 a0_5 a0_6) else (if (l0_2.length : Int) > 4 then (boarderref13_subnet.j0 k true a0_0 a0_1 l0_2 l0_3 a0_4 a0_5 a0_6) else (boarderref13_subnet.j0 k (decide ((l0_3.length : Int) > 8)) a0_0 a0_1 l0_2 l0_3 a0_4 a0_5 a0_6)))) else (boarderref13_subnet.j0 k true a0_0 a0_1 l0_2 l0_3 a0_4 a0_5 a0_6)) = some r := H
  have A4 := Aside0.mk A40
  clear A40
  by_cases c5 : t249 = true
  rotate_left
  · replace c5 := Bool.eq_false_iff.mpr c5
    subst c5
    have H1 : (boarderref13_subnet.j0 k true a0_0 a0_1 l0_2 l0_3 a0_4 a0_5 a0_6) = some r := by rw [if_neg (show ¬ (false = true) by decide)] at H; exact H
    clear H
    have H := H1
    clear H1
    have H' := Aside0.mk H
    clear H
    obtain ⟨hcz13_0, hcz13_1, hcz13_2, hcz13_3, hcz13_4, hcz13_5, hcz13_6, hfz13_0, hfz13_1, hfz13_2, hfz13_3, hfz13_4, hfz13_5, hfz13_6⟩ := sqF7 BK248.out
    go_wp2_with (first | (go_at_call 77; (with_reducible refine (boarderref01_Fair.calls _ _ _ _ _ A4.out).mono ?_); rintro e w' ⟨rfl, ⟨nd, rfl⟩⟩; (try first | exact ⟨rfl, _, World.drewN_drewN _ _ _⟩ | exact ⟨rfl, _, Eq.trans (World.drewN_drewN _ _ _) (congrArg (World.drewN _) (Nat.add_assoc _ _ _))⟩)))
    repeat (go_quiet (first | (go_at_call 77; (with_reducible refine (boarderref01_Fair.calls _ _ _ _ _ A4.out).mono ?_); rintro e w' ⟨rfl, ⟨nd, rfl⟩⟩; (try first | exact ⟨rfl, _, World.drewN_drewN _ _ _⟩ | exact ⟨rfl, _, Eq.trans (World.drewN_drewN _ _ _) (congrArg (World.drewN _) (Nat.add_assoc _ _ _))⟩))); try go_wp2_with (first | (go_at_call 77; (with_reducible refine (boarderref01_Fair.calls _ _ _ _ _ A4.out).mono ?_); rintro e w' ⟨rfl, ⟨nd, rfl⟩⟩; (try first | exact ⟨rfl, _, World.drewN_drewN _ _ _⟩ | exact ⟨rfl, _, Eq.trans (World.drewN_drewN _ _ _) (congrArg (World.drewN _) (Nat.add_assoc _ _ _))⟩))))
    go_meet
    case rel => exact ⟨_, (true), sqI, H', ⟨by first | omega | exact Nat.le_refl _⟩, ⟨sqK BK248.out⟩, ⟨sqB1 HB.out GE248.out⟩⟩
  subst c5
  have H1 : (if a0_1 < 8 then (boarderref13_subnet.j0 k true a0_0 a0_1 l0_2 l0_3 a0_4 a0_5 a0_6) else (if a0_1 > 30 then (boarderref13_subnet.j0 k true a0_0 a0_1 l0_2 l0_3 a0_4 a0_5 a0_6) else (if (l0_2.length : Int) > 4 then (boarderref13_subnet.j0 k true a0_0 a0_1 l0_2 l0_3 a0_4 a0_5 a0_6) else (boarderref13_subnet.j0 k (decide ((l0_3.length : Int) > 8)) a0_0 a0_1 l0_2 l0_3 a0_4 a0_5 a0_6)))) = some r := by rw [if_pos rfl] at H; exact H
  clear H
  have H := H1
  clear H1
  by_cases c6 : a0_1 < 8
  · rw [if_pos c6] at H
    have c6b0 : decide (a0_1 < 8) = true := decide_eq_true c6
    clear c6
    (first | rw [c6b0] | (simp only [i64_w, i32_w]; rw [c6b0]) | skip)
    have H' := Aside0.mk H
    clear H
    obtain ⟨hcz7_0, hcz7_1, hcz7_2, hcz7_3, hcz7_4, hcz7_5, hcz7_6, hfz7_0, hfz7_1, hfz7_2, hfz7_3, hfz7_4, hfz7_5, hfz7_6⟩ := sqF7 BK248.out
    go_wp2_with (first | (go_at_call 77; (with_reducible refine (boarderref01_Fair.calls _ _ _ _ _ A4.out).mono ?_); rintro e w' ⟨rfl, ⟨nd, rfl⟩⟩; (try first | exact ⟨rfl, _, World.drewN_drewN _ _ _⟩ | exact ⟨rfl, _, Eq.trans (World.drewN_drewN _ _ _) (congrArg (World.drewN _) (Nat.add_assoc _ _ _))⟩)))
    repeat (go_quiet (first | (go_at_call 77; (with_reducible refine (boarderref01_Fair.calls _ _ _ _ _ A4.out).mono ?_); rintro e w' ⟨rfl, ⟨nd, rfl⟩⟩; (try first | exact ⟨rfl, _, World.drewN_drewN _ _ _⟩ | exact ⟨rfl, _, Eq.trans (World.drewN_drewN _ _ _) (congrArg (World.drewN _) (Nat.add_assoc _ _ _))⟩))); try go_wp2_with (first | (go_at_call 77; (with_reducible refine (boarderref01_Fair.calls _ _ _ _ _ A4.out).mono ?_); rintro e w' ⟨rfl, ⟨nd, rfl⟩⟩; (try first | exact ⟨rfl, _, World.drewN_drewN _ _ _⟩ | exact ⟨rfl, _, Eq.trans (World.drewN_drewN _ _ _) (congrArg (World.drewN _) (Nat.add_assoc _ _ _))⟩))))
    go_meet
    case rel => exact ⟨_, (true), sqI, H', ⟨by first | omega | exact Nat.le_refl _⟩, ⟨sqK BK248.out⟩, ⟨sqB1 HB.out GE248.out⟩⟩
  rw [if_neg c6] at H
  have c6b0 : decide (a0_1 < 8) = false := decide_eq_false c6
  clear c6
  (first | rw [c6b0] | (simp only [i64_w, i32_w]; rw [c6b0]) | skip)
  by_cases c8 : a0_1 > 30
  · rw [if_pos c8] at H
    have c8b0 : decide (30 < a0_1) = true := decide_eq_true c8
    clear c8
    have H' := Aside0.mk H
    clear H
    obtain ⟨hcz9_0, hcz9_1, hcz9_2, hcz9_3, hcz9_4, hcz9_5, hcz9_6, hfz9_0, hfz9_1, hfz9_2, hfz9_3, hfz9_4, hfz9_5, hfz9_6⟩ := sqF7 BK248.out
    go_wp2_with (first | (go_at_call 77; (with_reducible refine (boarderref01_Fair.calls _ _ _ _ _ A4.out).mono ?_); rintro e w' ⟨rfl, ⟨nd, rfl⟩⟩; (try first | exact ⟨rfl, _, World.drewN_drewN _ _ _⟩ | exact ⟨rfl, _, Eq.trans (World.drewN_drewN _ _ _) (congrArg (World.drewN _) (Nat.add_assoc _ _ _))⟩)))
    repeat (go_quiet (first | (go_at_call 77; (with_reducible refine (boarderref01_Fair.calls _ _ _ _ _ A4.out).mono ?_); rintro e w' ⟨rfl, ⟨nd, rfl⟩⟩; (try first | exact ⟨rfl, _, World.drewN_drewN _ _ _⟩ | exact ⟨rfl, _, Eq.trans (World.drewN_drewN _ _ _) (congrArg (World.drewN _) (Nat.add_assoc _ _ _))⟩))); try go_wp2_with (first | (go_at_call 77; (with_reducible refine (boarderref01_Fair.calls _ _ _ _ _ A4.out).mono ?_); rintro e w' ⟨rfl, ⟨nd, rfl⟩⟩; (try first | exact ⟨rfl, _, World.drewN_drewN _ _ _⟩ | exact ⟨rfl, _, Eq.trans (World.drewN_drewN _ _ _) (congrArg (World.drewN _) (Nat.add_assoc _ _ _))⟩))))
    go_meet
    case rel => exact ⟨_, (true), sqI, H', ⟨by first | omega | exact Nat.le_refl _⟩, ⟨sqK BK248.out⟩, ⟨sqB1 HB.out GE248.out⟩⟩
  rw [if_neg c8] at H
  have c8b0 : decide (30 < a0_1) = false := decide_eq_false c8
  clear c8
  by_cases c10 : (l0_2.length : Int) > 4
  · rw [if_pos c10] at H
    have c10b0 : decide (4 < (l0_2.length : Int)) = true := decide_eq_true c10
    have c10b1 : decide (4 < l0_2.length) = true := decide_eq_true (by omega)
    clear c10
    have H' := Aside0.mk H
    clear H
    obtain ⟨hcz11_0, hcz11_1, hcz11_2, hcz11_3, hcz11_4, hcz11_5, hcz11_6, hfz11_0, hfz11_1, hfz11_2, hfz11_3, hfz11_4, hfz11_5, hfz11_6⟩ := sqF7 BK248.out
    go_wp2_with (first | (go_at_call 77; (with_reducible refine (boarderref01_Fair.calls _ _ _ _ _ A4.out).mono ?_); rintro e w' ⟨rfl, ⟨nd, rfl⟩⟩; (try first | exact ⟨rfl, _, World.drewN_drewN _ _ _⟩ | exact ⟨rfl, _, Eq.trans (World.drewN_drewN _ _ _) (congrArg (World.drewN _) (Nat.add_assoc _ _ _))⟩)))
    repeat (go_quiet (first | (go_at_call 77; (with_reducible refine (boarderref01_Fair.calls _ _ _ _ _ A4.out).mono ?_); rintro e w' ⟨rfl, ⟨nd, rfl⟩⟩; (try first | exact ⟨rfl, _, World.drewN_drewN _ _ _⟩ | exact ⟨rfl, _, Eq.trans (World.drewN_drewN _ _ _) (congrArg (World.drewN _) (Nat.add_assoc _ _ _))⟩))); try go_wp2_with (first | (go_at_call 77; (with_reducible refine (boarderref01_Fair.calls _ _ _ _ _ A4.out).mono ?_); rintro e w' ⟨rfl, ⟨nd, rfl⟩⟩; (try first | exact ⟨rfl, _, World.drewN_drewN _ _ _⟩ | exact ⟨rfl, _, Eq.trans (World.drewN_drewN _ _ _) (congrArg (World.drewN _) (Nat.add_assoc _ _ _))⟩))))
    go_meet
    case rel => exact ⟨_, (true), sqI, H', ⟨by first | omega | exact Nat.le_refl _⟩, ⟨sqK BK248.out⟩, ⟨sqB1 HB.out GE248.out⟩⟩
  rw [if_neg c10] at H
  have c10b0 : decide (4 < (l0_2.length : Int)) = false := decide_eq_false c10
  have c10b1 : decide (4 < l0_2.length) = false := decide_eq_false (by omega)
  clear c10
  have H' := Aside0.mk H
  clear H
  obtain ⟨hcz12_0, hcz12_1, hcz12_2, hcz12_3, hcz12_4, hcz12_5, hcz12_6, hfz12_0, hfz12_1, hfz12_2, hfz12_3, hfz12_4, hfz12_5, hfz12_6⟩ := sqF7 BK248.out
  go_wp2_with (first | (go_at_call 77; (with_reducible refine (boarderref01_Fair.calls _ _ _ _ _ A4.out).mono ?_); rintro e w' ⟨rfl, ⟨nd, rfl⟩⟩; (try first | exact ⟨rfl, _, World.drewN_drewN _ _ _⟩ | exact ⟨rfl, _, Eq.trans (World.drewN_drewN _ _ _) (congrArg (World.drewN _) (Nat.add_assoc _ _ _))⟩)))
  repeat (go_quiet (first | (go_at_call 77; (with_reducible refine (boarderref01_Fair.calls _ _ _ _ _ A4.out).mono ?_); rintro e w' ⟨rfl, ⟨nd, rfl⟩⟩; (try first | exact ⟨rfl, _, World.drewN_drewN _ _ _⟩ | exact ⟨rfl, _, Eq.trans (World.drewN_drewN _ _ _) (congrArg (World.drewN _) (Nat.add_assoc _ _ _))⟩))); try go_wp2_with (first | (go_at_call 77; (with_reducible refine (boarderref01_Fair.calls _ _ _ _ _ A4.out).mono ?_); rintro e w' ⟨rfl, ⟨nd, rfl⟩⟩; (try first | exact ⟨rfl, _, World.drewN_drewN _ _ _⟩ | exact ⟨rfl, _, Eq.trans (World.drewN_drewN _ _ _) (congrArg (World.drewN _) (Nat.add_assoc _ _ _))⟩))))
  go_meet
  case rel => exact ⟨_, (decide ((l0_3.length : Int) > 8)), sqI, H', ⟨by first | omega | exact Nat.le_refl _⟩, ⟨sqK BK248.out⟩, ⟨sqB1 HB.out GE248.out⟩⟩
 clear HC2
 try clear c1
 try clear p2
 try clear c5
 try clear c6
 try clear c6b0
 try clear c7
 try clear c8
 try clear c8b0
 try clear c10
 try clear c10b0
 try clear c10b1
 try clear hcz11_0 hcz11_1 hcz11_2 hcz11_3 hcz11_4 hcz11_5 hcz11_6
 try clear hcz12_0 hcz12_1 hcz12_2 hcz12_3 hcz12_4 hcz12_5 hcz12_6
 try clear hcz13_0 hcz13_1 hcz13_2 hcz13_3 hcz13_4 hcz13_5 hcz13_6
 try clear hcz7_0 hcz7_1 hcz7_2 hcz7_3 hcz7_4 hcz7_5 hcz7_6
 try clear hcz9_0 hcz9_1 hcz9_2 hcz9_3 hcz9_4 hcz9_5 hcz9_6
 try clear hfz11_0 hfz11_1 hfz11_2 hfz11_3 hfz11_4 hfz11_5 hfz11_6
 try clear hfz12_0 hfz12_1 hfz12_2 hfz12_3 hfz12_4 hfz12_5 hfz12_6
 try clear hfz13_0 hfz13_1 hfz13_2 hfz13_3 hfz13_4 hfz13_5 hfz13_6
 try clear hfz7_0 hfz7_1 hfz7_2 hfz7_3 hfz7_4 hfz7_5 hfz7_6
 try clear hfz9_0 hfz9_1 hfz9_2 hfz9_3 hfz9_4 hfz9_5 hfz9_6
 obtain ⟨kq, x32_1, rfl, HA, HJ1, BK248, HB⟩ := hcut
 cases kq with
 | zero => exact absurd HA.out (by simp [boarderref13_subnet.j0])
 | succ kj1 => ?_
 have H := HA.out
 clear HA
 simp only [boarderref13_subnet.j0] at H
 by_cases c14 : x32_1 = true
 · subst c14
   have H1 : (some false) = some r := by rw [if_pos rfl] at H; exact H
   clear H
   have H := H1
   clear H1
   obtain rfl := Option.some.inj H
   go_wp2
   repeat (go_quiet (fail); try go_wp2)
   go_ret
   exact ⟨sqE, sqB1 HB.out GE248.out⟩
 replace c14 := Bool.eq_false_iff.mpr c14
 subst c14
 have H1 : (if a0_4 < 0 then (boarderref13_subnet.j1 kj1 true a0_0 a0_1 l0_2 l0_3 a0_4 a0_5 a0_6) else (if a0_4 > 99 then (boarderref13_subnet.j1 kj1 true a0_0 a0_1 l0_2 l0_3 a0_4 a0_5 a0_6) else (if a0_6 < 1 then (boarderref13_subnet.j1 kj1 true a0_0 a0_1 l0_2 l0_3 a0_4 a0_5 a0_6) else (boarderref13_subnet.j1 kj1 (decide (a0_6 > 2147483648)) a0_0 a0_1 l0_2 l0_3 a0_4 a0_5 a0_6)))) = some r := by rw [if_neg (show ¬ (false = true) by decide)] at H; exact H
 clear H
 have H := H1
 clear H1
 have HC15 := Aside0.mk H
 clear H
 go_upto_region 3 with (fail)
 repeat (go_quiet (fail); go_upto_region 3 with (fail))
 go_cut [50] (fun v50 wc => ∃ (kq : Nat) (x50_14 : Bool), v50 = .bool x50_14 ∧ Aside0 (boarderref13_subnet.j1 kq x50_14 a0_0 a0_1 l0_2 l0_3 a0_4 a0_5 a0_6 = some r) ∧ Aside0 (kq ≤ kj1) ∧ Aside0 (wc.heap[gb248]? = some (.cells #[.int .i64 a0_0, .int .i64 a0_1, (.slice A0_2 l0_2.length c0_2), (.slice A0_3 l0_3.length c0_3), .int .i64 a0_4, .int .i64 a0_5, .int .i64 a0_6] 57 (0, 0))) ∧ Aside0 (Below w.heap.size w wc))
 case first =>
  have H := HC15.out
  clear HC15
  by_cases c16 : a0_4 < 0
  · rw [if_pos c16] at H
    have c16b0 : decide (a0_4 < 0) = true := decide_eq_true c16
    clear c16
    (first | rw [c16b0] | (simp only [i64_w, i32_w]; rw [c16b0]) | skip)
    have H' := Aside0.mk H
    clear H
    obtain ⟨hcz17_0, hcz17_1, hcz17_2, hcz17_3, hcz17_4, hcz17_5, hcz17_6, hfz17_0, hfz17_1, hfz17_2, hfz17_3, hfz17_4, hfz17_5, hfz17_6⟩ := sqF7 BK248.out
    go_wp2
    repeat (go_quiet (fail); try go_wp2)
    go_meet
    case rel => exact ⟨_, (true), sqI, H', ⟨by have := HJ1.out; first | omega | exact Nat.le_refl _⟩, ⟨sqK BK248.out⟩, ⟨sqB1 HB.out GE248.out⟩⟩
  rw [if_neg c16] at H
  have c16b0 : decide (a0_4 < 0) = false := decide_eq_false c16
  clear c16
  (first | rw [c16b0] | (simp only [i64_w, i32_w]; rw [c16b0]) | skip)
  by_cases c18 : a0_4 > 99
  · rw [if_pos c18] at H
    have c18b0 : decide (99 < a0_4) = true := decide_eq_true c18
    clear c18
    have H' := Aside0.mk H
    clear H
    obtain ⟨hcz19_0, hcz19_1, hcz19_2, hcz19_3, hcz19_4, hcz19_5, hcz19_6, hfz19_0, hfz19_1, hfz19_2, hfz19_3, hfz19_4, hfz19_5, hfz19_6⟩ := sqF7 BK248.out
    go_wp2
    repeat (go_quiet (fail); try go_wp2)
    go_meet
    case rel => exact ⟨_, (true), sqI, H', ⟨by have := HJ1.out; first | omega | exact Nat.le_refl _⟩, ⟨sqK BK248.out⟩, ⟨sqB1 HB.out GE248.out⟩⟩
  rw [if_neg c18] at H
  have c18b0 : decide (99 < a0_4) = false := decide_eq_false c18
  clear c18
  by_cases c20 : a0_6 < 1
  · rw [if_pos c20] at H
    have c20b0 : decide (a0_6 < 1) = true := decide_eq_true c20
    clear c20
    have H' := Aside0.mk H
    clear H
    obtain ⟨hcz21_0, hcz21_1, hcz21_2, hcz21_3, hcz21_4, hcz21_5, hcz21_6, hfz21_0, hfz21_1, hfz21_2, hfz21_3, hfz21_4, hfz21_5, hfz21_6⟩ := sqF7 BK248.out
    go_wp2
    repeat (go_quiet (fail); try go_wp2)
    go_meet
    case rel => exact ⟨_, (true), sqI, H', ⟨by have := HJ1.out; first | omega | exact Nat.le_refl _⟩, ⟨sqK BK248.out⟩, ⟨sqB1 HB.out GE248.out⟩⟩
  rw [if_neg c20] at H
  have c20b0 : decide (a0_6 < 1) = false := decide_eq_false c20
  clear c20
  have H' := Aside0.mk H
  clear H
  obtain ⟨hcz22_0, hcz22_1, hcz22_2, hcz22_3, hcz22_4, hcz22_5, hcz22_6, hfz22_0, hfz22_1, hfz22_2, hfz22_3, hfz22_4, hfz22_5, hfz22_6⟩ := sqF7 BK248.out
  go_wp2
  repeat (go_quiet (fail); try go_wp2)
  go_meet
  case rel => exact ⟨_, (decide (a0_6 > 2147483648)), sqI, H', ⟨by have := HJ1.out; first | omega | exact Nat.le_refl _⟩, ⟨sqK BK248.out⟩, ⟨sqB1 HB.out GE248.out⟩⟩
 clear HC15
 try clear c1
 try clear c2
 try clear p2
 try clear c5
 try clear c6
 try clear c6b0
 try clear c7
 try clear c8
 try clear c8b0
 try clear c10
 try clear c10b0
 try clear c10b1
 try clear c14
 try clear c16
 try clear c16b0
 try clear c18
 try clear c18b0
 try clear c20
 try clear c20b0
 try clear hcz11_0 hcz11_1 hcz11_2 hcz11_3 hcz11_4 hcz11_5 hcz11_6
 try clear hcz12_0 hcz12_1 hcz12_2 hcz12_3 hcz12_4 hcz12_5 hcz12_6
 try clear hcz13_0 hcz13_1 hcz13_2 hcz13_3 hcz13_4 hcz13_5 hcz13_6
 try clear hcz17_0 hcz17_1 hcz17_2 hcz17_3 hcz17_4 hcz17_5 hcz17_6
 try clear hcz19_0 hcz19_1 hcz19_2 hcz19_3 hcz19_4 hcz19_5 hcz19_6
 try clear hcz21_0 hcz21_1 hcz21_2 hcz21_3 hcz21_4 hcz21_5 hcz21_6
 try clear hcz22_0 hcz22_1 hcz22_2 hcz22_3 hcz22_4 hcz22_5 hcz22_6
 try clear hcz7_0 hcz7_1 hcz7_2 hcz7_3 hcz7_4 hcz7_5 hcz7_6
 try clear hcz9_0 hcz9_1 hcz9_2 hcz9_3 hcz9_4 hcz9_5 hcz9_6
 try clear hfz11_0 hfz11_1 hfz11_2 hfz11_3 hfz11_4 hfz11_5 hfz11_6
 try clear hfz12_0 hfz12_1 hfz12_2 hfz12_3 hfz12_4 hfz12_5 hfz12_6
 try clear hfz13_0 hfz13_1 hfz13_2 hfz13_3 hfz13_4 hfz13_5 hfz13_6
 try clear hfz17_0 hfz17_1 hfz17_2 hfz17_3 hfz17_4 hfz17_5 hfz17_6
 try clear hfz19_0 hfz19_1 hfz19_2 hfz19_3 hfz19_4 hfz19_5 hfz19_6
 try clear hfz21_0 hfz21_1 hfz21_2 hfz21_3 hfz21_4 hfz21_5 hfz21_6
 try clear hfz22_0 hfz22_1 hfz22_2 hfz22_3 hfz22_4 hfz22_5 hfz22_6
 try clear hfz7_0 hfz7_1 hfz7_2 hfz7_3 hfz7_4 hfz7_5 hfz7_6
 try clear hfz9_0 hfz9_1 hfz9_2 hfz9_3 hfz9_4 hfz9_5 hfz9_6
 try clear p2
 obtain ⟨kq, x50_14, rfl, HA, HJ14, BK248, HB⟩ := hcut
 cases kq with
 | zero => exact absurd HA.out (by simp [boarderref13_subnet.j1])
 | succ kj14 => ?_
 have H := HA.out
 clear HA
 simp only [boarderref13_subnet.j1] at H
 by_cases c23 : x50_14 = true
 · subst c23
   have H1 : (some false) = some r := by rw [if_pos rfl] at H; exact H
   clear H
   have H := H1
   clear H1
   obtain rfl := Option.some.inj H
   go_wp2
   repeat (go_quiet (fail); try go_wp2)
   go_ret
   exact ⟨sqE, sqB1 HB.out GE248.out⟩
 replace c23 := Bool.eq_false_iff.mpr c23
 subst c23
 have H1 : (boarderref13_subnet.l0 kj14 0 a0_0 a0_1 l0_2 l0_3 a0_4 a0_5 a0_6) = some r := by rw [if_neg (show ¬ (false = true) by decide)] at H; exact H
 clear H
 have H := H1
 clear H1
 have H' := Aside0.mk H
 clear H
 go_wp2
 repeat (go_quiet (fail); try go_wp2)
 go_loopg [3] kj14 (fun kq v3 w' => ∃ (x3_3 : Int), v3 = .int .i64 x3_3 ∧ Aside0 (boarderref13_subnet.l0 kq x3_3 a0_0 a0_1 l0_2 l0_3 a0_4 a0_5 a0_6 = some r) ∧ Aside0 (kq ≤ kj14) ∧ Aside0 (w'.heap[gb248]? = some (.cells #[.int .i64 a0_0, .int .i64 a0_1, (.slice A0_2 l0_2.length c0_2), (.slice A0_3 l0_3.length c0_3), .int .i64 a0_4, .int .i64 a0_5, .int .i64 a0_6] 57 (0, 0))) ∧ Aside0 (Below w.heap.size w w'))
 case atStart => exact ⟨(0), sqI, H', ⟨Nat.le_refl _⟩, ⟨sqK BK248.out⟩, ⟨sqB1 HB.out GE248.out⟩⟩
 clear H'
 try clear c1
 try clear c2
 try clear p2
 try clear c5
 try clear c6
 try clear c6b0
 try clear c7
 try clear c8
 try clear c8b0
 try clear c10
 try clear c10b0
 try clear c10b1
 try clear c14
 try clear c16
 try clear c16b0
 try clear c18
 try clear c18b0
 try clear c20
 try clear c20b0
 try clear c23
 try clear hcz11_0 hcz11_1 hcz11_2 hcz11_3 hcz11_4 hcz11_5 hcz11_6
 try clear hcz12_0 hcz12_1 hcz12_2 hcz12_3 hcz12_4 hcz12_5 hcz12_6
 try clear hcz13_0 hcz13_1 hcz13_2 hcz13_3 hcz13_4 hcz13_5 hcz13_6
 try clear hcz17_0 hcz17_1 hcz17_2 hcz17_3 hcz17_4 hcz17_5 hcz17_6
 try clear hcz19_0 hcz19_1 hcz19_2 hcz19_3 hcz19_4 hcz19_5 hcz19_6
 try clear hcz21_0 hcz21_1 hcz21_2 hcz21_3 hcz21_4 hcz21_5 hcz21_6
 try clear hcz22_0 hcz22_1 hcz22_2 hcz22_3 hcz22_4 hcz22_5 hcz22_6
 try clear hcz7_0 hcz7_1 hcz7_2 hcz7_3 hcz7_4 hcz7_5 hcz7_6
 try clear hcz9_0 hcz9_1 hcz9_2 hcz9_3 hcz9_4 hcz9_5 hcz9_6
 try clear hfz11_0 hfz11_1 hfz11_2 hfz11_3 hfz11_4 hfz11_5 hfz11_6
 try clear hfz12_0 hfz12_1 hfz12_2 hfz12_3 hfz12_4 hfz12_5 hfz12_6
 try clear hfz13_0 hfz13_1 hfz13_2 hfz13_3 hfz13_4 hfz13_5 hfz13_6
 try clear hfz17_0 hfz17_1 hfz17_2 hfz17_3 hfz17_4 hfz17_5 hfz17_6
 try clear hfz19_0 hfz19_1 hfz19_2 hfz19_3 hfz19_4 hfz19_5 hfz19_6
 try clear hfz21_0 hfz21_1 hfz21_2 hfz21_3 hfz21_4 hfz21_5 hfz21_6
 try clear hfz22_0 hfz22_1 hfz22_2 hfz22_3 hfz22_4 hfz22_5 hfz22_6
 try clear hfz7_0 hfz7_1 hfz7_2 hfz7_3 hfz7_4 hfz7_5 hfz7_6
 try clear hfz9_0 hfz9_1 hfz9_2 hfz9_3 hfz9_4 hfz9_5 hfz9_6
 try clear p2
 obtain ⟨x3_3, rfl, HA, HK3, BK248, HB⟩ := hrel
 cases gk with
 | zero => exact absurd HA.out (by simp [boarderref13_subnet.l0])
 | succ k3 => ?_
 have H := HA.out
 clear HA
 simp only [boarderref13_subnet.l0] at H
 by_cases c24 : x3_3 < (l0_2.length : Int)
 · rw [if_pos c24] at H
   have c24b0 : decide (x3_3 < (l0_2.length : Int)) = true := decide_eq_true c24
   clear c24
   by_cases c25 : 0 ≤ x3_3
   rotate_left
   · rw [if_neg c25] at H
     exact absurd H (by simp)
   rw [if_pos c25] at H
   have c25b0 : decide (0 ≤ x3_3) = true := decide_eq_true c25
   clear c25
   by_cases c26 : ((rd_T62 l0_2 x3_3).f1) < ((rd_T62 l0_2 x3_3).f0)
   · rw [if_pos c26] at H
     have c26b0 : decide (((rd_T62 l0_2 x3_3).f1) < ((rd_T62 l0_2 x3_3).f0)) = true := decide_eq_true c26
     clear c26
     obtain rfl := Option.some.inj H
     obtain ⟨hcz27_0, hcz27_1, hcz27_2, hcz27_3, hcz27_4, hcz27_5, hcz27_6, hfz27_0, hfz27_1, hfz27_2, hfz27_3, hfz27_4, hfz27_5, hfz27_6⟩ := sqF7 BK248.out
     have p250 : 0 ≤ (x3_3 : Int) := of_decide_eq_true sqH
     have q250 : x3_3 < (l0_2.length : Int) := of_decide_eq_true sqH
     obtain ⟨ad250, e250, hx250_0, hx250_1⟩ := at_T62 HR0_2.out x3_3 p250 q250
     cases e250
     replace hx250_0 := sqx HB.out hx250_0
     replace hx250_1 := sqx HB.out hx250_1
     replace p250 := eq_true p250
     replace q250 := eq_true q250
     have p251 : 0 ≤ (x3_3 : Int) := of_decide_eq_true sqH
     have q251 : x3_3 < (l0_2.length : Int) := of_decide_eq_true sqH
     obtain ⟨ad251, e251, hx251_0, hx251_1⟩ := at_T62 HR0_2.out x3_3 p251 q251
     obtain rfl : ad250 = ad251 := (by injection e251)
     replace hx251_0 := sqx HB.out hx251_0
     replace hx251_1 := sqx HB.out hx251_1
     replace p251 := eq_true p251
     replace q251 := eq_true q251
     go_wp2
     repeat (go_quiet (fail); try go_wp2)
     go_ret
     exact ⟨sqE, sqB1 HB.out GE248.out⟩
   rw [if_neg c26] at H
   have c26b0 : decide (((rd_T62 l0_2 x3_3).f1) < ((rd_T62 l0_2 x3_3).f0)) = false := decide_eq_false c26
   clear c26
   have H' := Aside0.mk H
   clear H
   obtain ⟨hcz28_0, hcz28_1, hcz28_2, hcz28_3, hcz28_4, hcz28_5, hcz28_6, hfz28_0, hfz28_1, hfz28_2, hfz28_3, hfz28_4, hfz28_5, hfz28_6⟩ := sqF7 BK248.out
   have p250 : 0 ≤ (x3_3 : Int) := of_decide_eq_true sqH
   have q250 : x3_3 < (l0_2.length : Int) := of_decide_eq_true sqH
   obtain ⟨ad250, e250, hx250_0, hx250_1⟩ := at_T62 HR0_2.out x3_3 p250 q250
   cases e250
   replace hx250_0 := sqx HB.out hx250_0
   replace hx250_1 := sqx HB.out hx250_1
   replace p250 := eq_true p250
   replace q250 := eq_true q250
   have p251 : 0 ≤ (x3_3 : Int) := of_decide_eq_true sqH
   have q251 : x3_3 < (l0_2.length : Int) := of_decide_eq_true sqH
   obtain ⟨ad251, e251, hx251_0, hx251_1⟩ := at_T62 HR0_2.out x3_3 p251 q251
   obtain rfl : ad250 = ad251 := (by injection e251)
   replace hx251_0 := sqx HB.out hx251_0
   replace hx251_1 := sqx HB.out hx251_1
   replace p251 := eq_true p251
   replace q251 := eq_true q251
   go_wp2
   repeat (go_quiet (fail); try go_wp2)
   go_roundg k3
   case measure => have := HJ1.out; have := HJ14.out; have := HK3.out; omega
   case rel => exact ⟨(wrap64 (x3_3 + 1)), sqI, H', ⟨by have := HJ1.out; have := HJ14.out; have := HK3.out; omega⟩, ⟨sqK BK248.out⟩, ⟨sqB1 HB.out GE248.out⟩⟩
 rw [if_neg c24] at H
 have c24b0 : decide (x3_3 < (l0_2.length : Int)) = false := decide_eq_false c24
 clear c24
 have H' := Aside0.mk H
 clear H
 obtain ⟨hcz29_0, hcz29_1, hcz29_2, hcz29_3, hcz29_4, hcz29_5, hcz29_6, hfz29_0, hfz29_1, hfz29_2, hfz29_3, hfz29_4, hfz29_5, hfz29_6⟩ := sqF7 BK248.out
 go_wp2
 repeat (go_quiet (fail); try go_wp2)
 go_loopg [4] k3 (fun kq v4 w' => ∃ (x4_4 : Int), v4 = .int .i64 x4_4 ∧ Aside0 (boarderref13_subnet.l1 kq x4_4 a0_0 a0_1 l0_2 l0_3 a0_4 a0_5 a0_6 = some r) ∧ Aside0 (kq ≤ k3) ∧ Aside0 (w'.heap[gb248]? = some (.cells #[.int .i64 a0_0, .int .i64 a0_1, (.slice A0_2 l0_2.length c0_2), (.slice A0_3 l0_3.length c0_3), .int .i64 a0_4, .int .i64 a0_5, .int .i64 a0_6] 57 (0, 0))) ∧ Aside0 (Below w.heap.size w w'))
 case atStart => exact ⟨(0), sqI, H', ⟨Nat.le_refl _⟩, ⟨sqK BK248.out⟩, ⟨sqB1 HB.out GE248.out⟩⟩
 clear H'
 try clear c1
 try clear c2
 try clear p2
 try clear q2
 try clear hx2
 try clear c5
 try clear c6
 try clear c6b0
 try clear p6
 try clear c7
 try clear c8
 try clear c8b0
 try clear c10
 try clear c10b0
 try clear c10b1
 try clear c14
 try clear c16
 try clear c16b0
 try clear c18
 try clear c18b0
 try clear c20
 try clear c20b0
 try clear c23
 try clear c24
 try clear c24b0
 try clear c25
 try clear c25b0
 try clear p25
 try clear q25
 try clear hx25
 try clear c26
 try clear c26b0
 try clear hcz11_0 hcz11_1 hcz11_2 hcz11_3 hcz11_4 hcz11_5 hcz11_6
 try clear hcz12_0 hcz12_1 hcz12_2 hcz12_3 hcz12_4 hcz12_5 hcz12_6
 try clear hcz13_0 hcz13_1 hcz13_2 hcz13_3 hcz13_4 hcz13_5 hcz13_6
 try clear hcz17_0 hcz17_1 hcz17_2 hcz17_3 hcz17_4 hcz17_5 hcz17_6
 try clear hcz19_0 hcz19_1 hcz19_2 hcz19_3 hcz19_4 hcz19_5 hcz19_6
 try clear hcz21_0 hcz21_1 hcz21_2 hcz21_3 hcz21_4 hcz21_5 hcz21_6
 try clear hcz22_0 hcz22_1 hcz22_2 hcz22_3 hcz22_4 hcz22_5 hcz22_6
 try clear hcz27_0 hcz27_1 hcz27_2 hcz27_3 hcz27_4 hcz27_5 hcz27_6
 try clear hcz28_0 hcz28_1 hcz28_2 hcz28_3 hcz28_4 hcz28_5 hcz28_6
 try clear hcz29_0 hcz29_1 hcz29_2 hcz29_3 hcz29_4 hcz29_5 hcz29_6
 try clear hcz7_0 hcz7_1 hcz7_2 hcz7_3 hcz7_4 hcz7_5 hcz7_6
 try clear hcz9_0 hcz9_1 hcz9_2 hcz9_3 hcz9_4 hcz9_5 hcz9_6
 try clear hfz11_0 hfz11_1 hfz11_2 hfz11_3 hfz11_4 hfz11_5 hfz11_6
 try clear hfz12_0 hfz12_1 hfz12_2 hfz12_3 hfz12_4 hfz12_5 hfz12_6
 try clear hfz13_0 hfz13_1 hfz13_2 hfz13_3 hfz13_4 hfz13_5 hfz13_6
 try clear hfz17_0 hfz17_1 hfz17_2 hfz17_3 hfz17_4 hfz17_5 hfz17_6
 try clear hfz19_0 hfz19_1 hfz19_2 hfz19_3 hfz19_4 hfz19_5 hfz19_6
 try clear hfz21_0 hfz21_1 hfz21_2 hfz21_3 hfz21_4 hfz21_5 hfz21_6
 try clear hfz22_0 hfz22_1 hfz22_2 hfz22_3 hfz22_4 hfz22_5 hfz22_6
 try clear hfz27_0 hfz27_1 hfz27_2 hfz27_3 hfz27_4 hfz27_5 hfz27_6
 try clear hfz28_0 hfz28_1 hfz28_2 hfz28_3 hfz28_4 hfz28_5 hfz28_6
 try clear hfz29_0 hfz29_1 hfz29_2 hfz29_3 hfz29_4 hfz29_5 hfz29_6
 try clear hfz7_0 hfz7_1 hfz7_2 hfz7_3 hfz7_4 hfz7_5 hfz7_6
 try clear hfz9_0 hfz9_1 hfz9_2 hfz9_3 hfz9_4 hfz9_5 hfz9_6
 try clear hx250_0 hx250_1
 try clear hx251_0 hx251_1
 try clear p2
 try clear p250
 try clear p251
 try clear q250
 try clear q251
 obtain ⟨x4_4, rfl, HA, HK4, BK248, HB⟩ := hrel
 cases gk with
 | zero => exact absurd HA.out (by simp [boarderref13_subnet.l1])
 | succ k4 => ?_
 have H := HA.out
 clear HA
 simp only [boarderref13_subnet.l1] at H
 by_cases c30 : x4_4 < (l0_3.length : Int)
 rotate_left
 · rw [if_neg c30] at H
   have c30b0 : decide (x4_4 < (l0_3.length : Int)) = false := decide_eq_false c30
   clear c30
   obtain rfl := Option.some.inj H
   obtain ⟨hcz36_0, hcz36_1, hcz36_2, hcz36_3, hcz36_4, hcz36_5, hcz36_6, hfz36_0, hfz36_1, hfz36_2, hfz36_3, hfz36_4, hfz36_5, hfz36_6⟩ := sqF7 BK248.out
   go_wp2
   repeat (go_quiet (fail); try go_wp2)
   go_ret
   exact ⟨sqE, sqB1 HB.out GE248.out⟩
 rw [if_pos c30] at H
 have c30b0 : decide (x4_4 < (l0_3.length : Int)) = true := decide_eq_true c30
 clear c30
 by_cases c31 : 0 ≤ x4_4
 rotate_left
 · rw [if_neg c31] at H
   exact absurd H (by simp)
 rw [if_pos c31] at H
 have c31b0 : decide (0 ≤ x4_4) = true := decide_eq_true c31
 clear c31
 replace H := Option.bind_eq_some_iff.mp H
 obtain ⟨t253, A320, H⟩ := H
 replace H : (if t253 = true then (boarderref13_subnet.l1 k4 (wrap64 (x4_4 + 1)) a0_0 a0_1 l0_2 l0_3 a0_4 a0_5 a0_6) else (some false)) = some r := H
 have A32 := Aside0.mk A320
 clear A320
 by_cases c33 : t253 = true
 rotate_left
 · replace c33 := Bool.eq_false_iff.mpr c33
   subst c33
   have H1 : (some false) = some r := by rw [if_neg (show ¬ (false = true) by decide)] at H; exact H
   clear H
   have H := H1
   clear H1
   obtain rfl := Option.some.inj H
   obtain ⟨hcz35_0, hcz35_1, hcz35_2, hcz35_3, hcz35_4, hcz35_5, hcz35_6, hfz35_0, hfz35_1, hfz35_2, hfz35_3, hfz35_4, hfz35_5, hfz35_6⟩ := sqF7 BK248.out
   have p252 : 0 ≤ (x4_4 : Int) := of_decide_eq_true sqH
   have q252 : x4_4 < (l0_3.length : Int) := of_decide_eq_true sqH
   obtain ⟨ad252, e252, hx252_0, hx252_1⟩ := at_T59 HR0_3.out x4_4 p252 q252
   cases e252
   replace hx252_0 := sqx HB.out hx252_0
   replace hx252_1 := sqx HB.out hx252_1
   replace p252 := eq_true p252
   replace q252 := eq_true q252
   go_wp2_with (first | (go_at_call 63; (with_reducible refine (boarderref07_Right.calls _ _ _ A32.out).mono ?_); rintro e w' ⟨rfl, ⟨nd, rfl⟩⟩; (try first | exact ⟨rfl, _, World.drewN_drewN _ _ _⟩ | exact ⟨rfl, _, Eq.trans (World.drewN_drewN _ _ _) (congrArg (World.drewN _) (Nat.add_assoc _ _ _))⟩)))
   repeat (go_quiet (first | (go_at_call 63; (with_reducible refine (boarderref07_Right.calls _ _ _ A32.out).mono ?_); rintro e w' ⟨rfl, ⟨nd, rfl⟩⟩; (try first | exact ⟨rfl, _, World.drewN_drewN _ _ _⟩ | exact ⟨rfl, _, Eq.trans (World.drewN_drewN _ _ _) (congrArg (World.drewN _) (Nat.add_assoc _ _ _))⟩))); try go_wp2_with (first | (go_at_call 63; (with_reducible refine (boarderref07_Right.calls _ _ _ A32.out).mono ?_); rintro e w' ⟨rfl, ⟨nd, rfl⟩⟩; (try first | exact ⟨rfl, _, World.drewN_drewN _ _ _⟩ | exact ⟨rfl, _, Eq.trans (World.drewN_drewN _ _ _) (congrArg (World.drewN _) (Nat.add_assoc _ _ _))⟩))))
   go_ret
   exact ⟨sqE, sqB1 HB.out GE248.out⟩
 subst c33
 have H1 : (boarderref13_subnet.l1 k4 (wrap64 (x4_4 + 1)) a0_0 a0_1 l0_2 l0_3 a0_4 a0_5 a0_6) = some r := by rw [if_pos rfl] at H; exact H
 clear H
 have H := H1
 clear H1
 have H' := Aside0.mk H
 clear H
 obtain ⟨hcz34_0, hcz34_1, hcz34_2, hcz34_3, hcz34_4, hcz34_5, hcz34_6, hfz34_0, hfz34_1, hfz34_2, hfz34_3, hfz34_4, hfz34_5, hfz34_6⟩ := sqF7 BK248.out
 have p252 : 0 ≤ (x4_4 : Int) := of_decide_eq_true sqH
 have q252 : x4_4 < (l0_3.length : Int) := of_decide_eq_true sqH
 obtain ⟨ad252, e252, hx252_0, hx252_1⟩ := at_T59 HR0_3.out x4_4 p252 q252
 cases e252
 replace hx252_0 := sqx HB.out hx252_0
 replace hx252_1 := sqx HB.out hx252_1
 replace p252 := eq_true p252
 replace q252 := eq_true q252
 go_wp2_with (first | (go_at_call 63; (with_reducible refine (boarderref07_Right.calls _ _ _ A32.out).mono ?_); rintro e w' ⟨rfl, ⟨nd, rfl⟩⟩; (try first | exact ⟨rfl, _, World.drewN_drewN _ _ _⟩ | exact ⟨rfl, _, Eq.trans (World.drewN_drewN _ _ _) (congrArg (World.drewN _) (Nat.add_assoc _ _ _))⟩)))
 repeat (go_quiet (first | (go_at_call 63; (with_reducible refine (boarderref07_Right.calls _ _ _ A32.out).mono ?_); rintro e w' ⟨rfl, ⟨nd, rfl⟩⟩; (try first | exact ⟨rfl, _, World.drewN_drewN _ _ _⟩ | exact ⟨rfl, _, Eq.trans (World.drewN_drewN _ _ _) (congrArg (World.drewN _) (Nat.add_assoc _ _ _))⟩))); try go_wp2_with (first | (go_at_call 63; (with_reducible refine (boarderref07_Right.calls _ _ _ A32.out).mono ?_); rintro e w' ⟨rfl, ⟨nd, rfl⟩⟩; (try first | exact ⟨rfl, _, World.drewN_drewN _ _ _⟩ | exact ⟨rfl, _, Eq.trans (World.drewN_drewN _ _ _) (congrArg (World.drewN _) (Nat.add_assoc _ _ _))⟩))))
 go_roundg k4
 case measure => have := HJ1.out; have := HJ14.out; have := HK3.out; have := HK4.out; omega
 case rel => exact ⟨(wrap64 (x4_4 + 1)), sqI, H', ⟨by have := HJ1.out; have := HJ14.out; have := HK3.out; have := HK4.out; omega⟩, ⟨sqK BK248.out⟩, ⟨sqB1 HB.out GE248.out⟩⟩

end Go.Proofs.Ytdcabfonjmeajaa.PConf
