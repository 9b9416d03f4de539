/- Lean functions for Go functions of the given program, and proofs that the code computes them, each under its theorem's own conditions. Written by a program of this session. -/
import Derived.Test.YtdajdpgnhjlbaaaDoorPLeasex0
import Derived.Test.YtdajdpgnhjlbaaaDoorPLeasex4
import Derived.Test.YtdajdpgnhjlbaaaDoorPLeasex5
import Derived.Test.YtdajdpgnhjlbaaaDoorPLeasex8
import Derived.Test.YtdajdpgnhjlbaaaDoorPLeasex11
namespace Go.Proofs.YtdajdpgnhjlbaaaDoor.PLease
open Go.RowKit Go.Proofs.YtdajdpgnhjlbaaaDoorW.PrintWords Go.Proofs.YtdajdpgnhjlbaaaDoorW.PrintLast Go.Proofs.YtdajdpgnhjlbaaaDoorW.PrintMore
attribute [local go_sem] max2_int min2_int max_two min_two max_three min_three max_four min_four   -- for this text's walks alone
set_option linter.unusedVariables false
set_option linter.unusedSimpArgs false

/-! ### boarderlaw24_LeaseRows: function 8 -/
mutual
def boarderlaw24_LeaseRows.j0 : Nat → List (S23) → List (S23) → Bool → Option (Bool)
  | 0, _, _, _ => none
  | k + 1, x0, x1, x28 => if x28 = true then ((boarderlaw24_knows.f k).bind fun t428 => (some t428)) else ((some (([] : List (S23)) : List (S23))).bind fun y429 => (if y429.length + x0.length < 3518437208883 then ((some (y429 ++ x0 : List (S23))).bind fun y432 => (if y432.length + x1.length < 3518437208883 then ((some (y432 ++ x1 : List (S23))).bind fun y435 => ((ltext_Print.f k x0).bind fun bt438 => ((ltext_Print.f k x1).bind fun bt440 => (if bt438.1.size + bt440.1.size ≤ 9223372036854775807 then ((ltext_Parse.f k (bt438.1 ++ bt440.1)).bind fun bt442 => (if bt438.2 = 0 then (boarderlaw24_LeaseRows.j1 k y435 bt442.1 bt442.2.1 bt442.2.2 (bt440.2 != 0)) else (boarderlaw24_LeaseRows.j1 k y435 bt442.1 bt442.2.1 bt442.2.2 true))) else (none))))) else (none))) else (none)))
def boarderlaw24_LeaseRows.j1 : Nat → List (S23) → List (S23) → Int → Int → Bool → Option (Bool)
  | 0, _, _, _, _, _ => none
  | k + 1, x5, x10, x11, x12, x58 => if x58 = true then (none) else ((boarderref12_Right.f k x5).bind fun t447 => (if t447 = true then ((boarderref10_SameLeases.f k x10 x5).bind fun t448 => (if t448 = true then (if x12 = 0 then ((boarderlaw24_knows.f k).bind fun t449 => (some t449)) else (none)) else (none))) else (if (x10.length : Int) = 0 then (if x11 > 0 then (if x12 = 2 then ((boarderlaw24_knows.f k).bind fun t450 => (some t450)) else (none)) else (none)) else (none))))
end
def boarderlaw24_LeaseRows.f (k : Nat) (l0 : List (S23)) (l1 : List (S23)) : Option (Bool) := (boarderlaw12_Great.f k l0).bind fun t424 => (if t424 = true then (boarderlaw24_LeaseRows.j0 k l0 l1 true) else ((boarderlaw12_Great.f k l1).bind fun t425 => (if t425 = true then (boarderlaw24_LeaseRows.j0 k l0 l1 true) else ((boarderref12_Right.f k l0).bind fun t426 => (if t426 = true then ((boarderref12_Right.f k l1).bind fun t427 => (boarderlaw24_LeaseRows.j0 k l0 l1 (!t427))) else (boarderlaw24_LeaseRows.j0 k l0 l1 true))))))
set_option maxHeartbeats 8000000 in
set_option maxRecDepth 100000 in
theorem boarderlaw24_LeaseRows.calls (k : Nat) (A0 : Option Addr) (c0 : Nat) (l0 : List (S23)) (A1 : Option Addr) (c1 : Nat) (l1 : List (S23)) (r : Bool) (w : World) (hr0 : Kd.C k23 w A0 l0.length l0) (hc0 : l0.length ≤ c0) (hr1 : Kd.C k23 w A1 l1.length l1) (hc1 : l1.length ≤ c1) (hT : TabW w) (h : boarderlaw24_LeaseRows.f k l0 l1 = some r) :
    Calls Tryd.prog 8 #[.slice A0 l0.length c0, .slice A1 l1.length c1] w fun e w' => e = .returned (.bool r) ∧ Below w.heap.size w w' := by
 have HR0 := Aside0.mk hr0
 have HC0 := Aside0.mk hc0
 clear hr0 hc0
 have HR1 := Aside0.mk hr1
 have HC1 := Aside0.mk hc1
 clear hr1 hc1
 have HT := Aside0.mk hT
 clear hT
 have HRT1 := Aside0.mk HT.out.t1
 have HRT0 := Aside0.mk HT.out.t0
 have HB := Aside0.mk (Below.refl w.heap.size w)
 have H : ((boarderlaw12_Great.f k l0).bind fun t424 => (if t424 = true then (boarderlaw24_LeaseRows.j0 k l0 l1 true) else ((boarderlaw12_Great.f k l1).bind fun t425 => (if t425 = true then (boarderlaw24_LeaseRows.j0 k l0 l1 true) else ((boarderref12_Right.f k l0).bind fun t426 => (if t426 = true then ((boarderref12_Right.f k l1).bind fun t427 => (boarderlaw24_LeaseRows.j0 k l0 l1 (!t427))) else (boarderlaw24_LeaseRows.j0 k l0 l1 true))))))) = some r := h
 clear h
 have HC3 := Aside0.mk H
 clear H
 go_enter Tryd.func8, Tryd.ntmps8
 go_upto_region 1 with (fail)
 go_cut [28] (fun v28 wc => ∃ (kq : Nat) (x28_2 : Bool), v28 = .bool x28_2 ∧ Aside0 (boarderlaw24_LeaseRows.j0 kq l0 l1 x28_2 = some r) ∧ Aside0 (kq ≤ k) ∧ Aside0 (Below w.heap.size w wc))
 case first =>
  have H := HC3.out
  clear HC3
  replace H := Option.bind_eq_some_iff.mp H
  obtain ⟨t424, A40, H⟩ := H
  replace H : (if t424 = true then (boarderlaw24_LeaseRows.j0 k l0 l1 true) else ((boarderlaw12_Great.f k l1).bind fun t425 => (if t425 = true then (boarderlaw24_LeaseRows.j0 k l0 l1 true) else ((boarderref12_Right.f k l0).bind fun t426 => (if t426 = true then ((boarderref12_Right.f k l1).bind fun t427 => (boarderlaw24_LeaseRows.j0 k l0 l1 (!t427))) else (boarderlaw24_LeaseRows.j0 k l0 l1 true)))))) = some r := H
  have A4 := Aside0.mk A40
  clear A40
  by_cases c5 : t424 = true
  · subst c5
    have H1 : (boarderlaw24_LeaseRows.j0 k l0 l1 true) = some r := by rw [if_pos rfl] at H; exact H
    clear H
    have H := H1
    clear H1
    have H' := Aside0.mk H
    clear H
    go_wp2_with (first | ((with_reducible refine gate_callee (f := 18) rfl ?_); refine goesL_ (some 14) rfl rfl Tryd.func18 (by kernel_rfl) rfl #[.slice A0 l0.length c0] rfl sqA ?_; (with_reducible refine (boarderlaw12_Great.calls _ _ _ _ _ _ ?side1 ?side2 A4.out).mono ?_); (case side1 => repeat (first | exact (Kd.C_below HR0.out HB.out) | (with_reducible refine Kd.C_alloc ?_ _) | (with_reducible refine Kd.C_drewN ?_ _) | (with_reducible refine Kd.C_drew ?_))); (case side2 => exact HC0.out); rintro e w' ⟨rfl, ⟨nd, rfl⟩⟩; refine ⟨_, rfl, ?_⟩))
    go_meet
    case rel => exact ⟨_, (true), sqI, H', ⟨by first | omega | exact Nat.le_refl _⟩, ⟨sqB HB.out⟩⟩
  replace c5 := Bool.eq_false_iff.mpr c5
  subst c5
  have H1 : ((boarderlaw12_Great.f k l1).bind fun t425 => (if t425 = true then (boarderlaw24_LeaseRows.j0 k l0 l1 true) else ((boarderref12_Right.f k l0).bind fun t426 => (if t426 = true then ((boarderref12_Right.f k l1).bind fun t427 => (boarderlaw24_LeaseRows.j0 k l0 l1 (!t427))) else (boarderlaw24_LeaseRows.j0 k l0 l1 true))))) = some r := by rw [if_neg (show ¬ (false = true) by decide)] at H; exact H
  clear H
  have H := H1
  clear H1
  replace H := Option.bind_eq_some_iff.mp H
  obtain ⟨t425, A60, H⟩ := H
  replace H : (if t425 = true then (boarderlaw24_LeaseRows.j0 k l0 l1 true) else ((boarderref12_Right.f k l0).bind fun t426 => (if t426 = true then ((boarderref12_Right.f k l1).bind fun t427 => (boarderlaw24_LeaseRows.j0 k l0 l1 (!t427))) else (boarderlaw24_LeaseRows.j0 k l0 l1 true)))) = some r := H
  have A6 := Aside0.mk A60
  clear A60
  by_cases c7 : t425 = true
  · subst c7
    have H1 : (boarderlaw24_LeaseRows.j0 k l0 l1 true) = some r := by rw [if_pos rfl] at H; exact H
    clear H
    have H := H1
    clear H1
    have H' := Aside0.mk H
    clear H
    go_wp2_with (first | ((with_reducible refine gate_callee (f := 18) rfl ?_); refine goesL_ (some 14) rfl rfl Tryd.func18 (by kernel_rfl) rfl #[.slice A0 l0.length c0] rfl sqA ?_; (with_reducible refine (boarderlaw12_Great.calls _ _ _ _ _ _ ?side1 ?side2 A4.out).mono ?_); (case side1 => repeat (first | exact (Kd.C_below HR0.out HB.out) | (with_reducible refine Kd.C_alloc ?_ _) | (with_reducible refine Kd.C_drewN ?_ _) | (with_reducible refine Kd.C_drew ?_))); (case side2 => exact HC0.out); rintro e w' ⟨rfl, ⟨nd, rfl⟩⟩; refine ⟨_, rfl, ?_⟩) | (go_at_call 18; (with_reducible refine (boarderlaw12_Great.calls _ _ _ _ _ _ ?side1 ?side2 A6.out).mono ?_); (case side1 => repeat (first | exact (Kd.C_below HR1.out (sqB HB.out)) | (with_reducible refine Kd.C_alloc ?_ _) | (with_reducible refine Kd.C_drewN ?_ _) | (with_reducible refine Kd.C_drew ?_))); (case side2 => exact HC1.out); rintro e w' ⟨rfl, ⟨nd, rfl⟩⟩))
    go_meet
    case rel => exact ⟨_, (true), sqI, H', ⟨by first | omega | exact Nat.le_refl _⟩, ⟨sqB HB.out⟩⟩
  replace c7 := Bool.eq_false_iff.mpr c7
  subst c7
  have H1 : ((boarderref12_Right.f k l0).bind fun t426 => (if t426 = true then ((boarderref12_Right.f k l1).bind fun t427 => (boarderlaw24_LeaseRows.j0 k l0 l1 (!t427))) else (boarderlaw24_LeaseRows.j0 k l0 l1 true))) = some r := by rw [if_neg (show ¬ (false = true) by decide)] at H; exact H
  clear H
  have H := H1
  clear H1
  replace H := Option.bind_eq_some_iff.mp H
  obtain ⟨t426, A80, H⟩ := H
  replace H : (if t426 = true then ((boarderref12_Right.f k l1).bind fun t427 => (boarderlaw24_LeaseRows.j0 k l0 l1 (!t427))) else (boarderlaw24_LeaseRows.j0 k l0 l1 true)) = some r := H
  have A8 := Aside0.mk A80
  clear A80
  by_cases c9 : t426 = true
  rotate_left
  · replace c9 := Bool.eq_false_iff.mpr c9
    subst c9
    have H1 : (boarderlaw24_LeaseRows.j0 k l0 l1 true) = some r := by rw [if_neg (show ¬ (false = true) by decide)] at H; exact H
    clear H
    have H := H1
    clear H1
    have H' := Aside0.mk H
    clear H
    go_wp2_with (first | ((with_reducible refine gate_callee (f := 18) rfl ?_); refine goesL_ (some 14) rfl rfl Tryd.func18 (by kernel_rfl) rfl #[.slice A0 l0.length c0] rfl sqA ?_; (with_reducible refine (boarderlaw12_Great.calls _ _ _ _ _ _ ?side1 ?side2 A4.out).mono ?_); (case side1 => repeat (first | exact (Kd.C_below HR0.out HB.out) | (with_reducible refine Kd.C_alloc ?_ _) | (with_reducible refine Kd.C_drewN ?_ _) | (with_reducible refine Kd.C_drew ?_))); (case side2 => exact HC0.out); rintro e w' ⟨rfl, ⟨nd, rfl⟩⟩; refine ⟨_, rfl, ?_⟩) | (go_at_call 18; (with_reducible refine (boarderlaw12_Great.calls _ _ _ _ _ _ ?side1 ?side2 A6.out).mono ?_); (case side1 => repeat (first | exact (Kd.C_below HR1.out (sqB HB.out)) | (with_reducible refine Kd.C_alloc ?_ _) | (with_reducible refine Kd.C_drewN ?_ _) | (with_reducible refine Kd.C_drew ?_))); (case side2 => exact HC1.out); rintro e w' ⟨rfl, ⟨nd, rfl⟩⟩) | (go_at_call 20; (with_reducible refine (boarderref12_Right.calls _ _ _ _ _ _ ?side1 ?side2 A8.out).mono ?_); (case side1 => repeat (first | exact (Kd.C_below HR0.out (sqB HB.out)) | (with_reducible refine Kd.C_alloc ?_ _) | (with_reducible refine Kd.C_drewN ?_ _) | (with_reducible refine Kd.C_drew ?_))); (case side2 => exact HC0.out); rintro e w13 ⟨rfl, hb⟩; replace HB := sqM (below_step (sqB HB.out) hb); (try clear hb); (try clear hb2); (try clear hk); (try clear hi)))
    go_meet
    case rel => exact ⟨_, (true), sqI, H', ⟨by first | omega | exact Nat.le_refl _⟩, ⟨sqB HB.out⟩⟩
  subst c9
  have H1 : ((boarderref12_Right.f k l1).bind fun t427 => (boarderlaw24_LeaseRows.j0 k l0 l1 (!t427))) = some r := by rw [if_pos rfl] at H; exact H
  clear H
  have H := H1
  clear H1
  replace H := Option.bind_eq_some_iff.mp H
  obtain ⟨t427, A100, H⟩ := H
  replace H : (boarderlaw24_LeaseRows.j0 k l0 l1 (!t427)) = some r := H
  have A10 := Aside0.mk A100
  clear A100
  have H' := Aside0.mk H
  clear H
  go_wp2_with (first | ((with_reducible refine gate_callee (f := 18) rfl ?_); refine goesL_ (some 14) rfl rfl Tryd.func18 (by kernel_rfl) rfl #[.slice A0 l0.length c0] rfl sqA ?_; (with_reducible refine (boarderlaw12_Great.calls _ _ _ _ _ _ ?side1 ?side2 A4.out).mono ?_); (case side1 => repeat (first | exact (Kd.C_below HR0.out HB.out) | (with_reducible refine Kd.C_alloc ?_ _) | (with_reducible refine Kd.C_drewN ?_ _) | (with_reducible refine Kd.C_drew ?_))); (case side2 => exact HC0.out); rintro e w' ⟨rfl, ⟨nd, rfl⟩⟩; refine ⟨_, rfl, ?_⟩) | (go_at_call 18; (with_reducible refine (boarderlaw12_Great.calls _ _ _ _ _ _ ?side1 ?side2 A6.out).mono ?_); (case side1 => repeat (first | exact (Kd.C_below HR1.out (sqB HB.out)) | (with_reducible refine Kd.C_alloc ?_ _) | (with_reducible refine Kd.C_drewN ?_ _) | (with_reducible refine Kd.C_drew ?_))); (case side2 => exact HC1.out); rintro e w' ⟨rfl, ⟨nd, rfl⟩⟩) | (go_at_call 20; (with_reducible refine (boarderref12_Right.calls _ _ _ _ _ _ ?side1 ?side2 A8.out).mono ?_); (case side1 => repeat (first | exact (Kd.C_below HR0.out (sqB HB.out)) | (with_reducible refine Kd.C_alloc ?_ _) | (with_reducible refine Kd.C_drewN ?_ _) | (with_reducible refine Kd.C_drew ?_))); (case side2 => exact HC0.out); rintro e w11 ⟨rfl, hb⟩; replace HB := sqM (below_step (sqB HB.out) hb); (try clear hb); (try clear hb2); (try clear hk); (try clear hi)) | (go_at_call 20; (with_reducible refine (boarderref12_Right.calls _ _ _ _ _ _ ?side1 ?side2 A10.out).mono ?_); (case side1 => repeat (first | exact (Kd.C_below HR1.out HB.out) | (with_reducible refine Kd.C_alloc ?_ _) | (with_reducible refine Kd.C_drewN ?_ _) | (with_reducible refine Kd.C_drew ?_))); (case side2 => exact HC1.out); rintro e w12 ⟨rfl, hb⟩; replace HB := sqM (below_step (sqB HB.out) hb); (try clear hb); (try clear hb2); (try clear hk); (try clear hi)))
  go_meet
  case rel => exact ⟨_, (!t427), sqI, H', ⟨by first | omega | exact Nat.le_refl _⟩, ⟨sqB HB.out⟩⟩
 clear HC3
 try clear c1
 try clear p2
 try clear c5
 try clear c7
 try clear c8
 try clear c9
 obtain ⟨kq, x28_2, rfl, HA, HJ2, HB⟩ := hcut
 cases kq with
 | zero => exact absurd HA.out (by simp [boarderlaw24_LeaseRows.j0])
 | succ kj2 => ?_
 have H := HA.out
 clear HA
 simp only [boarderlaw24_LeaseRows.j0] at H
 by_cases c14 : x28_2 = true
 · subst c14
   have H1 : ((boarderlaw24_knows.f kj2).bind fun t428 => (some t428)) = some r := by rw [if_pos rfl] at H; exact H
   clear H
   have H := H1
   clear H1
   replace H := Option.bind_eq_some_iff.mp H
   obtain ⟨t428, A150, H⟩ := H
   replace H : (some t428) = some r := H
   have A15 := Aside0.mk A150
   clear A150
   obtain rfl := Option.some.inj H
   go_wp2_with (first | ((with_reducible refine gate_callee (f := 12) rfl ?_); refine goesL_ (some 29) rfl rfl Tryd.func12 (by kernel_rfl) rfl #[] rfl sqA ?_; (with_reducible refine (boarderlaw24_knows.calls kj2  t428 _ ?side1 A15.out).mono ?_); (case side1 => first | exact HT.out | exact TabW.below HT.out (sqB HB.out) | exact TabW.drawn HT.out ⟨_, rfl⟩); rintro e w16 ⟨rfl, hb⟩; refine ⟨_, rfl, ?_⟩; replace HB := sqM (below_step (sqB HB.out) hb); (try clear hb); (try clear hb2); (try clear hk); (try clear hi)))
   go_ret
   exact ⟨sqE, sqB HB.out⟩
 replace c14 := Bool.eq_false_iff.mpr c14
 subst c14
 have H1 : ((some (([] : List (S23)) : List (S23))).bind fun y429 => (if y429.length + l0.length < 3518437208883 then ((some (y429 ++ l0 : List (S23))).bind fun y432 => (if y432.length + l1.length < 3518437208883 then ((some (y432 ++ l1 : List (S23))).bind fun y435 => ((ltext_Print.f kj2 l0).bind fun bt438 => ((ltext_Print.f kj2 l1).bind fun bt440 => (if bt438.1.size + bt440.1.size ≤ 9223372036854775807 then ((ltext_Parse.f kj2 (bt438.1 ++ bt440.1)).bind fun bt442 => (if bt438.2 = 0 then (boarderlaw24_LeaseRows.j1 kj2 y435 bt442.1 bt442.2.1 bt442.2.2 (bt440.2 != 0)) else (boarderlaw24_LeaseRows.j1 kj2 y435 bt442.1 bt442.2.1 bt442.2.2 true))) else (none))))) else (none))) else (none))) = some r := by rw [if_neg (show ¬ (false = true) by decide)] at H; exact H
 clear H
 have H := H1
 clear H1
 obtain ⟨y429, hy429⟩ : ∃ y_ : List (S23), y_ = (([] : List (S23))) := ⟨_, rfl⟩
 replace H : (if y429.length + l0.length < 3518437208883 then ((some (y429 ++ l0 : List (S23))).bind fun y432 => (if y432.length + l1.length < 3518437208883 then ((some (y432 ++ l1 : List (S23))).bind fun y435 => ((ltext_Print.f kj2 l0).bind fun bt438 => ((ltext_Print.f kj2 l1).bind fun bt440 => (if bt438.1.size + bt440.1.size ≤ 9223372036854775807 then ((ltext_Parse.f kj2 (bt438.1 ++ bt440.1)).bind fun bt442 => (if bt438.2 = 0 then (boarderlaw24_LeaseRows.j1 kj2 y435 bt442.1 bt442.2.1 bt442.2.2 (bt440.2 != 0)) else (boarderlaw24_LeaseRows.j1 kj2 y435 bt442.1 bt442.2.1 bt442.2.2 true))) else (none))))) else (none))) else (none)) = some r := by first | (rw [hy429]; with_reducible exact H) | (have H2_ := (Option.bind_some _ _).symm.trans H; rw [hy429]; with_reducible exact H2_) | (have H2_ := (Option.bind_some _ _).symm.trans H; with_reducible exact H2_) | with_reducible exact H | (rw [hy429]; exact H) | exact H
 have Ny429 := Aside0.mk hy429
 clear hy429
 by_cases c17 : y429.length + l0.length < 3518437208883
 rotate_left
 · rw [if_neg c17] at H
   exact absurd H (by simp)
 rw [if_pos c17] at H
 have LMc17 := Aside0.mk c17
 clear c17
 obtain ⟨y432, hy432⟩ : ∃ y_ : List (S23), y_ = (y429 ++ l0) := ⟨_, rfl⟩
 replace H : (if y432.length + l1.length < 3518437208883 then ((some (y432 ++ l1 : List (S23))).bind fun y435 => ((ltext_Print.f kj2 l0).bind fun bt438 => ((ltext_Print.f kj2 l1).bind fun bt440 => (if bt438.1.size + bt440.1.size ≤ 9223372036854775807 then ((ltext_Parse.f kj2 (bt438.1 ++ bt440.1)).bind fun bt442 => (if bt438.2 = 0 then (boarderlaw24_LeaseRows.j1 kj2 y435 bt442.1 bt442.2.1 bt442.2.2 (bt440.2 != 0)) else (boarderlaw24_LeaseRows.j1 kj2 y435 bt442.1 bt442.2.1 bt442.2.2 true))) else (none))))) else (none)) = some r := by first | (rw [hy432]; with_reducible exact H) | (have H2_ := (Option.bind_some _ _).symm.trans H; rw [hy432]; with_reducible exact H2_) | (have H2_ := (Option.bind_some _ _).symm.trans H; with_reducible exact H2_) | with_reducible exact H | (rw [hy432]; exact H) | exact H
 have Ny432 := Aside0.mk hy432
 clear hy432
 by_cases c18 : y432.length + l1.length < 3518437208883
 rotate_left
 · rw [if_neg c18] at H
   exact absurd H (by simp)
 rw [if_pos c18] at H
 have LMc18 := Aside0.mk c18
 clear c18
 obtain ⟨y435, hy435⟩ : ∃ y_ : List (S23), y_ = (y432 ++ l1) := ⟨_, rfl⟩
 replace H : ((ltext_Print.f kj2 l0).bind fun bt438 => ((ltext_Print.f kj2 l1).bind fun bt440 => (if bt438.1.size + bt440.1.size ≤ 9223372036854775807 then ((ltext_Parse.f kj2 (bt438.1 ++ bt440.1)).bind fun bt442 => (if bt438.2 = 0 then (boarderlaw24_LeaseRows.j1 kj2 y435 bt442.1 bt442.2.1 bt442.2.2 (bt440.2 != 0)) else (boarderlaw24_LeaseRows.j1 kj2 y435 bt442.1 bt442.2.1 bt442.2.2 true))) else (none)))) = some r := by first | (rw [hy435]; with_reducible exact H) | (have H2_ := (Option.bind_some _ _).symm.trans H; rw [hy435]; with_reducible exact H2_) | (have H2_ := (Option.bind_some _ _).symm.trans H; with_reducible exact H2_) | with_reducible exact H | (rw [hy435]; exact H) | exact H
 have Ny435 := Aside0.mk hy435
 clear hy435
 replace H := Option.bind_eq_some_iff.mp H
 obtain ⟨⟨t438, t439⟩, A190, H⟩ := H
 replace H : ((ltext_Print.f kj2 l1).bind fun bt440 => (if t438.size + bt440.1.size ≤ 9223372036854775807 then ((ltext_Parse.f kj2 (t438 ++ bt440.1)).bind fun bt442 => (if t439 = 0 then (boarderlaw24_LeaseRows.j1 kj2 y435 bt442.1 bt442.2.1 bt442.2.2 (bt440.2 != 0)) else (boarderlaw24_LeaseRows.j1 kj2 y435 bt442.1 bt442.2.1 bt442.2.2 true))) else (none))) = some r := H
 have A19 := Aside0.mk A190
 clear A190
 replace H := Option.bind_eq_some_iff.mp H
 obtain ⟨⟨t440, t441⟩, A200, H⟩ := H
 replace H : (if t438.size + t440.size ≤ 9223372036854775807 then ((ltext_Parse.f kj2 (t438 ++ t440)).bind fun bt442 => (if t439 = 0 then (boarderlaw24_LeaseRows.j1 kj2 y435 bt442.1 bt442.2.1 bt442.2.2 (t441 != 0)) else (boarderlaw24_LeaseRows.j1 kj2 y435 bt442.1 bt442.2.1 bt442.2.2 true))) else (none)) = some r := H
 have A20 := Aside0.mk A200
 clear A200
 by_cases c21 : t438.size + t440.size ≤ 9223372036854775807
 rotate_left
 · rw [if_neg c21] at H
   exact absurd H (by simp)
 rw [if_pos c21] at H
 have c21b0 := eq_true c21
 have c21b1 : decide (t438.size + t440.size ≤ 9223372036854775807) = true := decide_eq_true c21
 try have c21b2 : (9223372036854775807 < t438.size + t440.size) = False := eq_false (Nat.not_lt.2 c21)
 (try (have c21q := c21; simp only [ByteArray.size_append, Com.mk_size, List.size_toArray, List.length_cons, List.length_nil, Nat.zero_add] at c21q; have c21b3 := eq_false (Nat.not_lt.2 c21q); have c21b4 := eq_true c21q; clear c21q))
 replace H := Option.bind_eq_some_iff.mp H
 obtain ⟨⟨t442, t443, t444⟩, A220, H⟩ := H
 replace H : (if t439 = 0 then (boarderlaw24_LeaseRows.j1 kj2 y435 t442 t443 t444 (t441 != 0)) else (boarderlaw24_LeaseRows.j1 kj2 y435 t442 t443 t444 true)) = some r := H
 have A22 := Aside0.mk A220
 clear A220
 have HC23 := Aside0.mk H
 clear H
 go_upto_region 7 with (first | ((with_reducible refine gate_dst (N := 30) rfl ?_); refine Kd.R_lit k23 _ 23 ?hg (N := 30) ?hd (xs := ([] : List (S23))) (inner := []) (ok := fun _ => True) (okp := fun _ => True) ?hr ?hp (fun _ hk => hk) trivial (Below.refl _ _) (Nat.le_refl _) (by simp) ?_; (case hd => rfl); (case hg => rfl); (case hr => first | (go_simp; done) | (go_simp; rfl)); (case hp => exact (Reps.none _ _)); intro v430 w24 ho25 hb hg_ hnew_; clear hg_ hnew_; (first | rw [← Ny429.out] at ho25 | (simp only [Int.reduceToNat] at ho25; rw [← Ny429.out] at ho25)); have HO431 := sqM (Kd.R_lower ho25 (below_size (sqB HB.out))); replace HB := sqM (below_step (sqB HB.out) hb); clear hb ho25) | ((with_reducible refine gate_builtin (b := .append) (xs := #[.tmp 30, .tmp 31]) rfl ?_); at_builtin; refine Kd.R_append_rows k23 (w0 := w) w.heap.size rfl (.tmp 30) (.tmp 31) 36 23 (.agg #[(.int .i64 0), (.int .i64 0), (.int .i64 0), (.string ⟨#[]⟩)]) 40 rfl Tryd.underlying36 info23 rfl (by decide) (by omega) v430 y429 l0 _ _ _ (fun _ => True) (fun _ => False) rfl rfl ?aO ?aR (fun _ _ h => h) (fun _ h => h.elim) ?aF ?aB ?aS ?aL ?_; (case aR => repeat (first | exact (Kd.C_below HR0.out HB.out) | (with_reducible refine Kd.C_alloc ?_ _) | (with_reducible refine Kd.C_drewN ?_ _) | (with_reducible refine Kd.C_drew ?_))); (case aB => exact (sqB HB.out)); (case aF => exact (fun _ _ => trivial)); (case aO => exact (sqR HO431.out)); (case aS => exact (below_size (sqB HB.out))); (case aL => have := LMc17.out; omega); intro v433 w26 ho hb hg hat; rw [← Ny432.out] at ho; have HO434 := sqM (ho); replace HB := sqM (hb); clear HO431; clear ho hb hg hat) | ((with_reducible refine gate_builtin (b := .append) (xs := #[.tmp 32, .tmp 33]) rfl ?_); at_builtin; refine Kd.R_append_rows k23 (w0 := w) w.heap.size rfl (.tmp 32) (.tmp 33) 36 23 (.agg #[(.int .i64 0), (.int .i64 0), (.int .i64 0), (.string ⟨#[]⟩)]) 40 rfl Tryd.underlying36 info23 rfl (by decide) (by omega) v433 y432 l1 _ _ _ (fun _ => True) (fun _ => False) rfl rfl ?aO ?aR (fun _ _ h => h) (fun _ h => h.elim) ?aF ?aB ?aS ?aL ?_; (case aR => repeat (first | exact (Kd.C_below HR1.out HB.out) | (with_reducible refine Kd.C_alloc ?_ _) | (with_reducible refine Kd.C_drewN ?_ _) | (with_reducible refine Kd.C_drew ?_))); (case aB => exact (sqB HB.out)); (case aF => exact (fun _ _ => trivial)); (case aO => exact (sqR HO434.out)); (case aS => exact (below_size (sqB HB.out))); (case aL => have := LMc18.out; omega); intro v436 w27 ho hb hg hat; rw [← Ny435.out] at ho; have HO437 := sqM (ho); replace HB := sqM (hb); clear HO434; clear ho hb hg hat) | ((with_reducible refine gate_callee (f := 19) rfl ?_); refine goesL_ (some 37) rfl rfl Tryd.func19 (by kernel_rfl) rfl #[.slice A0 l0.length c0] rfl sqA ?_; (with_reducible refine (ltext_Print.calls _ _ _ _ _ _ _ ?side1 ?side2 ?side3 A19.out).mono ?_); (case side1 => repeat (first | exact (Kd.C_below HR0.out HB.out) | (with_reducible refine Kd.C_alloc ?_ _) | (with_reducible refine Kd.C_drewN ?_ _) | (with_reducible refine Kd.C_drew ?_))); (case side2 => exact HC0.out); (case side3 => first | exact HT.out | exact TabW.below HT.out (sqB HB.out) | exact TabW.drawn HT.out ⟨_, rfl⟩); rintro e w28 ⟨rfl, hb⟩; refine ⟨_, rfl, ?_⟩; replace HO437 := sqM (Kd.R_below (sqR HO437.out) hb); replace HB := sqM (below_step (sqB HB.out) hb); (try clear hb); (try clear hb2); (try clear hk); (try clear hi)) | ((with_reducible refine gate_callee (f := 19) rfl ?_); refine goesL_ (some 42) rfl rfl Tryd.func19 (by kernel_rfl) rfl #[.slice A1 l1.length c1] rfl sqA ?_; (with_reducible refine (ltext_Print.calls _ _ _ _ _ _ _ ?side1 ?side2 ?side3 A20.out).mono ?_); (case side1 => repeat (first | exact (Kd.C_below HR1.out HB.out) | (with_reducible refine Kd.C_alloc ?_ _) | (with_reducible refine Kd.C_drewN ?_ _) | (with_reducible refine Kd.C_drew ?_))); (case side2 => exact HC1.out); (case side3 => first | exact HT.out | exact TabW.below HT.out (sqB HB.out) | exact TabW.drawn HT.out ⟨_, rfl⟩); rintro e w29 ⟨rfl, hb⟩; refine ⟨_, rfl, ?_⟩; replace HO437 := sqM (Kd.R_below (sqR HO437.out) hb); replace HB := sqM (below_step (sqB HB.out) hb); (try clear hb); (try clear hb2); (try clear hk); (try clear hi)) | ((with_reducible refine gate_callee (f := 21) rfl ?_); refine goesL_ (some 49) rfl rfl Tryd.func21 (by kernel_rfl) rfl #[.string (t438 ++ t440)] rfl sqA ?_; (with_reducible refine (ltext_Parse.calls _ _ _ _ _ _ ?side1 A22.out).mono ?_); (case side1 => first | exact HT.out | exact TabW.below HT.out (sqB HB.out) | exact TabW.drawn HT.out ⟨_, rfl⟩); rintro e w30 ⟨v445, rfl, ho0, hb⟩; refine ⟨_, rfl, ?_⟩; have HO446 := sqM (Kd.R_lower (Kd.R_new' ho0 (Kd.R_lt (sqR HO437.out))) (below_size (sqB HB.out))); replace HO437 := sqM (Kd.R_elder' (sqR HO437.out) (Kd.R_base ho0) hb); replace HB := sqM (below_step (sqB HB.out) hb); (try clear hb); (try clear hb2); (try clear hk); (try clear hi); (try clear ho0)))
 (try simp only [Act.put, List.setIfInBounds_toArray, List.set_cons_zero, List.set_cons_succ])
 go_cut [58] (fun v58 wc => ∃ (kq : Nat) (x58_22 : Bool), v58 = .bool x58_22 ∧ Aside0 (boarderlaw24_LeaseRows.j1 kq y435 t442 t443 t444 x58_22 = some r) ∧ Aside0 (kq ≤ kj2) ∧ Aside0 (Kd.R k23 23 wc w.heap.size (fun k_ => some k_ ≠ (v445 : Value).ownBlock) v436 y435) ∧ Aside0 (Kd.R k23 23 wc w.heap.size (fun k_ => some k_ ≠ (v436 : Value).ownBlock) v445 t442) ∧ Aside0 (Below w.heap.size w wc))
 case first =>
  have H := HC23.out
  clear HC23
  by_cases c31 : t439 = 0
  rotate_left
  · rw [if_neg c31] at H
    have c31b0 : (t439 == 0) = false := beq_eq_false_iff_ne.mpr c31
    have c31b1 : (t439 != 0) = true := bne_iff_ne.mpr c31
    (first | rw [c31b0] | (simp only [i64_w, i32_w]; rw [c31b0]) | skip)
    have H' := Aside0.mk H
    clear H
    go_wp2
    go_meet
    case rel => exact ⟨_, (true), sqI, H', ⟨by have := HJ2.out; first | omega | exact Nat.le_refl _⟩, ⟨by refine sqR ?_; exact Kd.R_mono HO437.out (fun _ hk => hk.2)⟩, ⟨by refine sqR ?_; exact Kd.R_mono HO446.out (fun _ hk => hk.2)⟩, ⟨sqB HB.out⟩⟩
  rw [if_pos c31] at H
  have c31b0 : (t439 == 0) = true := beq_iff_eq.mpr c31
  have c31b1 : (t439 != 0) = false := bne_eq_false_iff_eq.mpr c31
  clear c31
  (first | rw [c31b0] | (simp only [i64_w, i32_w]; rw [c31b0]) | skip)
  have H' := Aside0.mk H
  clear H
  go_wp2
  go_meet
  case rel => exact ⟨_, ((t441 != 0)), sqI, H', ⟨by have := HJ2.out; first | omega | exact Nat.le_refl _⟩, ⟨by refine sqR ?_; exact Kd.R_mono HO437.out (fun _ hk => hk.2)⟩, ⟨by refine sqR ?_; exact Kd.R_mono HO446.out (fun _ hk => hk.2)⟩, ⟨sqB HB.out⟩⟩
 clear HC23
 try clear c1
 try clear c2
 try clear p2
 try clear c3
 try clear c5
 try clear c7
 try clear c8
 try clear c9
 try clear c12
 try clear c14
 try clear c17
 try clear c18
 try clear c19
 try clear c21
 try clear c21b0
 try clear c21b1
 try clear c21b2
 try clear c31
 try clear c31b0
 try clear c31b1
 try clear p2
 obtain ⟨kq, x58_22, rfl, HA, HJ22, HO_5, HO_10, HB⟩ := hcut
 cases kq with
 | zero => exact absurd HA.out (by simp [boarderlaw24_LeaseRows.j1])
 | succ kj22 => ?_
 have H := HA.out
 clear HA
 simp only [boarderlaw24_LeaseRows.j1] at H
 by_cases c32 : x58_22 = true
 · subst c32
   have H1 : (none) = some r := by rw [if_pos rfl] at H; exact H
   clear H
   have H := H1
   clear H1
   exact absurd H (by simp)
 replace c32 := Bool.eq_false_iff.mpr c32
 subst c32
 have H1 : ((boarderref12_Right.f kj22 y435).bind fun t447 => (if t447 = true then ((boarderref10_SameLeases.f kj22 t442 y435).bind fun t448 => (if t448 = true then (if t444 = 0 then ((boarderlaw24_knows.f kj22).bind fun t449 => (some t449)) else (none)) else (none))) else (if (t442.length : Int) = 0 then (if t443 > 0 then (if t444 = 2 then ((boarderlaw24_knows.f kj22).bind fun t450 => (some t450)) else (none)) else (none)) else (none)))) = some r := by rw [if_neg (show ¬ (false = true) by decide)] at H; exact H
 clear H
 have H := H1
 clear H1
 replace H := Option.bind_eq_some_iff.mp H
 obtain ⟨t447, A330, H⟩ := H
 replace H : (if t447 = true then ((boarderref10_SameLeases.f kj22 t442 y435).bind fun t448 => (if t448 = true then (if t444 = 0 then ((boarderlaw24_knows.f kj22).bind fun t449 => (some t449)) else (none)) else (none))) else (if (t442.length : Int) = 0 then (if t443 > 0 then (if t444 = 2 then ((boarderlaw24_knows.f kj22).bind fun t450 => (some t450)) else (none)) else (none)) else (none))) = some r := H
 have A33 := Aside0.mk A330
 clear A330
 by_cases c34 : t447 = true
 rotate_left
 · replace c34 := Bool.eq_false_iff.mpr c34
   subst c34
   have H1 : (if (t442.length : Int) = 0 then (if t443 > 0 then (if t444 = 2 then ((boarderlaw24_knows.f kj22).bind fun t450 => (some t450)) else (none)) else (none)) else (none)) = some r := by rw [if_neg (show ¬ (false = true) by decide)] at H; exact H
   clear H
   have H := H1
   clear H1
   by_cases c43 : (t442.length : Int) = 0
   rotate_left
   · rw [if_neg c43] at H
     exact absurd H (by simp)
   rw [if_pos c43] at H
   have c43b0 : ((t442.length : Int) == 0) = true := beq_iff_eq.mpr c43
   have c43b1 : ((t442.length : Int) != 0) = false := bne_eq_false_iff_eq.mpr c43
   clear c43
   by_cases c44 : t443 > 0
   rotate_left
   · rw [if_neg c44] at H
     exact absurd H (by simp)
   rw [if_pos c44] at H
   have c44b0 : decide (0 < t443) = true := decide_eq_true c44
   clear c44
   by_cases c45 : t444 = 2
   rotate_left
   · rw [if_neg c45] at H
     exact absurd H (by simp)
   rw [if_pos c45] at H
   have c45b0 : (t444 == 2) = true := beq_iff_eq.mpr c45
   have c45b1 : (t444 != 2) = false := bne_eq_false_iff_eq.mpr c45
   clear c45
   replace H := Option.bind_eq_some_iff.mp H
   obtain ⟨t450, A460, H⟩ := H
   replace H : (some t450) = some r := H
   have A46 := Aside0.mk A460
   clear A460
   obtain rfl := Option.some.inj H
   obtain ⟨Ao47, co47, eo47⟩ := Kd.R_slice HO_5.out
   subst eo47
   go_wp2_with (first | ((with_reducible refine gate_callee (f := 20) rfl ?_); refine goesL_ (some 60) rfl rfl Tryd.func20 (by kernel_rfl) rfl #[.slice Ao47 y435.length co47] rfl sqA ?_; (with_reducible refine (boarderref12_Right.calls _ _ _ _ _ _ ?side1 ?side2 A33.out).mono ?_); (case side1 => repeat (first | exact (Kd.R_reads' HO_5.out).2.2 | (with_reducible refine Kd.C_alloc ?_ _) | (with_reducible refine Kd.C_drewN ?_ _) | (with_reducible refine Kd.C_drew ?_))); (case side2 => exact (Kd.R_reads' HO_5.out).2.1); rintro e w48 ⟨rfl, hb⟩; refine ⟨_, rfl, ?_⟩; replace HO_5 := sqM (Kd.R_below (sqR HO_5.out) hb); replace HO_10 := sqM (Kd.R_below (sqR HO_10.out) hb); replace HB := sqM (below_step (sqB HB.out) hb); (try clear hb); (try clear hb2); (try clear hk); (try clear hi); obtain ⟨Ao49, co49, eo49⟩ := Kd.R_slice HO_10.out; subst eo49) | (go_at_call 12; (with_reducible refine (boarderlaw24_knows.calls kj22  t450 _ ?side1 A46.out).mono ?_); (case side1 => first | exact HT.out | exact TabW.below HT.out (sqB HB.out) | exact TabW.drawn HT.out ⟨_, rfl⟩); rintro e w50 ⟨rfl, hb⟩; replace HO_5 := sqM (Kd.R_below (sqR HO_5.out) hb); replace HO_10 := sqM (Kd.R_below (sqR HO_10.out) hb); replace HB := sqM (below_step (sqB HB.out) hb); (try clear hb); (try clear hb2); (try clear hk); (try clear hi)))
   go_ret
   exact ⟨sqE, sqB HB.out⟩
 subst c34
 have H1 : ((boarderref10_SameLeases.f kj22 t442 y435).bind fun t448 => (if t448 = true then (if t444 = 0 then ((boarderlaw24_knows.f kj22).bind fun t449 => (some t449)) else (none)) else (none))) = some r := by rw [if_pos rfl] at H; exact H
 clear H
 have H := H1
 clear H1
 replace H := Option.bind_eq_some_iff.mp H
 obtain ⟨t448, A350, H⟩ := H
 replace H : (if t448 = true then (if t444 = 0 then ((boarderlaw24_knows.f kj22).bind fun t449 => (some t449)) else (none)) else (none)) = some r := H
 have A35 := Aside0.mk A350
 clear A350
 by_cases c36 : t448 = true
 rotate_left
 · replace c36 := Bool.eq_false_iff.mpr c36
   subst c36
   have H1 : (none) = some r := by rw [if_neg (show ¬ (false = true) by decide)] at H; exact H
   clear H
   have H := H1
   clear H1
   exact absurd H (by simp)
 subst c36
 have H1 : (if t444 = 0 then ((boarderlaw24_knows.f kj22).bind fun t449 => (some t449)) else (none)) = some r := by rw [if_pos rfl] at H; exact H
 clear H
 have H := H1
 clear H1
 by_cases c37 : t444 = 0
 rotate_left
 · rw [if_neg c37] at H
   exact absurd H (by simp)
 rw [if_pos c37] at H
 have c37b0 : (t444 == 0) = true := beq_iff_eq.mpr c37
 have c37b1 : (t444 != 0) = false := bne_eq_false_iff_eq.mpr c37
 clear c37
 replace H := Option.bind_eq_some_iff.mp H
 obtain ⟨t449, A380, H⟩ := H
 replace H : (some t449) = some r := H
 have A38 := Aside0.mk A380
 clear A380
 obtain rfl := Option.some.inj H
 obtain ⟨Ao39, co39, eo39⟩ := Kd.R_slice HO_5.out
 subst eo39
 go_wp2_with (first | ((with_reducible refine gate_callee (f := 20) rfl ?_); refine goesL_ (some 60) rfl rfl Tryd.func20 (by kernel_rfl) rfl #[.slice Ao39 y435.length co39] rfl sqA ?_; (with_reducible refine (boarderref12_Right.calls _ _ _ _ _ _ ?side1 ?side2 A33.out).mono ?_); (case side1 => repeat (first | exact (Kd.R_reads' HO_5.out).2.2 | (with_reducible refine Kd.C_alloc ?_ _) | (with_reducible refine Kd.C_drewN ?_ _) | (with_reducible refine Kd.C_drew ?_))); (case side2 => exact (Kd.R_reads' HO_5.out).2.1); rintro e w40 ⟨rfl, hb⟩; refine ⟨_, rfl, ?_⟩; replace HO_5 := sqM (Kd.R_below (sqR HO_5.out) hb); replace HO_10 := sqM (Kd.R_below (sqR HO_10.out) hb); replace HB := sqM (below_step (sqB HB.out) hb); (try clear hb); (try clear hb2); (try clear hk); (try clear hi); obtain ⟨Ao41, co41, eo41⟩ := Kd.R_slice HO_10.out; subst eo41) | ((with_reducible refine gate_callee (f := 23) rfl ?_); refine goesL_ (some 78) rfl rfl Tryd.func23 (by kernel_rfl) rfl #[.slice Ao41 t442.length co41, .slice Ao39 y435.length co39] rfl sqA ?_; (with_reducible refine (boarderref10_SameLeases.calls _ _ _ _ _ _ _ _ _ ?side1 ?side2 ?side3 ?side4 A35.out).mono ?_); (case side1 => repeat (first | exact (Kd.R_reads' HO_10.out).2.2 | (with_reducible refine Kd.C_alloc ?_ _) | (with_reducible refine Kd.C_drewN ?_ _) | (with_reducible refine Kd.C_drew ?_))); (case side2 => exact (Kd.R_reads' HO_10.out).2.1); (case side3 => repeat (first | exact (Kd.R_reads' HO_5.out).2.2 | (with_reducible refine Kd.C_alloc ?_ _) | (with_reducible refine Kd.C_drewN ?_ _) | (with_reducible refine Kd.C_drew ?_))); (case side4 => exact (Kd.R_reads' HO_5.out).2.1); rintro e w' ⟨rfl, ⟨nd, rfl⟩⟩; refine ⟨_, rfl, ?_⟩) | (go_at_call 12; (with_reducible refine (boarderlaw24_knows.calls kj22  t449 _ ?side1 A38.out).mono ?_); (case side1 => first | exact HT.out | exact TabW.below HT.out (sqB HB.out) | exact TabW.drawn HT.out ⟨_, rfl⟩); rintro e w42 ⟨rfl, hb⟩; replace HO_5 := sqM (Kd.R_below (sqR HO_5.out) hb); replace HO_10 := sqM (Kd.R_below (sqR HO_10.out) hb); replace HB := sqM (below_step (sqB HB.out) hb); (try clear hb); (try clear hb2); (try clear hk); (try clear hi)))
 go_ret
 exact ⟨sqE, sqB HB.out⟩

end Go.Proofs.YtdajdpgnhjlbaaaDoor.PLease
