/- Lean functions for Go functions of the given program, and proofs that the code computes them, each under its theorem's own conditions. Written by a program of this session. -/
import Derived.Test.YtdajdpgnhjlbaaaDoorPLeasex0
import Derived.Test.YtdajdpgnhjlbaaaDoorPLeasex1
import Derived.Test.YtdajdpgnhjlbaaaDoorPLeasex2
import Derived.Test.YtdajdpgnhjlbaaaDoorPLeasex3
import Derived.Test.YtdajdpgnhjlbaaaDoorPLeasex5
namespace Go.Proofs.YtdajdpgnhjlbaaaDoor.PLease
open Go.RowKit Go.Proofs.YtdajdpgnhjlbaaaDoorW.PrintWords Go.Proofs.YtdajdpgnhjlbaaaDoorW.PrintLast Go.Proofs.YtdajdpgnhjlbaaaDoorW.PrintMore
attribute [local go_sem] max2_int min2_int max_two min_two max_three min_three max_four min_four   -- for this text's walks alone
set_option linter.unusedVariables false
set_option linter.unusedSimpArgs false

attribute [local go_sem high] eqA23
/-! ### boarderlaw24_LeaseBack: function 5 -/
mutual
def boarderlaw24_LeaseBack.j0 : Nat → ByteArray → Bool → Int → Int → Int → ByteArray → Option (Bool)
  | 0, _, _, _, _, _, _ => none
  | k + 1, x1, x21, x353000, x353001, x353002, x353003 => if x21 = true then ((boarderlaw24_knows.f k).bind fun t353 => (some t353)) else ((ltext_Line.f k x353000 x353001 x353002 x353003).bind fun bt354 => (if bt354.2 = 0 then ((ltext_Lease.f k bt354.1).bind fun bt356 => (if (!(bt356.1 == x353000) || (!(bt356.2.1 == x353001) || (!(bt356.2.2.1 == x353002) || (!(bt356.2.2.2.1.toList == x353003.toList))))) = true then (none) else (if bt356.2.2.2.2 = 0 then (boarderlaw24_LeaseBack.j1 k x1) else (none)))) else (boarderlaw24_LeaseBack.j1 k x1)))
def boarderlaw24_LeaseBack.j1 : Nat → ByteArray → Option (Bool)
  | 0, _ => none
  | k + 1, x1 => (ltext_Lease.f k x1).bind fun bt362 => (if bt362.2.2.2.2 = 0 then ((ltext_Line.f k bt362.1 bt362.2.1 bt362.2.2.1 bt362.2.2.2.1).bind fun bt368 => (if bt368.1.toList = x1.toList then (if bt368.2 = 0 then ((boarderlaw24_knows.f k).bind fun t370 => (some t370)) else (none)) else (none))) else (if (bt362.1 == 0 && (bt362.2.1 == 0 && (bt362.2.2.1 == 0 && (bt362.2.2.2.1.toList == ([] : List UInt8))))) = true then ((boarderlaw24_knows.f k).bind fun t371 => (some t371)) else (none)))
end
def boarderlaw24_LeaseBack.f (k : Nat) (a0_0 : Int) (a0_1 : Int) (a0_2 : Int) (a0_3 : ByteArray) (a1 : ByteArray) : Option (Bool) := if (a0_3.size : Int) > 1000 then (boarderlaw24_LeaseBack.j0 k a1 true a0_0 a0_1 a0_2 a0_3) else (boarderlaw24_LeaseBack.j0 k a1 (decide ((a1.size : Int) > 1000)) a0_0 a0_1 a0_2 a0_3)
set_option maxHeartbeats 8000000 in
set_option maxRecDepth 100000 in
theorem boarderlaw24_LeaseBack.calls (k : Nat) (a0_0 : Int) (a0_1 : Int) (a0_2 : Int) (a0_3 : ByteArray) (a1 : ByteArray) (r : Bool) (w : World) (hT : TabW w) (h : boarderlaw24_LeaseBack.f k a0_0 a0_1 a0_2 a0_3 a1 = some r) :
    Calls Tryd.prog 5 #[.agg #[.int .i64 a0_0, .int .i64 a0_1, .int .i64 a0_2, .string a0_3], .string a1] w fun e w' => e = .returned (.bool r) ∧ Below w.heap.size w w' := by
 have hu23 := Tryd.underlying23
 have HT := Aside0.mk hT
 clear hT
 have HRT1 := Aside0.mk HT.out.t1
 have HRT0 := Aside0.mk HT.out.t0
 have HB := Aside0.mk (Below.refl w.heap.size w)
 have H : (if (a0_3.size : Int) > 1000 then (boarderlaw24_LeaseBack.j0 k a1 true a0_0 a0_1 a0_2 a0_3) else (boarderlaw24_LeaseBack.j0 k a1 (decide ((a1.size : Int) > 1000)) a0_0 a0_1 a0_2 a0_3)) = some r := h
 clear h
 have HC3 := Aside0.mk H
 clear H
 go_enter Tryd.func5, Tryd.ntmps5
 go_upto_region 1 with (first | ((with_reducible refine gate_dst (N := 2) rfl ?_); (try (refine gate_guard (by rfl) ?_; dsimp only)); refine box_event rfl (N := 2) rfl (cs := #[.int .i64 a0_0, .int .i64 a0_1, .int .i64 a0_2, .string a0_3]) (t := 23) sqs ?_; intro gb352 hg w4 hbox hb; have BK352 := sqM (hbox); have GW352 := sqM (sqZ hg (sqB HB.out)); have GE352 := sqM (sqZ hg (sqB HB.out)); replace HB := sqM (below_step (sqB HB.out) hb); clear hb hbox hg))
 (try simp only [Act.put, List.setIfInBounds_toArray, List.set_cons_zero, List.set_cons_succ])
 go_cut [21] (fun v21 wc => ∃ (kq : Nat) (x21_2 : Bool), v21 = .bool x21_2 ∧ Aside0 (boarderlaw24_LeaseBack.j0 kq a1 x21_2 a0_0 a0_1 a0_2 a0_3 = some r) ∧ Aside0 (kq ≤ k) ∧ Aside0 (wc.heap[gb352]? = some (.cells #[.int .i64 a0_0, .int .i64 a0_1, .int .i64 a0_2, .string a0_3] 23 (0, 0))) ∧ Aside0 (Below w.heap.size w wc))
 case first =>
  have H := HC3.out
  clear HC3
  by_cases c5 : (a0_3.size : Int) > 1000
  · rw [if_pos c5] at H
    have c5b0 : decide (1000 < (a0_3.size : Int)) = true := decide_eq_true c5
    have c5b1 : decide (1000 < a0_3.size) = true := decide_eq_true (by omega)
    clear c5
    (first | rw [c5b0] | (simp only [i64_w, i32_w]; rw [c5b0]) | skip)
    have H' := Aside0.mk H
    clear H
    obtain ⟨hcz6_0, hcz6_1, hcz6_2, hcz6_3, hfz6_0, hfz6_1, hfz6_2, hfz6_3⟩ := sqF4 BK352.out
    go_wp2
    go_meet
    case rel => exact ⟨_, (true), sqI, H', ⟨by first | omega | exact Nat.le_refl _⟩, ⟨sqK BK352.out⟩, ⟨sqB1 HB.out GE352.out⟩⟩
  rw [if_neg c5] at H
  have c5b0 : decide (1000 < (a0_3.size : Int)) = false := decide_eq_false c5
  have c5b1 : decide (1000 < a0_3.size) = false := decide_eq_false (by omega)
  clear c5
  (first | rw [c5b0] | (simp only [i64_w, i32_w]; rw [c5b0]) | skip)
  have H' := Aside0.mk H
  clear H
  obtain ⟨hcz7_0, hcz7_1, hcz7_2, hcz7_3, hfz7_0, hfz7_1, hfz7_2, hfz7_3⟩ := sqF4 BK352.out
  go_wp2
  go_meet
  case rel => exact ⟨_, (decide ((a1.size : Int) > 1000)), sqI, H', ⟨by first | omega | exact Nat.le_refl _⟩, ⟨sqK BK352.out⟩, ⟨sqB1 HB.out GE352.out⟩⟩
 clear HC3
 try clear p2
 try clear c5
 try clear c5b0
 try clear c5b1
 try clear hcz6_0 hcz6_1 hcz6_2 hcz6_3
 try clear hcz7_0 hcz7_1 hcz7_2 hcz7_3
 try clear hfz6_0 hfz6_1 hfz6_2 hfz6_3
 try clear hfz7_0 hfz7_1 hfz7_2 hfz7_3
 obtain ⟨kq, x21_2, rfl, HA, HJ2, BK352, HB⟩ := hcut
 cases kq with
 | zero => exact absurd HA.out (by simp [boarderlaw24_LeaseBack.j0])
 | succ kj2 => ?_
 have H := HA.out
 clear HA
 simp only [boarderlaw24_LeaseBack.j0] at H
 by_cases c8 : x21_2 = true
 · subst c8
   have H1 : ((boarderlaw24_knows.f kj2).bind fun t353 => (some t353)) = some r := by rw [if_pos rfl] at H; exact H
   clear H
   have H := H1
   clear H1
   replace H := Option.bind_eq_some_iff.mp H
   obtain ⟨t353, A90, H⟩ := H
   replace H : (some t353) = some r := H
   have A9 := Aside0.mk A90
   clear A90
   obtain rfl := Option.some.inj H
   go_wp2_with (first | ((with_reducible refine gate_callee (f := 12) rfl ?_); refine goesL_ (some 22) rfl rfl Tryd.func12 (by kernel_rfl) rfl #[] rfl sqA ?_; (with_reducible refine (boarderlaw24_knows.calls kj2  t353 _ ?side1 A9.out).mono ?_); (case side1 => first | exact HT.out | exact TabW.below HT.out (sqB1 HB.out GE352.out) | exact TabW.drawn HT.out ⟨_, rfl⟩); rintro e w10 ⟨rfl, hb⟩; refine ⟨_, rfl, ?_⟩; replace BK352 := sqM (blk_below (sqK BK352.out) hb); replace HB := sqM (below_step (sqB1 HB.out GE352.out) hb); (try clear hb); (try clear hb2); (try clear hk); (try clear hi)))
   go_ret
   exact ⟨sqE, sqB1 HB.out GE352.out⟩
 replace c8 := Bool.eq_false_iff.mpr c8
 subst c8
 have H1 : ((ltext_Line.f kj2 a0_0 a0_1 a0_2 a0_3).bind fun bt354 => (if bt354.2 = 0 then ((ltext_Lease.f kj2 bt354.1).bind fun bt356 => (if (!(bt356.1 == a0_0) || (!(bt356.2.1 == a0_1) || (!(bt356.2.2.1 == a0_2) || (!(bt356.2.2.2.1.toList == a0_3.toList))))) = true then (none) else (if bt356.2.2.2.2 = 0 then (boarderlaw24_LeaseBack.j1 kj2 a1) else (none)))) else (boarderlaw24_LeaseBack.j1 kj2 a1))) = some r := by rw [if_neg (show ¬ (false = true) by decide)] at H; exact H
 clear H
 have H := H1
 clear H1
 replace H := Option.bind_eq_some_iff.mp H
 obtain ⟨⟨t354, t355⟩, A110, H⟩ := H
 replace H : (if t355 = 0 then ((ltext_Lease.f kj2 t354).bind fun bt356 => (if (!(bt356.1 == a0_0) || (!(bt356.2.1 == a0_1) || (!(bt356.2.2.1 == a0_2) || (!(bt356.2.2.2.1.toList == a0_3.toList))))) = true then (none) else (if bt356.2.2.2.2 = 0 then (boarderlaw24_LeaseBack.j1 kj2 a1) else (none)))) else (boarderlaw24_LeaseBack.j1 kj2 a1)) = some r := H
 have A11 := Aside0.mk A110
 clear A110
 have HC12 := Aside0.mk H
 clear H
 obtain ⟨hcz13_0, hcz13_1, hcz13_2, hcz13_3, hfz13_0, hfz13_1, hfz13_2, hfz13_3⟩ := sqF4 BK352.out
 go_upto_if 29 with (first | ((with_reducible refine gate_callee (f := 13) rfl ?_); refine goesL_ (some 25) rfl rfl Tryd.func13 (by kernel_rfl) rfl #[.agg #[.int .i64 a0_0, .int .i64 a0_1, .int .i64 a0_2, .string a0_3]] rfl sqA ?_; (with_reducible refine (ltext_Line.calls _ _ _ _ _ _ _ _ ?side1 A11.out).mono ?_); (case side1 => first | exact HT.out | exact TabW.below HT.out (sqB1 HB.out GE352.out) | exact TabW.drawn HT.out ⟨_, rfl⟩); rintro e w14 ⟨rfl, hb⟩; refine ⟨_, rfl, ?_⟩; replace BK352 := sqM (blk_below (sqK BK352.out) hb); replace HB := sqM (below_step (sqB1 HB.out GE352.out) hb); (try clear hb); (try clear hb2); (try clear hk); (try clear hi)))
 (try simp only [Act.put, List.setIfInBounds_toArray, List.set_cons_zero, List.set_cons_succ])
 go_cut [] (fun wc => ∃ (kq : Nat), Aside0 (boarderlaw24_LeaseBack.j1 kq a1 = some r) ∧ Aside0 (kq ≤ kj2) ∧ Aside0 (wc.heap[gb352]? = some (.cells #[.int .i64 a0_0, .int .i64 a0_1, .int .i64 a0_2, .string a0_3] 23 (0, 0))) ∧ Aside0 (Below w.heap.size w wc))
 case first =>
  have H := HC12.out
  clear HC12
  by_cases c15 : t355 = 0
  rotate_left
  · rw [if_neg c15] at H
    have c15b0 : (t355 == 0) = false := beq_eq_false_iff_ne.mpr c15
    have c15b1 : (t355 != 0) = true := bne_iff_ne.mpr c15
    (first | rw [c15b0] | (simp only [i64_w, i32_w]; rw [c15b0]) | skip)
    have H' := Aside0.mk H
    clear H
    go_wp2
    go_meet
    case rel => exact ⟨_, H', ⟨by have := HJ2.out; first | omega | exact Nat.le_refl _⟩, ⟨sqK BK352.out⟩, ⟨sqB1 HB.out GE352.out⟩⟩
  rw [if_pos c15] at H
  have c15b0 : (t355 == 0) = true := beq_iff_eq.mpr c15
  have c15b1 : (t355 != 0) = false := bne_eq_false_iff_eq.mpr c15
  clear c15
  (first | rw [c15b0] | (simp only [i64_w, i32_w]; rw [c15b0]) | skip)
  replace H := Option.bind_eq_some_iff.mp H
  obtain ⟨⟨t356, t357, t358, t359, t360⟩, A160, H⟩ := H
  replace H : (if (!(t356 == a0_0) || (!(t357 == a0_1) || (!(t358 == a0_2) || (!(t359.toList == a0_3.toList))))) = true then (none) else (if t360 = 0 then (boarderlaw24_LeaseBack.j1 kj2 a1) else (none))) = some r := H
  have A16 := Aside0.mk A160
  clear A160
  by_cases c17 : (!(t356 == a0_0) || (!(t357 == a0_1) || (!(t358 == a0_2) || (!(t359.toList == a0_3.toList))))) = true
  · rw [if_pos c17] at H
    exact absurd H (by simp)
  rw [if_neg c17] at H
  have c17b0 : (!(t356 == a0_0) || (!(t357 == a0_1) || (!(t358 == a0_2) || (!(t359.toList == a0_3.toList))))) = false := by simpa using c17
  clear c17
  by_cases c18 : t360 = 0
  rotate_left
  · rw [if_neg c18] at H
    exact absurd H (by simp)
  rw [if_pos c18] at H
  have c18b0 : (t360 == 0) = true := beq_iff_eq.mpr c18
  have c18b1 : (t360 != 0) = false := bne_eq_false_iff_eq.mpr c18
  clear c18
  have H' := Aside0.mk H
  clear H
  go_wp2_with (first | ((with_reducible refine gate_callee (f := 16) rfl ?_); refine goesL_ (some 32) rfl rfl Tryd.func16 (by kernel_rfl) rfl #[.string t354] rfl sqA ?_; (with_reducible refine (ltext_Lease.calls _ _ _ _ _ _ _ _ ?side1 A16.out).mono ?_); (case side1 => first | exact HT.out | exact TabW.below HT.out (sqB1 HB.out GE352.out) | exact TabW.drawn HT.out ⟨_, rfl⟩); rintro e w19 ⟨rfl, hb⟩; refine ⟨_, rfl, ?_⟩; replace BK352 := sqM (blk_below (sqK BK352.out) hb); replace HB := sqM (below_step (sqB1 HB.out GE352.out) hb); (try clear hb); (try clear hb2); (try clear hk); (try clear hi)) | ((with_reducible refine gate_dst (N := 7) rfl ?_); (try (refine gate_guard (by rfl) ?_; dsimp only)); refine box_event rfl (N := 7) rfl (cs := #[.int .i64 0, .int .i64 0, .int .i64 0, .string (⟨#[]⟩ : ByteArray)]) (t := 23) sqs ?_; intro gb361 hg w20 hbox hb; have BK361 := sqM (hbox); have GW361 := sqM (sqZ hg (sqB1 HB.out GE352.out)); have GE361 := sqM (sqZ hg (sqB1 HB.out GE352.out)); have NB352_361 := sqM (sqL hg (sqK BK352.out)); have NB361_352 := sqM (sqG hg (sqK BK352.out)); replace BK352 := sqM (blk_below (sqK BK352.out) hb); replace HB := sqM (below_step (sqB1 HB.out GE352.out) hb); clear hb hbox hg; have hnb21 := NB361_352.out; have hnc21 := NB352_361.out; obtain ⟨hcz22_0, hcz22_1, hcz22_2, hcz22_3, hfz22_0, hfz22_1, hfz22_2, hfz22_3⟩ := sqF4 BK361.out; obtain ⟨hcz23_0, hcz23_1, hcz23_2, hcz23_3, hfz23_0, hfz23_1, hfz23_2, hfz23_3⟩ := sqF4 BK352.out))
  go_meet
  case rel => exact ⟨_, H', ⟨by have := HJ2.out; first | omega | exact Nat.le_refl _⟩, ⟨(sqK (sqX4 BK352.out NB352_361.out))⟩, ⟨sqB2 HB.out GE352.out GE361.out⟩⟩
 clear HC12
 try clear c1
 try clear c2
 try clear p2
 try clear c5
 try clear c5b0
 try clear c5b1
 try clear c8
 try clear c12
 try clear c13
 try clear c15
 try clear c15b0
 try clear c15b1
 try clear c16
 try clear c17
 try clear c17b0
 try clear c18
 try clear c18b0
 try clear c18b1
 try clear c21
 try clear hcz13_0 hcz13_1 hcz13_2 hcz13_3
 try clear hcz22_0 hcz22_1 hcz22_2 hcz22_3
 try clear hcz23_0 hcz23_1 hcz23_2 hcz23_3
 try clear hcz6_0 hcz6_1 hcz6_2 hcz6_3
 try clear hcz7_0 hcz7_1 hcz7_2 hcz7_3
 try clear hfz13_0 hfz13_1 hfz13_2 hfz13_3
 try clear hfz22_0 hfz22_1 hfz22_2 hfz22_3
 try clear hfz23_0 hfz23_1 hfz23_2 hfz23_3
 try clear hfz6_0 hfz6_1 hfz6_2 hfz6_3
 try clear hfz7_0 hfz7_1 hfz7_2 hfz7_3
 try clear p2
 obtain ⟨kq, HA, HJ11, BK352, HB⟩ := hcut
 cases kq with
 | zero => exact absurd HA.out (by simp [boarderlaw24_LeaseBack.j1])
 | succ kj11 => ?_
 have H := HA.out
 clear HA
 simp only [boarderlaw24_LeaseBack.j1] at H
 replace H := Option.bind_eq_some_iff.mp H
 obtain ⟨⟨t362, t363, t364, t365, t366⟩, A240, H⟩ := H
 replace H : (if t366 = 0 then ((ltext_Line.f kj11 t362 t363 t364 t365).bind fun bt368 => (if bt368.1.toList = a1.toList then (if bt368.2 = 0 then ((boarderlaw24_knows.f kj11).bind fun t370 => (some t370)) else (none)) else (none))) else (if (t362 == 0 && (t363 == 0 && (t364 == 0 && (t365.toList == ([] : List UInt8))))) = true then ((boarderlaw24_knows.f kj11).bind fun t371 => (some t371)) else (none))) = some r := H
 have A24 := Aside0.mk A240
 clear A240
 by_cases c25 : t366 = 0
 rotate_left
 · rw [if_neg c25] at H
   have c25b0 : (t366 == 0) = false := beq_eq_false_iff_ne.mpr c25
   have c25b1 : (t366 != 0) = true := bne_iff_ne.mpr c25
   by_cases c36 : (t362 == 0 && (t363 == 0 && (t364 == 0 && (t365.toList == ([] : List UInt8))))) = true
   rotate_left
   · rw [if_neg c36] at H
     exact absurd H (by simp)
   rw [if_pos c36] at H
   have c36b0 : (t362 == 0 && (t363 == 0 && (t364 == 0 && (t365.toList == ([] : List UInt8))))) = true := c36
   (try (have c36b1 : decide (t362 = 0 && (t363 == 0 && (t364 == 0 && (t365.toList == ([] : List UInt8))))) = true := by simpa using c36))
   (try (have c36b2 : (t362 == 0 && (t363 == 0 && (t364 == 0 && (t365.toList == ([] : List UInt8))))) = true := by simpa using c36))
   have c36b9_ : (t362 = 0 ∧ t363 = 0 ∧ t364 = 0 ∧ t365.toList = []) = True := eq_true (by simpa using c36)
   clear c36
   replace H := Option.bind_eq_some_iff.mp H
   obtain ⟨t371, A370, H⟩ := H
   replace H : (some t371) = some r := H
   have A37 := Aside0.mk A370
   clear A370
   obtain rfl := Option.some.inj H
   go_wp2_with (first | ((with_reducible refine gate_callee (f := 16) rfl ?_); refine goesL_ (some 44) rfl rfl Tryd.func16 (by kernel_rfl) rfl #[.string a1] rfl sqA ?_; (with_reducible refine (ltext_Lease.calls _ _ _ _ _ _ _ _ ?side1 A24.out).mono ?_); (case side1 => first | exact HT.out | exact TabW.below HT.out (sqB1 HB.out GE352.out) | exact TabW.drawn HT.out ⟨_, rfl⟩); rintro e w38 ⟨rfl, hb⟩; refine ⟨_, rfl, ?_⟩; replace BK352 := sqM (blk_below (sqK BK352.out) hb); replace HB := sqM (below_step (sqB1 HB.out GE352.out) hb); (try clear hb); (try clear hb2); (try clear hk); (try clear hi)) | ((with_reducible refine gate_dst (N := 9) rfl ?_); (try (refine gate_guard (by rfl) ?_; dsimp only)); refine box_event rfl (N := 9) rfl (cs := #[.int .i64 0, .int .i64 0, .int .i64 0, .string (⟨#[]⟩ : ByteArray)]) (t := 23) sqs ?_; intro gb367 hg w39 hbox hb; have BK367 := sqM (hbox); have GW367 := sqM (sqZ hg (sqB1 HB.out GE352.out)); have GE367 := sqM (sqZ hg (sqB1 HB.out GE352.out)); have NB352_367 := sqM (sqL hg (sqK BK352.out)); have NB367_352 := sqM (sqG hg (sqK BK352.out)); replace BK352 := sqM (blk_below (sqK BK352.out) hb); replace HB := sqM (below_step (sqB1 HB.out GE352.out) hb); clear hb hbox hg; have hnb40 := NB367_352.out; have hnc40 := NB352_367.out; obtain ⟨hcz41_0, hcz41_1, hcz41_2, hcz41_3, hfz41_0, hfz41_1, hfz41_2, hfz41_3⟩ := sqF4 BK367.out) | (go_at_call 12; (with_reducible refine (boarderlaw24_knows.calls kj11  t371 _ ?side1 A37.out).mono ?_); (case side1 => first | exact HT.out | exact TabW.below HT.out (sqB2 HB.out GE352.out GE367.out) | exact TabW.drawn HT.out ⟨_, rfl⟩); rintro e w42 ⟨rfl, hb⟩; replace BK352 := sqM (blk_below (sqK (sqX4 BK352.out NB352_367.out)) hb); replace BK367 := sqM (blk_below (sqK (sqP4 BK367.out)) hb); replace HB := sqM (below_step (sqB2 HB.out GE352.out GE367.out) hb); (try clear hb); (try clear hb2); (try clear hk); (try clear hi)))
   go_ret
   exact ⟨sqE, sqB2 HB.out GE352.out GE367.out⟩
 rw [if_pos c25] at H
 have c25b0 : (t366 == 0) = true := beq_iff_eq.mpr c25
 have c25b1 : (t366 != 0) = false := bne_eq_false_iff_eq.mpr c25
 clear c25
 replace H := Option.bind_eq_some_iff.mp H
 obtain ⟨⟨t368, t369⟩, A260, H⟩ := H
 replace H : (if t368.toList = a1.toList then (if t369 = 0 then ((boarderlaw24_knows.f kj11).bind fun t370 => (some t370)) else (none)) else (none)) = some r := H
 have A26 := Aside0.mk A260
 clear A260
 by_cases c27 : t368.toList = a1.toList
 rotate_left
 · rw [if_neg c27] at H
   exact absurd H (by simp)
 rw [if_pos c27] at H
 have c27b0 : (t368.toList == a1.toList) = true := beq_iff_eq.mpr c27
 have c27b1 : (t368.toList != a1.toList) = false := bne_eq_false_iff_eq.mpr c27
 clear c27
 by_cases c28 : t369 = 0
 rotate_left
 · rw [if_neg c28] at H
   exact absurd H (by simp)
 rw [if_pos c28] at H
 have c28b0 : (t369 == 0) = true := beq_iff_eq.mpr c28
 have c28b1 : (t369 != 0) = false := bne_eq_false_iff_eq.mpr c28
 clear c28
 replace H := Option.bind_eq_some_iff.mp H
 obtain ⟨t370, A290, H⟩ := H
 replace H : (some t370) = some r := H
 have A29 := Aside0.mk A290
 clear A290
 obtain rfl := Option.some.inj H
 go_wp2_with (first | ((with_reducible refine gate_callee (f := 16) rfl ?_); refine goesL_ (some 44) rfl rfl Tryd.func16 (by kernel_rfl) rfl #[.string a1] rfl sqA ?_; (with_reducible refine (ltext_Lease.calls _ _ _ _ _ _ _ _ ?side1 A24.out).mono ?_); (case side1 => first | exact HT.out | exact TabW.below HT.out (sqB1 HB.out GE352.out) | exact TabW.drawn HT.out ⟨_, rfl⟩); rintro e w30 ⟨rfl, hb⟩; refine ⟨_, rfl, ?_⟩; replace BK352 := sqM (blk_below (sqK BK352.out) hb); replace HB := sqM (below_step (sqB1 HB.out GE352.out) hb); (try clear hb); (try clear hb2); (try clear hk); (try clear hi)) | ((with_reducible refine gate_dst (N := 9) rfl ?_); (try (refine gate_guard (by rfl) ?_; dsimp only)); refine box_event rfl (N := 9) rfl (cs := #[.int .i64 0, .int .i64 0, .int .i64 0, .string (⟨#[]⟩ : ByteArray)]) (t := 23) sqs ?_; intro gb367 hg w31 hbox hb; have BK367 := sqM (hbox); have GW367 := sqM (sqZ hg (sqB1 HB.out GE352.out)); have GE367 := sqM (sqZ hg (sqB1 HB.out GE352.out)); have NB352_367 := sqM (sqL hg (sqK BK352.out)); have NB367_352 := sqM (sqG hg (sqK BK352.out)); replace BK352 := sqM (blk_below (sqK BK352.out) hb); replace HB := sqM (below_step (sqB1 HB.out GE352.out) hb); clear hb hbox hg; have hnb32 := NB367_352.out; have hnc32 := NB352_367.out; obtain ⟨hcz33_0, hcz33_1, hcz33_2, hcz33_3, hfz33_0, hfz33_1, hfz33_2, hfz33_3⟩ := sqF4 BK367.out) | ((with_reducible refine gate_callee (f := 13) rfl ?_); refine goesL_ (some 57) rfl rfl Tryd.func13 (by kernel_rfl) rfl #[.agg #[.int .i64 t362, .int .i64 t363, .int .i64 t364, .string t365]] rfl sqA ?_; (with_reducible refine (ltext_Line.calls _ _ _ _ _ _ _ _ ?side1 A26.out).mono ?_); (case side1 => first | exact HT.out | exact TabW.below HT.out (sqB2 HB.out GE352.out GE367.out) | exact TabW.drawn HT.out ⟨_, rfl⟩); rintro e w34 ⟨rfl, hb⟩; refine ⟨_, rfl, ?_⟩; replace BK352 := sqM (blk_below (sqK (sqX4 BK352.out NB352_367.out)) hb); replace BK367 := sqM (blk_below (sqK (sqP4 BK367.out)) hb); replace HB := sqM (below_step (sqB2 HB.out GE352.out GE367.out) hb); (try clear hb); (try clear hb2); (try clear hk); (try clear hi)) | (go_at_call 12; (with_reducible refine (boarderlaw24_knows.calls kj11  t370 _ ?side1 A29.out).mono ?_); (case side1 => first | exact HT.out | exact TabW.below HT.out (sqB2 HB.out GE352.out GE367.out) | exact TabW.drawn HT.out ⟨_, rfl⟩); rintro e w35 ⟨rfl, hb⟩; replace BK352 := sqM (blk_below (sqK BK352.out) hb); replace BK367 := sqM (blk_below (sqK BK367.out) hb); replace HB := sqM (below_step (sqB2 HB.out GE352.out GE367.out) hb); (try clear hb); (try clear hb2); (try clear hk); (try clear hi)))
 go_ret
 exact ⟨sqE, sqB2 HB.out GE352.out GE367.out⟩

end Go.Proofs.YtdajdpgnhjlbaaaDoor.PLease
