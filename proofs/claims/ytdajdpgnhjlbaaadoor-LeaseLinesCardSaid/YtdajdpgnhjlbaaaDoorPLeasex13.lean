/- Lean functions for Go functions of the given program, and proofs that the code computes them, each under its theorem's own conditions. Written by a program of this session. -/
import Derived.Test.YtdajdpgnhjlbaaaDoorPLeasex0
import Derived.Test.YtdajdpgnhjlbaaaDoorPLeasex2
import Derived.Test.YtdajdpgnhjlbaaaDoorPLeasex5
import Derived.Test.YtdajdpgnhjlbaaaDoorPLeasex6
import Derived.Test.YtdajdpgnhjlbaaaDoorPLeasex7
namespace Go.Proofs.YtdajdpgnhjlbaaaDoor.PLease
open Go.RowKit Go.Proofs.YtdajdpgnhjlbaaaDoorW.PrintWords Go.Proofs.YtdajdpgnhjlbaaaDoorW.PrintLast Go.Proofs.YtdajdpgnhjlbaaaDoorW.PrintMore
attribute [local go_sem] max2_int min2_int max_two min_two max_three min_three max_four min_four   -- for this text's walks alone
set_option linter.unusedVariables false
set_option linter.unusedSimpArgs false

/-! ### boarderlaw24_LeaseLines: function 3 -/
def boarderlaw24_LeaseLines.f (k : Nat) (a0_0 : Int) (a0_1 : Int) (a0_2 : Int) (a0_3 : ByteArray) : Option (Bool) := if (a0_3.size : Int) > 1000 then ((boarderlaw24_knows.f k).bind fun t297 => (some t297)) else ((ltext_Line.f k a0_0 a0_1 a0_2 a0_3).bind fun bt298 => ((boarderref09_Right.f a0_0 a0_1 a0_2 a0_3).bind fun t300 => (if t300 = true then ((boarderref24_Line.f k a0_0 a0_1 a0_2 a0_3).bind fun t301 => (if bt298.1.toList = t301.toList then (if bt298.2 = 0 then ((boarderlaw24_knows.f k).bind fun t302 => (some t302)) else (none)) else (none))) else (if bt298.1.toList = ([] : List UInt8) then (if bt298.2 = 1 then ((boarderlaw24_knows.f k).bind fun t303 => (some t303)) else (none)) else (none)))))
set_option maxHeartbeats 8000000 in
set_option maxRecDepth 100000 in
theorem boarderlaw24_LeaseLines.calls (k : Nat) (a0_0 : Int) (a0_1 : Int) (a0_2 : Int) (a0_3 : ByteArray) (r : Bool) (w : World) (hT : TabW w) (h : boarderlaw24_LeaseLines.f k a0_0 a0_1 a0_2 a0_3 = some r) :
    Calls Tryd.prog 3 #[.agg #[.int .i64 a0_0, .int .i64 a0_1, .int .i64 a0_2, .string a0_3]] w fun e w' => e = .returned (.bool r) ∧ Below w.heap.size w w' := by
 have hu23 := Tryd.underlying23
 have HT := Aside0.mk hT
 clear hT
 have HRT1 := Aside0.mk HT.out.t1
 have HRT0 := Aside0.mk HT.out.t0
 have HB := Aside0.mk (Below.refl w.heap.size w)
 have H : (if (a0_3.size : Int) > 1000 then ((boarderlaw24_knows.f k).bind fun t297 => (some t297)) else ((ltext_Line.f k a0_0 a0_1 a0_2 a0_3).bind fun bt298 => ((boarderref09_Right.f a0_0 a0_1 a0_2 a0_3).bind fun t300 => (if t300 = true then ((boarderref24_Line.f k a0_0 a0_1 a0_2 a0_3).bind fun t301 => (if bt298.1.toList = t301.toList then (if bt298.2 = 0 then ((boarderlaw24_knows.f k).bind fun t302 => (some t302)) else (none)) else (none))) else (if bt298.1.toList = ([] : List UInt8) then (if bt298.2 = 1 then ((boarderlaw24_knows.f k).bind fun t303 => (some t303)) else (none)) else (none)))))) = some r := h
 clear h
 by_cases c2 : (a0_3.size : Int) > 1000
 · rw [if_pos c2] at H
   have c2b0 : decide (1000 < (a0_3.size : Int)) = true := decide_eq_true c2
   have c2b1 : decide (1000 < a0_3.size) = true := decide_eq_true (by omega)
   clear c2
   replace H := Option.bind_eq_some_iff.mp H
   obtain ⟨t297, A30, H⟩ := H
   replace H : (some t297) = some r := H
   have A3 := Aside0.mk A30
   clear A30
   obtain rfl := Option.some.inj H
   go_enter Tryd.func3, Tryd.ntmps3
   go_wp2_with (first | ((with_reducible refine gate_dst (N := 1) rfl ?_); refine box_event rfl (N := 1) rfl (cs := #[.int .i64 a0_0, .int .i64 a0_1, .int .i64 a0_2, .string a0_3]) (t := 23) sqs ?_; intro gb296 hg w4 hbox hb; have BK296 := sqM (hbox); have GW296 := sqM (sqZ hg (sqB HB.out)); have GE296 := sqM (sqZ hg (sqB HB.out)); replace HB := sqM (below_step (sqB HB.out) hb); clear hb hbox hg; obtain ⟨hcz5_0, hcz5_1, hcz5_2, hcz5_3, hfz5_0, hfz5_1, hfz5_2, hfz5_3⟩ := sqF4 BK296.out) | ((with_reducible refine gate_callee (f := 12) rfl ?_); refine goesL_ (some 9) rfl rfl Tryd.func12 (by kernel_rfl) rfl #[] rfl sqA ?_; (with_reducible refine (boarderlaw24_knows.calls k  t297 _ ?side1 A3.out).mono ?_); (case side1 => first | exact HT.out | exact TabW.below HT.out (sqB1 HB.out GE296.out) | exact TabW.drawn HT.out ⟨_, rfl⟩); rintro e w6 ⟨rfl, hb⟩; refine ⟨_, rfl, ?_⟩; replace BK296 := sqM (blk_below (sqK BK296.out) hb); replace HB := sqM (below_step (sqB1 HB.out GE296.out) hb); (try clear hb); (try clear hb2); (try clear hk); (try clear hi)))
   go_ret
   exact ⟨sqE, sqB1 HB.out GE296.out⟩
 rw [if_neg c2] at H
 have c2b0 : decide (1000 < (a0_3.size : Int)) = false := decide_eq_false c2
 have c2b1 : decide (1000 < a0_3.size) = false := decide_eq_false (by omega)
 clear c2
 replace H := Option.bind_eq_some_iff.mp H
 obtain ⟨⟨t298, t299⟩, A70, H⟩ := H
 replace H : ((boarderref09_Right.f a0_0 a0_1 a0_2 a0_3).bind fun t300 => (if t300 = true then ((boarderref24_Line.f k a0_0 a0_1 a0_2 a0_3).bind fun t301 => (if t298.toList = t301.toList then (if t299 = 0 then ((boarderlaw24_knows.f k).bind fun t302 => (some t302)) else (none)) else (none))) else (if t298.toList = ([] : List UInt8) then (if t299 = 1 then ((boarderlaw24_knows.f k).bind fun t303 => (some t303)) else (none)) else (none)))) = some r := H
 have A7 := Aside0.mk A70
 clear A70
 replace H := Option.bind_eq_some_iff.mp H
 obtain ⟨t300, A80, H⟩ := H
 replace H : (if t300 = true then ((boarderref24_Line.f k a0_0 a0_1 a0_2 a0_3).bind fun t301 => (if t298.toList = t301.toList then (if t299 = 0 then ((boarderlaw24_knows.f k).bind fun t302 => (some t302)) else (none)) else (none))) else (if t298.toList = ([] : List UInt8) then (if t299 = 1 then ((boarderlaw24_knows.f k).bind fun t303 => (some t303)) else (none)) else (none))) = some r := H
 have A8 := Aside0.mk A80
 clear A80
 by_cases c9 : t300 = true
 rotate_left
 · replace c9 := Bool.eq_false_iff.mpr c9
   subst c9
   have H1 : (if t298.toList = ([] : List UInt8) then (if t299 = 1 then ((boarderlaw24_knows.f k).bind fun t303 => (some t303)) else (none)) else (none)) = some r := by rw [if_neg (show ¬ (false = true) by decide)] at H; exact H
   clear H
   have H := H1
   clear H1
   by_cases c22 : t298.toList = ([] : List UInt8)
   rotate_left
   · rw [if_neg c22] at H
     exact absurd H (by simp)
   rw [if_pos c22] at H
   have c22b0 : (t298.toList == ([] : List UInt8)) = true := beq_iff_eq.mpr c22
   have c22b1 : (t298.toList != ([] : List UInt8)) = false := bne_eq_false_iff_eq.mpr c22
   clear c22
   by_cases c23 : t299 = 1
   rotate_left
   · rw [if_neg c23] at H
     exact absurd H (by simp)
   rw [if_pos c23] at H
   have c23b0 : (t299 == 1) = true := beq_iff_eq.mpr c23
   have c23b1 : (t299 != 1) = false := bne_eq_false_iff_eq.mpr c23
   clear c23
   replace H := Option.bind_eq_some_iff.mp H
   obtain ⟨t303, A240, H⟩ := H
   replace H : (some t303) = some r := H
   have A24 := Aside0.mk A240
   clear A240
   obtain rfl := Option.some.inj H
   go_enter Tryd.func3, Tryd.ntmps3
   go_wp2_with (first | ((with_reducible refine gate_dst (N := 1) rfl ?_); refine box_event rfl (N := 1) rfl (cs := #[.int .i64 a0_0, .int .i64 a0_1, .int .i64 a0_2, .string a0_3]) (t := 23) sqs ?_; intro gb296 hg w25 hbox hb; have BK296 := sqM (hbox); have GW296 := sqM (sqZ hg (sqB HB.out)); have GE296 := sqM (sqZ hg (sqB HB.out)); replace HB := sqM (below_step (sqB HB.out) hb); clear hb hbox hg; obtain ⟨hcz26_0, hcz26_1, hcz26_2, hcz26_3, hfz26_0, hfz26_1, hfz26_2, hfz26_3⟩ := sqF4 BK296.out) | ((with_reducible refine gate_callee (f := 13) rfl ?_); refine goesL_ (some 12) rfl rfl Tryd.func13 (by kernel_rfl) rfl #[.agg #[.int .i64 a0_0, .int .i64 a0_1, .int .i64 a0_2, .string a0_3]] rfl sqA ?_; (with_reducible refine (ltext_Line.calls _ _ _ _ _ _ _ _ ?side1 A7.out).mono ?_); (case side1 => first | exact HT.out | exact TabW.below HT.out (sqB1 HB.out GE296.out) | exact TabW.drawn HT.out ⟨_, rfl⟩); rintro e w27 ⟨rfl, hb⟩; refine ⟨_, rfl, ?_⟩; replace BK296 := sqM (blk_below (sqK BK296.out) hb); replace HB := sqM (below_step (sqB1 HB.out GE296.out) hb); (try clear hb); (try clear hb2); (try clear hk); (try clear hi); obtain ⟨hcz28_0, hcz28_1, hcz28_2, hcz28_3, hfz28_0, hfz28_1, hfz28_2, hfz28_3⟩ := sqF4 BK296.out) | ((with_reducible refine gate_callee (f := 14) rfl ?_); refine goesL_ (some 16) rfl rfl Tryd.func14 (by kernel_rfl) rfl #[.agg #[.int .i64 a0_0, .int .i64 a0_1, .int .i64 a0_2, .string a0_3]] rfl sqA ?_; (with_reducible refine (boarderref09_Right.calls _ _ _ _ _ _ A8.out).mono ?_); rintro e w29 ⟨rfl, hb⟩; refine ⟨_, rfl, ?_⟩; replace BK296 := sqM (blk_below (sqK BK296.out) hb); replace HB := sqM (below_step (sqB1 HB.out GE296.out) hb); (try clear hb); (try clear hb2); (try clear hk); (try clear hi)) | (go_at_call 12; (with_reducible refine (boarderlaw24_knows.calls k  t303 _ ?side1 A24.out).mono ?_); (case side1 => first | exact HT.out | exact TabW.below HT.out (sqB1 HB.out GE296.out) | exact TabW.drawn HT.out ⟨_, rfl⟩); rintro e w30 ⟨rfl, hb⟩; replace BK296 := sqM (blk_below (sqK BK296.out) hb); replace HB := sqM (below_step (sqB1 HB.out GE296.out) hb); (try clear hb); (try clear hb2); (try clear hk); (try clear hi)))
   go_ret
   exact ⟨sqE, sqB1 HB.out GE296.out⟩
 subst c9
 have H1 : ((boarderref24_Line.f k a0_0 a0_1 a0_2 a0_3).bind fun t301 => (if t298.toList = t301.toList then (if t299 = 0 then ((boarderlaw24_knows.f k).bind fun t302 => (some t302)) else (none)) else (none))) = some r := by rw [if_pos rfl] at H; exact H
 clear H
 have H := H1
 clear H1
 replace H := Option.bind_eq_some_iff.mp H
 obtain ⟨t301, A100, H⟩ := H
 replace H : (if t298.toList = t301.toList then (if t299 = 0 then ((boarderlaw24_knows.f k).bind fun t302 => (some t302)) else (none)) else (none)) = some r := H
 have A10 := Aside0.mk A100
 clear A100
 by_cases c11 : t298.toList = t301.toList
 rotate_left
 · rw [if_neg c11] at H
   exact absurd H (by simp)
 rw [if_pos c11] at H
 have c11b0 : (t298.toList == t301.toList) = true := beq_iff_eq.mpr c11
 have c11b1 : (t298.toList != t301.toList) = false := bne_eq_false_iff_eq.mpr c11
 clear c11
 by_cases c12 : t299 = 0
 rotate_left
 · rw [if_neg c12] at H
   exact absurd H (by simp)
 rw [if_pos c12] at H
 have c12b0 : (t299 == 0) = true := beq_iff_eq.mpr c12
 have c12b1 : (t299 != 0) = false := bne_eq_false_iff_eq.mpr c12
 clear c12
 replace H := Option.bind_eq_some_iff.mp H
 obtain ⟨t302, A130, H⟩ := H
 replace H : (some t302) = some r := H
 have A13 := Aside0.mk A130
 clear A130
 obtain rfl := Option.some.inj H
 go_enter Tryd.func3, Tryd.ntmps3
 go_wp2_with (first | ((with_reducible refine gate_dst (N := 1) rfl ?_); refine box_event rfl (N := 1) rfl (cs := #[.int .i64 a0_0, .int .i64 a0_1, .int .i64 a0_2, .string a0_3]) (t := 23) sqs ?_; intro gb296 hg w14 hbox hb; have BK296 := sqM (hbox); have GW296 := sqM (sqZ hg (sqB HB.out)); have GE296 := sqM (sqZ hg (sqB HB.out)); replace HB := sqM (below_step (sqB HB.out) hb); clear hb hbox hg; obtain ⟨hcz15_0, hcz15_1, hcz15_2, hcz15_3, hfz15_0, hfz15_1, hfz15_2, hfz15_3⟩ := sqF4 BK296.out) | ((with_reducible refine gate_callee (f := 13) rfl ?_); refine goesL_ (some 12) rfl rfl Tryd.func13 (by kernel_rfl) rfl #[.agg #[.int .i64 a0_0, .int .i64 a0_1, .int .i64 a0_2, .string a0_3]] rfl sqA ?_; (with_reducible refine (ltext_Line.calls _ _ _ _ _ _ _ _ ?side1 A7.out).mono ?_); (case side1 => first | exact HT.out | exact TabW.below HT.out (sqB1 HB.out GE296.out) | exact TabW.drawn HT.out ⟨_, rfl⟩); rintro e w16 ⟨rfl, hb⟩; refine ⟨_, rfl, ?_⟩; replace BK296 := sqM (blk_below (sqK BK296.out) hb); replace HB := sqM (below_step (sqB1 HB.out GE296.out) hb); (try clear hb); (try clear hb2); (try clear hk); (try clear hi); obtain ⟨hcz17_0, hcz17_1, hcz17_2, hcz17_3, hfz17_0, hfz17_1, hfz17_2, hfz17_3⟩ := sqF4 BK296.out) | ((with_reducible refine gate_callee (f := 14) rfl ?_); refine goesL_ (some 16) rfl rfl Tryd.func14 (by kernel_rfl) rfl #[.agg #[.int .i64 a0_0, .int .i64 a0_1, .int .i64 a0_2, .string a0_3]] rfl sqA ?_; (with_reducible refine (boarderref09_Right.calls _ _ _ _ _ _ A8.out).mono ?_); rintro e w18 ⟨rfl, hb⟩; refine ⟨_, rfl, ?_⟩; replace BK296 := sqM (blk_below (sqK BK296.out) hb); replace HB := sqM (below_step (sqB1 HB.out GE296.out) hb); (try clear hb); (try clear hb2); (try clear hk); (try clear hi); obtain ⟨hcz19_0, hcz19_1, hcz19_2, hcz19_3, hfz19_0, hfz19_1, hfz19_2, hfz19_3⟩ := sqF4 BK296.out) | ((with_reducible refine gate_callee (f := 15) rfl ?_); refine goesL_ (some 29) rfl rfl Tryd.func15 (by kernel_rfl) rfl #[.agg #[.int .i64 a0_0, .int .i64 a0_1, .int .i64 a0_2, .string a0_3]] rfl sqA ?_; (with_reducible refine (boarderref24_Line.calls _ _ _ _ _ _ _ A10.out).mono ?_); rintro e w20 ⟨rfl, hb⟩; refine ⟨_, rfl, ?_⟩; replace BK296 := sqM (blk_below (sqK BK296.out) hb); replace HB := sqM (below_step (sqB1 HB.out GE296.out) hb); (try clear hb); (try clear hb2); (try clear hk); (try clear hi)) | (go_at_call 12; (with_reducible refine (boarderlaw24_knows.calls k  t302 _ ?side1 A13.out).mono ?_); (case side1 => first | exact HT.out | exact TabW.below HT.out (sqB1 HB.out GE296.out) | exact TabW.drawn HT.out ⟨_, rfl⟩); rintro e w21 ⟨rfl, hb⟩; replace BK296 := sqM (blk_below (sqK BK296.out) hb); replace HB := sqM (below_step (sqB1 HB.out GE296.out) hb); (try clear hb); (try clear hb2); (try clear hk); (try clear hi)))
 go_ret
 exact ⟨sqE, sqB1 HB.out GE296.out⟩

end Go.Proofs.YtdajdpgnhjlbaaaDoor.PLease
