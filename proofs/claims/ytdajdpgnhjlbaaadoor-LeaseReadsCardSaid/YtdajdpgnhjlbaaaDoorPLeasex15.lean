/- Lean functions for Go functions of the given program, and proofs that the code computes them, each under its theorem's own conditions. Written by a program of this session. -/
import Derived.Test.YtdajdpgnhjlbaaaDoorPLeasex0
import Derived.Test.YtdajdpgnhjlbaaaDoorPLeasex1
import Derived.Test.YtdajdpgnhjlbaaaDoorPLeasex3
import Derived.Test.YtdajdpgnhjlbaaaDoorPLeasex5
import Derived.Test.YtdajdpgnhjlbaaaDoorPLeasex10
namespace Go.Proofs.YtdajdpgnhjlbaaaDoor.PLease
open Go.RowKit Go.Proofs.YtdajdpgnhjlbaaaDoorW.PrintWords Go.Proofs.YtdajdpgnhjlbaaaDoorW.PrintLast Go.Proofs.YtdajdpgnhjlbaaaDoorW.PrintMore
attribute [local go_sem] max2_int min2_int max_two min_two max_three min_three max_four min_four   -- for this text's walks alone
set_option linter.unusedVariables false
set_option linter.unusedSimpArgs false

attribute [local go_sem high] eqA23
/-! ### boarderlaw24_LeaseReads: function 4 -/
def boarderlaw24_LeaseReads.f (k : Nat) (a0 : ByteArray) : Option (Bool) := if (a0.size : Int) > 1000 then ((boarderlaw24_knows.f k).bind fun t337 => (some t337)) else ((ltext_Lease.f k a0).bind fun bt338 => ((boarderref24_Lease.f k a0).bind fun bt344 => (if (bt338.1 == bt344.1 && (bt338.2.1 == bt344.2.1 && (bt338.2.2.1 == bt344.2.2.1 && (bt338.2.2.2.1.toList == bt344.2.2.2.1.toList)))) = true then (if ((bt338.2.2.2.2 == 0) == bt344.2.2.2.2) = true then (if bt344.2.2.2.2 = true then ((boarderlaw24_knows.f k).bind fun t350 => (some t350)) else (if bt338.2.2.2.2 = 2 then ((boarderlaw24_knows.f k).bind fun t351 => (some t351)) else (none))) else (none)) else (none))))
set_option maxHeartbeats 8000000 in
set_option maxRecDepth 100000 in
theorem boarderlaw24_LeaseReads.calls (k : Nat) (a0 : ByteArray) (r : Bool) (w : World) (hT : TabW w) (h : boarderlaw24_LeaseReads.f k a0 = some r) :
    Calls Tryd.prog 4 #[.string a0] w fun e w' => e = .returned (.bool r) ∧ Below w.heap.size w w' := by
 have hu23 := Tryd.underlying23
 have HT := Aside0.mk hT
 clear hT
 have HRT1 := Aside0.mk HT.out.t1
 have HRT0 := Aside0.mk HT.out.t0
 have HB := Aside0.mk (Below.refl w.heap.size w)
 have H : (if (a0.size : Int) > 1000 then ((boarderlaw24_knows.f k).bind fun t337 => (some t337)) else ((ltext_Lease.f k a0).bind fun bt338 => ((boarderref24_Lease.f k a0).bind fun bt344 => (if (bt338.1 == bt344.1 && (bt338.2.1 == bt344.2.1 && (bt338.2.2.1 == bt344.2.2.1 && (bt338.2.2.2.1.toList == bt344.2.2.2.1.toList)))) = true then (if ((bt338.2.2.2.2 == 0) == bt344.2.2.2.2) = true then (if bt344.2.2.2.2 = true then ((boarderlaw24_knows.f k).bind fun t350 => (some t350)) else (if bt338.2.2.2.2 = 2 then ((boarderlaw24_knows.f k).bind fun t351 => (some t351)) else (none))) else (none)) else (none))))) = some r := h
 clear h
 by_cases c2 : (a0.size : Int) > 1000
 · rw [if_pos c2] at H
   have c2b0 : decide (1000 < (a0.size : Int)) = true := decide_eq_true c2
   have c2b1 : decide (1000 < a0.size) = true := decide_eq_true (by omega)
   clear c2
   replace H := Option.bind_eq_some_iff.mp H
   obtain ⟨t337, A30, H⟩ := H
   replace H : (some t337) = some r := H
   have A3 := Aside0.mk A30
   clear A30
   obtain rfl := Option.some.inj H
   go_enter Tryd.func4, Tryd.ntmps4
   go_wp2_with (first | ((with_reducible refine gate_callee (f := 12) rfl ?_); refine goesL_ (some 10) rfl rfl Tryd.func12 (by kernel_rfl) rfl #[] rfl sqA ?_; (with_reducible refine (boarderlaw24_knows.calls k  t337 _ ?side1 A3.out).mono ?_); (case side1 => first | exact HT.out | exact TabW.below HT.out (sqB HB.out) | exact TabW.drawn HT.out ⟨_, rfl⟩); rintro e w4 ⟨rfl, hb⟩; refine ⟨_, rfl, ?_⟩; replace HB := sqM (below_step (sqB HB.out) hb); (try clear hb); (try clear hb2); (try clear hk); (try clear hi)))
   go_ret
   exact ⟨sqE, sqB HB.out⟩
 rw [if_neg c2] at H
 have c2b0 : decide (1000 < (a0.size : Int)) = false := decide_eq_false c2
 have c2b1 : decide (1000 < a0.size) = false := decide_eq_false (by omega)
 clear c2
 replace H := Option.bind_eq_some_iff.mp H
 obtain ⟨⟨t338, t339, t340, t341, t342⟩, A50, H⟩ := H
 replace H : ((boarderref24_Lease.f k a0).bind fun bt344 => (if (t338 == bt344.1 && (t339 == bt344.2.1 && (t340 == bt344.2.2.1 && (t341.toList == bt344.2.2.2.1.toList)))) = true then (if ((t342 == 0) == bt344.2.2.2.2) = true then (if bt344.2.2.2.2 = true then ((boarderlaw24_knows.f k).bind fun t350 => (some t350)) else (if t342 = 2 then ((boarderlaw24_knows.f k).bind fun t351 => (some t351)) else (none))) else (none)) else (none))) = some r := H
 have A5 := Aside0.mk A50
 clear A50
 replace H := Option.bind_eq_some_iff.mp H
 obtain ⟨⟨t344, t345, t346, t347, t348⟩, A60, H⟩ := H
 replace H : (if (t338 == t344 && (t339 == t345 && (t340 == t346 && (t341.toList == t347.toList)))) = true then (if ((t342 == 0) == t348) = true then (if t348 = true then ((boarderlaw24_knows.f k).bind fun t350 => (some t350)) else (if t342 = 2 then ((boarderlaw24_knows.f k).bind fun t351 => (some t351)) else (none))) else (none)) else (none)) = some r := H
 have A6 := Aside0.mk A60
 clear A60
 by_cases c7 : (t338 == t344 && (t339 == t345 && (t340 == t346 && (t341.toList == t347.toList)))) = true
 rotate_left
 · rw [if_neg c7] at H
   exact absurd H (by simp)
 rw [if_pos c7] at H
 have c7b0 : (t338 == t344 && (t339 == t345 && (t340 == t346 && (t341.toList == t347.toList)))) = true := c7
 (try (have c7b1 : decide (t338 = t344 && (t339 == t345 && (t340 == t346 && (t341.toList == t347.toList)))) = true := by simpa using c7))
 (try (have c7b2 : (t338 == t344 && (t339 == t345 && (t340 == t346 && (t341.toList == t347.toList)))) = true := by simpa using c7))
 clear c7
 by_cases c8 : ((t342 == 0) == t348) = true
 rotate_left
 · rw [if_neg c8] at H
   exact absurd H (by simp)
 rw [if_pos c8] at H
 have c8b0 : ((t342 == 0) == t348) = true := c8
 (try (have c8b1 : decide ((t342 == 0) = t348) = true := by simpa using c8))
 (try (have c8b2 : ((t342 == 0) == t348) = true := by simpa using c8))
 clear c8
 by_cases c9 : t348 = true
 · subst c9
   have H1 : ((boarderlaw24_knows.f k).bind fun t350 => (some t350)) = some r := by rw [if_pos rfl] at H; exact H
   clear H
   have H := H1
   clear H1
   replace H := Option.bind_eq_some_iff.mp H
   obtain ⟨t350, A100, H⟩ := H
   replace H : (some t350) = some r := H
   have A10 := Aside0.mk A100
   clear A100
   obtain rfl := Option.some.inj H
   go_enter Tryd.func4, Tryd.ntmps4
   go_wp2_with (first | ((with_reducible refine gate_callee (f := 16) rfl ?_); refine goesL_ (some 13) rfl rfl Tryd.func16 (by kernel_rfl) rfl #[.string a0] rfl sqA ?_; (with_reducible refine (ltext_Lease.calls _ _ _ _ _ _ _ _ ?side1 A5.out).mono ?_); (case side1 => first | exact HT.out | exact TabW.below HT.out (sqB HB.out) | exact TabW.drawn HT.out ⟨_, rfl⟩); rintro e w11 ⟨rfl, hb⟩; refine ⟨_, rfl, ?_⟩; replace HB := sqM (below_step (sqB HB.out) hb); (try clear hb); (try clear hb2); (try clear hk); (try clear hi)) | ((with_reducible refine gate_dst (N := 3) rfl ?_); refine box_event rfl (N := 3) rfl (cs := #[.int .i64 0, .int .i64 0, .int .i64 0, .string (⟨#[]⟩ : ByteArray)]) (t := 23) sqs ?_; intro gb343 hg w12 hbox hb; have BK343 := sqM (hbox); have GW343 := sqM (sqZ hg (sqB HB.out)); have GE343 := sqM (sqZ hg (sqB HB.out)); replace HB := sqM (below_step (sqB HB.out) hb); clear hb hbox hg; obtain ⟨hcz13_0, hcz13_1, hcz13_2, hcz13_3, hfz13_0, hfz13_1, hfz13_2, hfz13_3⟩ := sqF4 BK343.out) | ((with_reducible refine gate_callee (f := 17) rfl ?_); refine goesL_ (some 18) rfl rfl Tryd.func17 (by kernel_rfl) rfl #[.string a0] rfl sqA ?_; (with_reducible refine (boarderref24_Lease.calls _ _ _ _ _ _ _ _ A6.out).mono ?_); rintro e w14 ⟨rfl, hb⟩; refine ⟨_, rfl, ?_⟩; replace BK343 := sqM (blk_below (sqK (sqP4 BK343.out)) hb); replace HB := sqM (below_step (sqB1 HB.out GE343.out) hb); (try clear hb); (try clear hb2); (try clear hk); (try clear hi)) | ((with_reducible refine gate_dst (N := 5) rfl ?_); refine box_event rfl (N := 5) rfl (cs := #[.int .i64 0, .int .i64 0, .int .i64 0, .string (⟨#[]⟩ : ByteArray)]) (t := 23) sqs ?_; intro gb349 hg w15 hbox hb; have BK349 := sqM (hbox); have GW349 := sqM (sqZ hg (sqB1 HB.out GE343.out)); have GE349 := sqM (sqZ hg (sqB1 HB.out GE343.out)); have NB343_349 := sqM (sqL hg (sqK BK343.out)); have NB349_343 := sqM (sqG hg (sqK BK343.out)); replace BK343 := sqM (blk_below (sqK BK343.out) hb); replace HB := sqM (below_step (sqB1 HB.out GE343.out) hb); clear hb hbox hg; have hnb16 := NB349_343.out; have hnc16 := NB343_349.out; obtain ⟨hcz17_0, hcz17_1, hcz17_2, hcz17_3, hfz17_0, hfz17_1, hfz17_2, hfz17_3⟩ := sqF4 BK349.out; obtain ⟨hcz18_0, hcz18_1, hcz18_2, hcz18_3, hfz18_0, hfz18_1, hfz18_2, hfz18_3⟩ := sqF4 BK343.out) | (go_at_call 12; (with_reducible refine (boarderlaw24_knows.calls k  t350 _ ?side1 A10.out).mono ?_); (case side1 => first | exact HT.out | exact TabW.below HT.out (sqB2 HB.out GE343.out GE349.out) | exact TabW.drawn HT.out ⟨_, rfl⟩); rintro e w19 ⟨rfl, hb⟩; replace BK343 := sqM (blk_below (sqK (sqX4 BK343.out NB343_349.out)) hb); replace BK349 := sqM (blk_below (sqK (sqP4 BK349.out)) hb); replace HB := sqM (below_step (sqB2 HB.out GE343.out GE349.out) hb); (try clear hb); (try clear hb2); (try clear hk); (try clear hi)))
   go_ret
   exact ⟨sqE, sqB2 HB.out GE343.out GE349.out⟩
 replace c9 := Bool.eq_false_iff.mpr c9
 subst c9
 have H1 : (if t342 = 2 then ((boarderlaw24_knows.f k).bind fun t351 => (some t351)) else (none)) = some r := by rw [if_neg (show ¬ (false = true) by decide)] at H; exact H
 clear H
 have H := H1
 clear H1
 by_cases c20 : t342 = 2
 rotate_left
 · rw [if_neg c20] at H
   exact absurd H (by simp)
 rw [if_pos c20] at H
 have c20b0 : (t342 == 2) = true := beq_iff_eq.mpr c20
 have c20b1 : (t342 != 2) = false := bne_eq_false_iff_eq.mpr c20
 clear c20
 replace H := Option.bind_eq_some_iff.mp H
 obtain ⟨t351, A210, H⟩ := H
 replace H : (some t351) = some r := H
 have A21 := Aside0.mk A210
 clear A210
 obtain rfl := Option.some.inj H
 go_enter Tryd.func4, Tryd.ntmps4
 go_wp2_with (first | ((with_reducible refine gate_callee (f := 16) rfl ?_); refine goesL_ (some 13) rfl rfl Tryd.func16 (by kernel_rfl) rfl #[.string a0] rfl sqA ?_; (with_reducible refine (ltext_Lease.calls _ _ _ _ _ _ _ _ ?side1 A5.out).mono ?_); (case side1 => first | exact HT.out | exact TabW.below HT.out (sqB HB.out) | exact TabW.drawn HT.out ⟨_, rfl⟩); rintro e w22 ⟨rfl, hb⟩; refine ⟨_, rfl, ?_⟩; replace HB := sqM (below_step (sqB HB.out) hb); (try clear hb); (try clear hb2); (try clear hk); (try clear hi)) | ((with_reducible refine gate_dst (N := 3) rfl ?_); refine box_event rfl (N := 3) rfl (cs := #[.int .i64 0, .int .i64 0, .int .i64 0, .string (⟨#[]⟩ : ByteArray)]) (t := 23) sqs ?_; intro gb343 hg w23 hbox hb; have BK343 := sqM (hbox); have GW343 := sqM (sqZ hg (sqB HB.out)); have GE343 := sqM (sqZ hg (sqB HB.out)); replace HB := sqM (below_step (sqB HB.out) hb); clear hb hbox hg; obtain ⟨hcz24_0, hcz24_1, hcz24_2, hcz24_3, hfz24_0, hfz24_1, hfz24_2, hfz24_3⟩ := sqF4 BK343.out) | ((with_reducible refine gate_callee (f := 17) rfl ?_); refine goesL_ (some 18) rfl rfl Tryd.func17 (by kernel_rfl) rfl #[.string a0] rfl sqA ?_; (with_reducible refine (boarderref24_Lease.calls _ _ _ _ _ _ _ _ A6.out).mono ?_); rintro e w25 ⟨rfl, hb⟩; refine ⟨_, rfl, ?_⟩; replace BK343 := sqM (blk_below (sqK (sqP4 BK343.out)) hb); replace HB := sqM (below_step (sqB1 HB.out GE343.out) hb); (try clear hb); (try clear hb2); (try clear hk); (try clear hi)) | ((with_reducible refine gate_dst (N := 5) rfl ?_); refine box_event rfl (N := 5) rfl (cs := #[.int .i64 0, .int .i64 0, .int .i64 0, .string (⟨#[]⟩ : ByteArray)]) (t := 23) sqs ?_; intro gb349 hg w26 hbox hb; have BK349 := sqM (hbox); have GW349 := sqM (sqZ hg (sqB1 HB.out GE343.out)); have GE349 := sqM (sqZ hg (sqB1 HB.out GE343.out)); have NB343_349 := sqM (sqL hg (sqK BK343.out)); have NB349_343 := sqM (sqG hg (sqK BK343.out)); replace BK343 := sqM (blk_below (sqK BK343.out) hb); replace HB := sqM (below_step (sqB1 HB.out GE343.out) hb); clear hb hbox hg; have hnb27 := NB349_343.out; have hnc27 := NB343_349.out; obtain ⟨hcz28_0, hcz28_1, hcz28_2, hcz28_3, hfz28_0, hfz28_1, hfz28_2, hfz28_3⟩ := sqF4 BK349.out; obtain ⟨hcz29_0, hcz29_1, hcz29_2, hcz29_3, hfz29_0, hfz29_1, hfz29_2, hfz29_3⟩ := sqF4 BK343.out) | (go_at_call 12; (with_reducible refine (boarderlaw24_knows.calls k  t351 _ ?side1 A21.out).mono ?_); (case side1 => first | exact HT.out | exact TabW.below HT.out (sqB2 HB.out GE343.out GE349.out) | exact TabW.drawn HT.out ⟨_, rfl⟩); rintro e w30 ⟨rfl, hb⟩; replace BK343 := sqM (blk_below (sqK (sqX4 BK343.out NB343_349.out)) hb); replace BK349 := sqM (blk_below (sqK (sqP4 BK349.out)) hb); replace HB := sqM (below_step (sqB2 HB.out GE343.out GE349.out) hb); (try clear hb); (try clear hb2); (try clear hk); (try clear hi)))
 go_ret
 exact ⟨sqE, sqB2 HB.out GE343.out GE349.out⟩

end Go.Proofs.YtdajdpgnhjlbaaaDoor.PLease
