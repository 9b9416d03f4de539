/- Lean functions for Go functions of the given program, and proofs that the code computes them, each under its theorem's own conditions. Written by a program of this session. -/
import Derived.Test.YtkjmfnijagdhpaaDoorPKeyx0
import Derived.Test.YtkjmfnijagdhpaaDoorPKeyx2
import Derived.Test.YtkjmfnijagdhpaaDoorPKeyx3
import Derived.Test.YtkjmfnijagdhpaaDoorPKeyx7
namespace Go.Proofs.YtkjmfnijagdhpaaDoor.PKey
open Go.RowKit Go.Proofs.YtkjmfnijagdhpaaDoorW.PrintWords Go.Proofs.YtkjmfnijagdhpaaDoorW.PrintLast Go.Proofs.YtkjmfnijagdhpaaDoorW.PrintMore
attribute [local go_sem] max2_int min2_int max_two min_two max_three min_three max_four min_four   -- for this text's walks alone
set_option linter.unusedVariables false
set_option linter.unusedSimpArgs false

/-! ### boarderlaw07_KeyTexts: function 4 -/
def boarderlaw07_KeyTexts.f (k : Nat) (a0 : ByteArray) : Option (Bool) := if (a0.size : Int) > 1000 then ((boarderlaw07_knows.f k).bind fun t233 => (some t233)) else ((key_Text.f k a0).bind fun bt234 => ((key_Right.f a0).bind fun t236 => ((boarderref07_Right.f a0).bind fun t237 => (if (t236 != t237) = true then (none) else ((boarderref07_Right.f a0).bind fun t238 => (if t238 = true then ((boarderref07_Text.f k a0).bind fun t239 => (if bt234.1.toList = t239.toList then (if bt234.2 = 0 then ((boarderlaw07_knows.f k).bind fun t240 => (some t240)) else (none)) else (none))) else (if bt234.1.toList = ([] : List UInt8) then (if bt234.2 = 1 then ((boarderlaw07_knows.f k).bind fun t241 => (some t241)) else (none)) else (none))))))))
theorem boarderlaw07_KeyTexts.mono : ∀ a0 k, LeO (boarderlaw07_KeyTexts.f k a0) (boarderlaw07_KeyTexts.f (k + 1) a0) := by
 intro a0 k
 unfold boarderlaw07_KeyTexts.f
 repeat' first
  | (with_reducible exact boarderlaw07_knows.mono _)
  | (with_reducible exact boarderref07_Text.mono _ _)
  | (with_reducible exact key_Text.mono _ _)
  | (with_reducible exact LeO.refl _)
  | (with_reducible exact LeO.none _)
  | (with_reducible refine LeO.ite ?_ ?_)
  | (with_reducible refine LeO.bind ?_ (fun _ => ?_))
set_option maxHeartbeats 8000000 in
set_option maxRecDepth 100000 in
theorem boarderlaw07_KeyTexts.calls (k : Nat) (a0 : ByteArray) (r : Bool) (w : World) (hT : TabW w) (h : boarderlaw07_KeyTexts.f k a0 = some r) :
    Calls Tryd.prog 4 #[.string a0] w fun e w' => e = .returned (.bool r) ∧ Below w.heap.size w w' := by
 have HT := Aside0.mk hT
 clear hT
 have HRT0 := Aside0.mk HT.out.t0
 have HB := Aside0.mk (Below.refl w.heap.size w)
 have H : (if (a0.size : Int) > 1000 then ((boarderlaw07_knows.f k).bind fun t233 => (some t233)) else ((key_Text.f k a0).bind fun bt234 => ((key_Right.f a0).bind fun t236 => ((boarderref07_Right.f a0).bind fun t237 => (if (t236 != t237) = true then (none) else ((boarderref07_Right.f a0).bind fun t238 => (if t238 = true then ((boarderref07_Text.f k a0).bind fun t239 => (if bt234.1.toList = t239.toList then (if bt234.2 = 0 then ((boarderlaw07_knows.f k).bind fun t240 => (some t240)) else (none)) else (none))) else (if bt234.1.toList = ([] : List UInt8) then (if bt234.2 = 1 then ((boarderlaw07_knows.f k).bind fun t241 => (some t241)) else (none)) else (none))))))))) = some r := h
 clear h
 by_cases c2 : (a0.size : Int) > 1000
 · rw [if_pos c2] at H
   have c2b0 : decide (1000 < (a0.size : Int)) = true := decide_eq_true c2
   have c2b1 : decide (1000 < a0.size) = true := decide_eq_true (by omega)
   clear c2
   replace H := Option.bind_eq_some_iff.mp H
   obtain ⟨t233, A30, H⟩ := H
   replace H : (some t233) = some r := H
   have A3 := Aside0.mk A30
   clear A30
   obtain rfl := Option.some.inj H
   go_enter Tryd.func4, Tryd.ntmps4
   go_wp2_with (first | ((with_reducible refine gate_callee (f := 9) rfl ?_); refine goesL_ (some 8) rfl rfl Tryd.func9 (by kernel_rfl) rfl #[] rfl sqA ?_; (with_reducible refine (boarderlaw07_knows.calls k  t233 _ ?side1 A3.out).mono ?_); (case side1 => first | exact HT.out | exact TabW.below HT.out (sqB HB.out) | exact TabW.drawn HT.out ⟨_, rfl⟩); rintro e w4 ⟨rfl, hb⟩; refine ⟨_, rfl, ?_⟩; replace HB := sqM (below_step (sqB HB.out) hb); (try clear hb); (try clear hb2); (try clear hk); (try clear hi)))
   go_ret
   exact ⟨sqE, sqB HB.out⟩
 rw [if_neg c2] at H
 have c2b0 : decide (1000 < (a0.size : Int)) = false := decide_eq_false c2
 have c2b1 : decide (1000 < a0.size) = false := decide_eq_false (by omega)
 clear c2
 replace H := Option.bind_eq_some_iff.mp H
 obtain ⟨⟨t234, t235⟩, A50, H⟩ := H
 replace H : ((key_Right.f a0).bind fun t236 => ((boarderref07_Right.f a0).bind fun t237 => (if (t236 != t237) = true then (none) else ((boarderref07_Right.f a0).bind fun t238 => (if t238 = true then ((boarderref07_Text.f k a0).bind fun t239 => (if t234.toList = t239.toList then (if t235 = 0 then ((boarderlaw07_knows.f k).bind fun t240 => (some t240)) else (none)) else (none))) else (if t234.toList = ([] : List UInt8) then (if t235 = 1 then ((boarderlaw07_knows.f k).bind fun t241 => (some t241)) else (none)) else (none))))))) = some r := H
 have A5 := Aside0.mk A50
 clear A50
 replace H := Option.bind_eq_some_iff.mp H
 obtain ⟨t236, A60, H⟩ := H
 replace H : ((boarderref07_Right.f a0).bind fun t237 => (if (t236 != t237) = true then (none) else ((boarderref07_Right.f a0).bind fun t238 => (if t238 = true then ((boarderref07_Text.f k a0).bind fun t239 => (if t234.toList = t239.toList then (if t235 = 0 then ((boarderlaw07_knows.f k).bind fun t240 => (some t240)) else (none)) else (none))) else (if t234.toList = ([] : List UInt8) then (if t235 = 1 then ((boarderlaw07_knows.f k).bind fun t241 => (some t241)) else (none)) else (none)))))) = some r := H
 have A6 := Aside0.mk A60
 clear A60
 replace H := Option.bind_eq_some_iff.mp H
 obtain ⟨t237, A70, H⟩ := H
 replace H : (if (t236 != t237) = true then (none) else ((boarderref07_Right.f a0).bind fun t238 => (if t238 = true then ((boarderref07_Text.f k a0).bind fun t239 => (if t234.toList = t239.toList then (if t235 = 0 then ((boarderlaw07_knows.f k).bind fun t240 => (some t240)) else (none)) else (none))) else (if t234.toList = ([] : List UInt8) then (if t235 = 1 then ((boarderlaw07_knows.f k).bind fun t241 => (some t241)) else (none)) else (none))))) = some r := H
 have A7 := Aside0.mk A70
 clear A70
 by_cases c8 : (t236 != t237) = true
 · rw [if_pos c8] at H
   exact absurd H (by simp)
 rw [if_neg c8] at H
 have c8b0 : (t236 != t237) = false := by simpa using c8
 (try (have c8b1 : decide (t236 = t237) = true := by simpa using c8))
 (try (have c8b2 : (t236 == t237) = true := by simpa using c8))
 clear c8
 replace H := Option.bind_eq_some_iff.mp H
 obtain ⟨t238, A90, H⟩ := H
 replace H : (if t238 = true then ((boarderref07_Text.f k a0).bind fun t239 => (if t234.toList = t239.toList then (if t235 = 0 then ((boarderlaw07_knows.f k).bind fun t240 => (some t240)) else (none)) else (none))) else (if t234.toList = ([] : List UInt8) then (if t235 = 1 then ((boarderlaw07_knows.f k).bind fun t241 => (some t241)) else (none)) else (none))) = some r := H
 have A9 := Aside0.mk A90
 clear A90
 by_cases c10 : t238 = true
 rotate_left
 · replace c10 := Bool.eq_false_iff.mpr c10
   subst c10
   have H1 : (if t234.toList = ([] : List UInt8) then (if t235 = 1 then ((boarderlaw07_knows.f k).bind fun t241 => (some t241)) else (none)) else (none)) = some r := by rw [if_neg (show ¬ (false = true) by decide)] at H; exact H
   clear H
   have H := H1
   clear H1
   by_cases c18 : t234.toList = ([] : List UInt8)
   rotate_left
   · rw [if_neg c18] at H
     exact absurd H (by simp)
   rw [if_pos c18] at H
   have c18b0 : (t234.toList == ([] : List UInt8)) = true := beq_iff_eq.mpr c18
   have c18b1 : (t234.toList != ([] : List UInt8)) = false := bne_eq_false_iff_eq.mpr c18
   clear c18
   by_cases c19 : t235 = 1
   rotate_left
   · rw [if_neg c19] at H
     exact absurd H (by simp)
   rw [if_pos c19] at H
   have c19b0 : (t235 == 1) = true := beq_iff_eq.mpr c19
   have c19b1 : (t235 != 1) = false := bne_eq_false_iff_eq.mpr c19
   clear c19
   replace H := Option.bind_eq_some_iff.mp H
   obtain ⟨t241, A200, H⟩ := H
   replace H : (some t241) = some r := H
   have A20 := Aside0.mk A200
   clear A200
   obtain rfl := Option.some.inj H
   go_enter Tryd.func4, Tryd.ntmps4
   go_wp2_with (first | ((with_reducible refine gate_callee (f := 14) rfl ?_); refine goesL_ (some 11) rfl rfl Tryd.func14 (by kernel_rfl) rfl #[.string a0] rfl sqA ?_; (with_reducible refine (key_Text.calls _ _ _ _ _ ?side1 A5.out).mono ?_); (case side1 => first | exact HT.out | exact TabW.below HT.out (sqB HB.out) | exact TabW.drawn HT.out ⟨_, rfl⟩); rintro e w21 ⟨rfl, hb⟩; refine ⟨_, rfl, ?_⟩; replace HB := sqM (below_step (sqB HB.out) hb); (try clear hb); (try clear hb2); (try clear hk); (try clear hi)) | ((with_reducible refine gate_callee (f := 13) rfl ?_); refine goesL_ (some 15) rfl rfl Tryd.func13 (by kernel_rfl) rfl #[.string a0] rfl sqA ?_; (with_reducible refine (key_Right.calls _ _ _ A6.out).mono ?_); rintro e w' ⟨rfl, ⟨nd, rfl⟩⟩; refine ⟨_, rfl, ?_⟩) | ((with_reducible refine gate_callee (f := 15) rfl ?_); refine goesL_ (some 17) rfl rfl Tryd.func15 (by kernel_rfl) rfl #[.string a0] rfl sqA ?_; (with_reducible refine (boarderref07_Right.calls _ _ _ A7.out).mono ?_); rintro e w' ⟨rfl, ⟨nd, rfl⟩⟩; refine ⟨_, rfl, ?_⟩) | ((with_reducible refine gate_callee (f := 15) rfl ?_); refine goesL_ (some 20) rfl rfl Tryd.func15 (by kernel_rfl) rfl #[.string a0] rfl sqA ?_; (with_reducible refine (boarderref07_Right.calls _ _ _ A9.out).mono ?_); rintro e w' ⟨rfl, ⟨nd, rfl⟩⟩; refine ⟨_, rfl, ?_⟩) | (go_at_call 9; (with_reducible refine (boarderlaw07_knows.calls k  t241 _ ?side1 A20.out).mono ?_); (case side1 => first | exact HT.out | exact TabW.below HT.out (sqB HB.out) | exact TabW.drawn HT.out ⟨_, rfl⟩); rintro e w22 ⟨rfl, hb⟩; replace HB := sqM (below_step (sqB HB.out) hb); (try clear hb); (try clear hb2); (try clear hk); (try clear hi)))
   go_ret
   exact ⟨sqE, sqB HB.out⟩
 subst c10
 have H1 : ((boarderref07_Text.f k a0).bind fun t239 => (if t234.toList = t239.toList then (if t235 = 0 then ((boarderlaw07_knows.f k).bind fun t240 => (some t240)) else (none)) else (none))) = some r := by rw [if_pos rfl] at H; exact H
 clear H
 have H := H1
 clear H1
 replace H := Option.bind_eq_some_iff.mp H
 obtain ⟨t239, A110, H⟩ := H
 replace H : (if t234.toList = t239.toList then (if t235 = 0 then ((boarderlaw07_knows.f k).bind fun t240 => (some t240)) else (none)) else (none)) = some r := H
 have A11 := Aside0.mk A110
 clear A110
 by_cases c12 : t234.toList = t239.toList
 rotate_left
 · rw [if_neg c12] at H
   exact absurd H (by simp)
 rw [if_pos c12] at H
 have c12b0 : (t234.toList == t239.toList) = true := beq_iff_eq.mpr c12
 have c12b1 : (t234.toList != t239.toList) = false := bne_eq_false_iff_eq.mpr c12
 clear c12
 by_cases c13 : t235 = 0
 rotate_left
 · rw [if_neg c13] at H
   exact absurd H (by simp)
 rw [if_pos c13] at H
 have c13b0 : (t235 == 0) = true := beq_iff_eq.mpr c13
 have c13b1 : (t235 != 0) = false := bne_eq_false_iff_eq.mpr c13
 clear c13
 replace H := Option.bind_eq_some_iff.mp H
 obtain ⟨t240, A140, H⟩ := H
 replace H : (some t240) = some r := H
 have A14 := Aside0.mk A140
 clear A140
 obtain rfl := Option.some.inj H
 go_enter Tryd.func4, Tryd.ntmps4
 go_wp2_with (first | ((with_reducible refine gate_callee (f := 14) rfl ?_); refine goesL_ (some 11) rfl rfl Tryd.func14 (by kernel_rfl) rfl #[.string a0] rfl sqA ?_; (with_reducible refine (key_Text.calls _ _ _ _ _ ?side1 A5.out).mono ?_); (case side1 => first | exact HT.out | exact TabW.below HT.out (sqB HB.out) | exact TabW.drawn HT.out ⟨_, rfl⟩); rintro e w15 ⟨rfl, hb⟩; refine ⟨_, rfl, ?_⟩; replace HB := sqM (below_step (sqB HB.out) hb); (try clear hb); (try clear hb2); (try clear hk); (try clear hi)) | ((with_reducible refine gate_callee (f := 13) rfl ?_); refine goesL_ (some 15) rfl rfl Tryd.func13 (by kernel_rfl) rfl #[.string a0] rfl sqA ?_; (with_reducible refine (key_Right.calls _ _ _ A6.out).mono ?_); rintro e w' ⟨rfl, ⟨nd, rfl⟩⟩; refine ⟨_, rfl, ?_⟩) | ((with_reducible refine gate_callee (f := 15) rfl ?_); refine goesL_ (some 17) rfl rfl Tryd.func15 (by kernel_rfl) rfl #[.string a0] rfl sqA ?_; (with_reducible refine (boarderref07_Right.calls _ _ _ A7.out).mono ?_); rintro e w' ⟨rfl, ⟨nd, rfl⟩⟩; refine ⟨_, rfl, ?_⟩) | ((with_reducible refine gate_callee (f := 15) rfl ?_); refine goesL_ (some 20) rfl rfl Tryd.func15 (by kernel_rfl) rfl #[.string a0] rfl sqA ?_; (with_reducible refine (boarderref07_Right.calls _ _ _ A9.out).mono ?_); rintro e w' ⟨rfl, ⟨nd, rfl⟩⟩; refine ⟨_, rfl, ?_⟩) | ((with_reducible refine gate_callee (f := 16) rfl ?_); refine goesL_ (some 33) rfl rfl Tryd.func16 (by kernel_rfl) rfl #[.string a0] rfl sqA ?_; (with_reducible refine (boarderref07_Text.calls _ _ _ _ A11.out).mono ?_); rintro e w16 ⟨rfl, hb⟩; refine ⟨_, rfl, ?_⟩; replace HB := sqM (below_step (sqB HB.out) hb); (try clear hb); (try clear hb2); (try clear hk); (try clear hi)) | (go_at_call 9; (with_reducible refine (boarderlaw07_knows.calls k  t240 _ ?side1 A14.out).mono ?_); (case side1 => first | exact HT.out | exact TabW.below HT.out (sqB HB.out) | exact TabW.drawn HT.out ⟨_, rfl⟩); rintro e w17 ⟨rfl, hb⟩; replace HB := sqM (below_step (sqB HB.out) hb); (try clear hb); (try clear hb2); (try clear hk); (try clear hi)))
 go_ret
 exact ⟨sqE, sqB HB.out⟩

end Go.Proofs.YtkjmfnijagdhpaaDoor.PKey
