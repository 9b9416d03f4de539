/- Lean functions for Go functions of the given program, and proofs that the code computes them, each under its theorem's own conditions. Written by a program of this session. -/
import Derived.Test.YtkjmfnijagdhpaaDoorPKeyx0
import Derived.Test.YtkjmfnijagdhpaaDoorPKeyx2
import Derived.Test.YtkjmfnijagdhpaaDoorPKeyx3
namespace Go.Proofs.YtkjmfnijagdhpaaDoor.PKey
open Go.RowKit Go.Proofs.YtkjmfnijagdhpaaDoorW.PrintWords Go.Proofs.YtkjmfnijagdhpaaDoorW.PrintLast Go.Proofs.YtkjmfnijagdhpaaDoorW.PrintMore
attribute [local go_sem] max2_int min2_int max_two min_two max_three min_three max_four min_four   -- for this text's walks alone
set_option linter.unusedVariables false
set_option linter.unusedSimpArgs false

/-! ### boarderlaw07_KeyBack: function 6 -/
mutual
def boarderlaw07_KeyBack.j0 : Nat → ByteArray → ByteArray → Bool → Option (Bool)
  | 0, _, _, _ => none
  | k + 1, x0, x1, x20 => if x20 = true then ((boarderlaw07_knows.f k).bind fun t259 => (some t259)) else ((key_Text.f k x0).bind fun bt260 => (if bt260.2 = 0 then ((key_Parse.f k bt260.1).bind fun bt262 => (if bt262.1.toList = x0.toList then (if bt262.2 = 0 then (boarderlaw07_KeyBack.j1 k x1) else (none)) else (none))) else (boarderlaw07_KeyBack.j1 k x1)))
def boarderlaw07_KeyBack.j1 : Nat → ByteArray → Option (Bool)
  | 0, _ => none
  | k + 1, x1 => (key_Parse.f k x1).bind fun bt264 => (if bt264.2 = 0 then ((key_Text.f k bt264.1).bind fun bt266 => (if bt266.1.toList = x1.toList then (if bt266.2 = 0 then ((boarderlaw07_knows.f k).bind fun t268 => (some t268)) else (none)) else (none))) else (if bt264.1.toList = ([] : List UInt8) then ((boarderlaw07_knows.f k).bind fun t269 => (some t269)) else (none)))
end
def boarderlaw07_KeyBack.f (k : Nat) (a0 : ByteArray) (a1 : ByteArray) : Option (Bool) := if (a0.size : Int) > 1000 then (boarderlaw07_KeyBack.j0 k a0 a1 true) else (boarderlaw07_KeyBack.j0 k a0 a1 (decide ((a1.size : Int) > 1000)))
theorem boarderlaw07_KeyBack.mono_l : ∀ k, (∀ y0 y1 y2, LeO (boarderlaw07_KeyBack.j0 k y0 y1 y2) (boarderlaw07_KeyBack.j0 (k + 1) y0 y1 y2)) ∧ (∀ y0, LeO (boarderlaw07_KeyBack.j1 k y0) (boarderlaw07_KeyBack.j1 (k + 1) y0))
  | 0 => ⟨fun _ _ _ r h => by simp [boarderlaw07_KeyBack.j0] at h, fun _ r h => by simp [boarderlaw07_KeyBack.j1] at h⟩
  | k + 1 => by
    obtain ⟨ih0, ih1⟩ := boarderlaw07_KeyBack.mono_l k
    refine ⟨?_, ?_⟩
    · intro y0 y1 y2
      unfold boarderlaw07_KeyBack.j0
      repeat' first
      | (with_reducible exact ih0 _ _ _)
      | (with_reducible exact ih1 _)
      | (with_reducible exact boarderlaw07_knows.mono _)
      | (with_reducible exact key_Parse.mono _ _)
      | (with_reducible exact key_Text.mono _ _)
      | (with_reducible exact LeO.refl _)
      | (with_reducible exact LeO.none _)
      | (with_reducible refine LeO.ite ?_ ?_)
      | (with_reducible refine LeO.bind ?_ (fun _ => ?_))
    · intro y0
      unfold boarderlaw07_KeyBack.j1
      repeat' first
      | (with_reducible exact ih0 _ _ _)
      | (with_reducible exact ih1 _)
      | (with_reducible exact boarderlaw07_knows.mono _)
      | (with_reducible exact key_Parse.mono _ _)
      | (with_reducible exact key_Text.mono _ _)
      | (with_reducible exact LeO.refl _)
      | (with_reducible exact LeO.none _)
      | (with_reducible refine LeO.ite ?_ ?_)
      | (with_reducible refine LeO.bind ?_ (fun _ => ?_))
theorem boarderlaw07_KeyBack.mono : ∀ a0 a1 k, LeO (boarderlaw07_KeyBack.f k a0 a1) (boarderlaw07_KeyBack.f (k + 1) a0 a1) := by
 intro a0 a1 k
 obtain ⟨ih0, ih1⟩ := boarderlaw07_KeyBack.mono_l k
 unfold boarderlaw07_KeyBack.f
 repeat' first
  | (with_reducible exact ih0 _ _ _)
  | (with_reducible exact ih1 _)
  | (with_reducible exact boarderlaw07_knows.mono _)
  | (with_reducible exact key_Parse.mono _ _)
  | (with_reducible exact key_Text.mono _ _)
  | (with_reducible exact LeO.refl _)
  | (with_reducible exact LeO.none _)
  | (with_reducible refine LeO.ite ?_ ?_)
  | (with_reducible refine LeO.bind ?_ (fun _ => ?_))
set_option maxHeartbeats 8000000 in
set_option maxRecDepth 100000 in
theorem boarderlaw07_KeyBack.calls (k : Nat) (a0 : ByteArray) (a1 : ByteArray) (r : Bool) (w : World) (hT : TabW w) (h : boarderlaw07_KeyBack.f k a0 a1 = some r) :
    Calls Tryd.prog 6 #[.string a0, .string a1] w fun e w' => e = .returned (.bool r) ∧ Below w.heap.size w w' := by
 have HT := Aside0.mk hT
 clear hT
 have HRT0 := Aside0.mk HT.out.t0
 have HB := Aside0.mk (Below.refl w.heap.size w)
 have H : (if (a0.size : Int) > 1000 then (boarderlaw07_KeyBack.j0 k a0 a1 true) else (boarderlaw07_KeyBack.j0 k a0 a1 (decide ((a1.size : Int) > 1000)))) = some r := h
 clear h
 have HC3 := Aside0.mk H
 clear H
 go_enter Tryd.func6, Tryd.ntmps6
 go_upto_region 1 with (fail)
 go_cut [20] (fun v20 wc => ∃ (kq : Nat) (x20_2 : Bool), v20 = .bool x20_2 ∧ Aside0 (boarderlaw07_KeyBack.j0 kq a0 a1 x20_2 = some r) ∧ Aside0 (kq ≤ k) ∧ Aside0 (Below w.heap.size w wc))
 case first =>
  have H := HC3.out
  clear HC3
  by_cases c4 : (a0.size : Int) > 1000
  · rw [if_pos c4] at H
    have c4b0 : decide (1000 < (a0.size : Int)) = true := decide_eq_true c4
    have c4b1 : decide (1000 < a0.size) = true := decide_eq_true (by omega)
    clear c4
    (first | rw [c4b0] | (simp only [i64_w, i32_w]; rw [c4b0]) | skip)
    have H' := Aside0.mk H
    clear H
    go_wp2
    go_meet
    case rel => exact ⟨_, (true), sqI, H', ⟨by first | omega | exact Nat.le_refl _⟩, ⟨sqB HB.out⟩⟩
  rw [if_neg c4] at H
  have c4b0 : decide (1000 < (a0.size : Int)) = false := decide_eq_false c4
  have c4b1 : decide (1000 < a0.size) = false := decide_eq_false (by omega)
  clear c4
  (first | rw [c4b0] | (simp only [i64_w, i32_w]; rw [c4b0]) | skip)
  have H' := Aside0.mk H
  clear H
  go_wp2
  go_meet
  case rel => exact ⟨_, (decide ((a1.size : Int) > 1000)), sqI, H', ⟨by first | omega | exact Nat.le_refl _⟩, ⟨sqB HB.out⟩⟩
 clear HC3
 try clear p2
 try clear c4
 try clear c4b0
 try clear c4b1
 obtain ⟨kq, x20_2, rfl, HA, HJ2, HB⟩ := hcut
 cases kq with
 | zero => exact absurd HA.out (by simp [boarderlaw07_KeyBack.j0])
 | succ kj2 => ?_
 have H := HA.out
 clear HA
 simp only [boarderlaw07_KeyBack.j0] at H
 by_cases c5 : x20_2 = true
 · subst c5
   have H1 : ((boarderlaw07_knows.f kj2).bind fun t259 => (some t259)) = some r := by rw [if_pos rfl] at H; exact H
   clear H
   have H := H1
   clear H1
   replace H := Option.bind_eq_some_iff.mp H
   obtain ⟨t259, A60, H⟩ := H
   replace H : (some t259) = some r := H
   have A6 := Aside0.mk A60
   clear A60
   obtain rfl := Option.some.inj H
   go_wp2_with (first | ((with_reducible refine gate_callee (f := 9) rfl ?_); refine goesL_ (some 21) rfl rfl Tryd.func9 (by kernel_rfl) rfl #[] rfl sqA ?_; (with_reducible refine (boarderlaw07_knows.calls kj2  t259 _ ?side1 A6.out).mono ?_); (case side1 => first | exact HT.out | exact TabW.below HT.out (sqB HB.out) | exact TabW.drawn HT.out ⟨_, rfl⟩); rintro e w7 ⟨rfl, hb⟩; refine ⟨_, rfl, ?_⟩; replace HB := sqM (below_step (sqB HB.out) hb); (try clear hb); (try clear hb2); (try clear hk); (try clear hi)))
   go_ret
   exact ⟨sqE, sqB HB.out⟩
 replace c5 := Bool.eq_false_iff.mpr c5
 subst c5
 have H1 : ((key_Text.f kj2 a0).bind fun bt260 => (if bt260.2 = 0 then ((key_Parse.f kj2 bt260.1).bind fun bt262 => (if bt262.1.toList = a0.toList then (if bt262.2 = 0 then (boarderlaw07_KeyBack.j1 kj2 a1) else (none)) else (none))) else (boarderlaw07_KeyBack.j1 kj2 a1))) = some r := by rw [if_neg (show ¬ (false = true) by decide)] at H; exact H
 clear H
 have H := H1
 clear H1
 replace H := Option.bind_eq_some_iff.mp H
 obtain ⟨⟨t260, t261⟩, A80, H⟩ := H
 replace H : (if t261 = 0 then ((key_Parse.f kj2 t260).bind fun bt262 => (if bt262.1.toList = a0.toList then (if bt262.2 = 0 then (boarderlaw07_KeyBack.j1 kj2 a1) else (none)) else (none))) else (boarderlaw07_KeyBack.j1 kj2 a1)) = some r := H
 have A8 := Aside0.mk A80
 clear A80
 have HC9 := Aside0.mk H
 clear H
 go_upto_if 28 with (first | ((with_reducible refine gate_callee (f := 14) rfl ?_); refine goesL_ (some 24) rfl rfl Tryd.func14 (by kernel_rfl) rfl #[.string a0] rfl sqA ?_; (with_reducible refine (key_Text.calls _ _ _ _ _ ?side1 A8.out).mono ?_); (case side1 => first | exact HT.out | exact TabW.below HT.out (sqB HB.out) | exact TabW.drawn HT.out ⟨_, rfl⟩); rintro e w10 ⟨rfl, hb⟩; refine ⟨_, rfl, ?_⟩; replace HB := sqM (below_step (sqB HB.out) hb); (try clear hb); (try clear hb2); (try clear hk); (try clear hi)))
 (try simp only [Act.put, List.setIfInBounds_toArray, List.set_cons_zero, List.set_cons_succ])
 go_cut [] (fun wc => ∃ (kq : Nat), Aside0 (boarderlaw07_KeyBack.j1 kq a1 = some r) ∧ Aside0 (kq ≤ kj2) ∧ Aside0 (Below w.heap.size w wc))
 case first =>
  have H := HC9.out
  clear HC9
  by_cases c11 : t261 = 0
  rotate_left
  · rw [if_neg c11] at H
    have c11b0 : (t261 == 0) = false := beq_eq_false_iff_ne.mpr c11
    have c11b1 : (t261 != 0) = true := bne_iff_ne.mpr c11
    (first | rw [c11b0] | (simp only [i64_w, i32_w]; rw [c11b0]) | skip)
    have H' := Aside0.mk H
    clear H
    go_wp2
    go_meet
    case rel => exact ⟨_, H', ⟨by have := HJ2.out; first | omega | exact Nat.le_refl _⟩, ⟨sqB HB.out⟩⟩
  rw [if_pos c11] at H
  have c11b0 : (t261 == 0) = true := beq_iff_eq.mpr c11
  have c11b1 : (t261 != 0) = false := bne_eq_false_iff_eq.mpr c11
  clear c11
  (first | rw [c11b0] | (simp only [i64_w, i32_w]; rw [c11b0]) | skip)
  replace H := Option.bind_eq_some_iff.mp H
  obtain ⟨⟨t262, t263⟩, A120, H⟩ := H
  replace H : (if t262.toList = a0.toList then (if t263 = 0 then (boarderlaw07_KeyBack.j1 kj2 a1) else (none)) else (none)) = some r := H
  have A12 := Aside0.mk A120
  clear A120
  by_cases c13 : t262.toList = a0.toList
  rotate_left
  · rw [if_neg c13] at H
    exact absurd H (by simp)
  rw [if_pos c13] at H
  have c13b0 : (t262.toList == a0.toList) = true := beq_iff_eq.mpr c13
  have c13b1 : (t262.toList != a0.toList) = false := bne_eq_false_iff_eq.mpr c13
  clear c13
  by_cases c14 : t263 = 0
  rotate_left
  · rw [if_neg c14] at H
    exact absurd H (by simp)
  rw [if_pos c14] at H
  have c14b0 : (t263 == 0) = true := beq_iff_eq.mpr c14
  have c14b1 : (t263 != 0) = false := bne_eq_false_iff_eq.mpr c14
  clear c14
  have H' := Aside0.mk H
  clear H
  go_wp2_with (first | ((with_reducible refine gate_callee (f := 17) rfl ?_); refine goesL_ (some 31) rfl rfl Tryd.func17 (by kernel_rfl) rfl #[.string t260] rfl sqA ?_; (with_reducible refine (key_Parse.calls _ _ _ _ _ ?side1 A12.out).mono ?_); (case side1 => first | exact HT.out | exact TabW.below HT.out (sqB HB.out) | exact TabW.drawn HT.out ⟨_, rfl⟩); rintro e w15 ⟨rfl, hb⟩; refine ⟨_, rfl, ?_⟩; replace HB := sqM (below_step (sqB HB.out) hb); (try clear hb); (try clear hb2); (try clear hk); (try clear hi)))
  go_meet
  case rel => exact ⟨_, H', ⟨by have := HJ2.out; first | omega | exact Nat.le_refl _⟩, ⟨sqB HB.out⟩⟩
 clear HC9
 try clear c1
 try clear p2
 try clear c4
 try clear c4b0
 try clear c4b1
 try clear c5
 try clear c6
 try clear c9
 try clear c11
 try clear c11b0
 try clear c11b1
 try clear c13
 try clear c13b0
 try clear c13b1
 try clear c14
 try clear c14b0
 try clear c14b1
 try clear p2
 obtain ⟨kq, HA, HJ8, HB⟩ := hcut
 cases kq with
 | zero => exact absurd HA.out (by simp [boarderlaw07_KeyBack.j1])
 | succ kj8 => ?_
 have H := HA.out
 clear HA
 simp only [boarderlaw07_KeyBack.j1] at H
 replace H := Option.bind_eq_some_iff.mp H
 obtain ⟨⟨t264, t265⟩, A160, H⟩ := H
 replace H : (if t265 = 0 then ((key_Text.f kj8 t264).bind fun bt266 => (if bt266.1.toList = a1.toList then (if bt266.2 = 0 then ((boarderlaw07_knows.f kj8).bind fun t268 => (some t268)) else (none)) else (none))) else (if t264.toList = ([] : List UInt8) then ((boarderlaw07_knows.f kj8).bind fun t269 => (some t269)) else (none))) = some r := H
 have A16 := Aside0.mk A160
 clear A160
 by_cases c17 : t265 = 0
 rotate_left
 · rw [if_neg c17] at H
   have c17b0 : (t265 == 0) = false := beq_eq_false_iff_ne.mpr c17
   have c17b1 : (t265 != 0) = true := bne_iff_ne.mpr c17
   by_cases c25 : t264.toList = ([] : List UInt8)
   rotate_left
   · rw [if_neg c25] at H
     exact absurd H (by simp)
   rw [if_pos c25] at H
   have c25b0 : (t264.toList == ([] : List UInt8)) = true := beq_iff_eq.mpr c25
   have c25b1 : (t264.toList != ([] : List UInt8)) = false := bne_eq_false_iff_eq.mpr c25
   clear c25
   replace H := Option.bind_eq_some_iff.mp H
   obtain ⟨t269, A260, H⟩ := H
   replace H : (some t269) = some r := H
   have A26 := Aside0.mk A260
   clear A260
   obtain rfl := Option.some.inj H
   go_wp2_with (first | ((with_reducible refine gate_callee (f := 17) rfl ?_); refine goesL_ (some 43) rfl rfl Tryd.func17 (by kernel_rfl) rfl #[.string a1] rfl sqA ?_; (with_reducible refine (key_Parse.calls _ _ _ _ _ ?side1 A16.out).mono ?_); (case side1 => first | exact HT.out | exact TabW.below HT.out (sqB HB.out) | exact TabW.drawn HT.out ⟨_, rfl⟩); rintro e w27 ⟨rfl, hb⟩; refine ⟨_, rfl, ?_⟩; replace HB := sqM (below_step (sqB HB.out) hb); (try clear hb); (try clear hb2); (try clear hk); (try clear hi)) | (go_at_call 9; (with_reducible refine (boarderlaw07_knows.calls kj8  t269 _ ?side1 A26.out).mono ?_); (case side1 => first | exact HT.out | exact TabW.below HT.out (sqB HB.out) | exact TabW.drawn HT.out ⟨_, rfl⟩); rintro e w28 ⟨rfl, hb⟩; replace HB := sqM (below_step (sqB HB.out) hb); (try clear hb); (try clear hb2); (try clear hk); (try clear hi)))
   go_ret
   exact ⟨sqE, sqB HB.out⟩
 rw [if_pos c17] at H
 have c17b0 : (t265 == 0) = true := beq_iff_eq.mpr c17
 have c17b1 : (t265 != 0) = false := bne_eq_false_iff_eq.mpr c17
 clear c17
 replace H := Option.bind_eq_some_iff.mp H
 obtain ⟨⟨t266, t267⟩, A180, H⟩ := H
 replace H : (if t266.toList = a1.toList then (if t267 = 0 then ((boarderlaw07_knows.f kj8).bind fun t268 => (some t268)) else (none)) else (none)) = some r := H
 have A18 := Aside0.mk A180
 clear A180
 by_cases c19 : t266.toList = a1.toList
 rotate_left
 · rw [if_neg c19] at H
   exact absurd H (by simp)
 rw [if_pos c19] at H
 have c19b0 : (t266.toList == a1.toList) = true := beq_iff_eq.mpr c19
 have c19b1 : (t266.toList != a1.toList) = false := bne_eq_false_iff_eq.mpr c19
 clear c19
 by_cases c20 : t267 = 0
 rotate_left
 · rw [if_neg c20] at H
   exact absurd H (by simp)
 rw [if_pos c20] at H
 have c20b0 : (t267 == 0) = true := beq_iff_eq.mpr c20
 have c20b1 : (t267 != 0) = false := bne_eq_false_iff_eq.mpr c20
 clear c20
 replace H := Option.bind_eq_some_iff.mp H
 obtain ⟨t268, A210, H⟩ := H
 replace H : (some t268) = some r := H
 have A21 := Aside0.mk A210
 clear A210
 obtain rfl := Option.some.inj H
 go_wp2_with (first | ((with_reducible refine gate_callee (f := 17) rfl ?_); refine goesL_ (some 43) rfl rfl Tryd.func17 (by kernel_rfl) rfl #[.string a1] rfl sqA ?_; (with_reducible refine (key_Parse.calls _ _ _ _ _ ?side1 A16.out).mono ?_); (case side1 => first | exact HT.out | exact TabW.below HT.out (sqB HB.out) | exact TabW.drawn HT.out ⟨_, rfl⟩); rintro e w22 ⟨rfl, hb⟩; refine ⟨_, rfl, ?_⟩; replace HB := sqM (below_step (sqB HB.out) hb); (try clear hb); (try clear hb2); (try clear hk); (try clear hi)) | ((with_reducible refine gate_callee (f := 14) rfl ?_); refine goesL_ (some 55) rfl rfl Tryd.func14 (by kernel_rfl) rfl #[.string t264] rfl sqA ?_; (with_reducible refine (key_Text.calls _ _ _ _ _ ?side1 A18.out).mono ?_); (case side1 => first | exact HT.out | exact TabW.below HT.out (sqB HB.out) | exact TabW.drawn HT.out ⟨_, rfl⟩); rintro e w23 ⟨rfl, hb⟩; refine ⟨_, rfl, ?_⟩; replace HB := sqM (below_step (sqB HB.out) hb); (try clear hb); (try clear hb2); (try clear hk); (try clear hi)) | (go_at_call 9; (with_reducible refine (boarderlaw07_knows.calls kj8  t268 _ ?side1 A21.out).mono ?_); (case side1 => first | exact HT.out | exact TabW.below HT.out (sqB HB.out) | exact TabW.drawn HT.out ⟨_, rfl⟩); rintro e w24 ⟨rfl, hb⟩; replace HB := sqM (below_step (sqB HB.out) hb); (try clear hb); (try clear hb2); (try clear hk); (try clear hi)))
 go_ret
 exact ⟨sqE, sqB HB.out⟩

end Go.Proofs.YtkjmfnijagdhpaaDoor.PKey
