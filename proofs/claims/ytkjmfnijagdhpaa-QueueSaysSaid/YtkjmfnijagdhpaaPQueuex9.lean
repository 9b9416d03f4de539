/- Lean functions for Go functions of the given program, and proofs that the code computes them, each under its theorem's own conditions. Written by a program of this session. -/
import Derived.Test.YtkjmfnijagdhpaaPQueuex0
import Derived.Test.YtkjmfnijagdhpaaPQueuex6
namespace Go.Proofs.Ytkjmfnijagdhpaa.PQueue
open Go.RowKit Go.Proofs.YtkjmfnijagdhpaaW.PrintWords Go.Proofs.YtkjmfnijagdhpaaW.PrintLast Go.Proofs.YtkjmfnijagdhpaaW.PrintMore
attribute [local go_sem] max2_int min2_int max_two min_two max_three min_three max_four min_four   -- for this text's walks alone
set_option linter.unusedVariables false
set_option linter.unusedSimpArgs false

/-! ### boarderref25_first: function 37 -/
def boarderref25_first.l0 : Nat → List (S34) → Int → Int → Option (Int)
  | 0, _, _, _ => none
  | k + 1, x0, x3, x4 => if x4 < (x0.length : Int) then (if 0 ≤ x4 then (if 0 ≤ x3 then (if x3 < (x0.length : Int) then (if ((rd_T34 x0 x4).f2) < ((rd_T34 x0 x3).f2) then (boarderref25_first.l0 k x0 x4 (wrap64 (x4 + 1))) else (if ((rd_T34 x0 x4).f2) = ((rd_T34 x0 x3).f2) then (if ((rd_T34 x0 x4).f0) < ((rd_T34 x0 x3).f0) then (boarderref25_first.l0 k x0 x4 (wrap64 (x4 + 1))) else (boarderref25_first.l0 k x0 x3 (wrap64 (x4 + 1)))) else (boarderref25_first.l0 k x0 x3 (wrap64 (x4 + 1))))) else (none)) else (none)) else (none)) else (some x3)
def boarderref25_first.f (k : Nat) (l0 : List (S34)) : Option (Int) := boarderref25_first.l0 k l0 0 1
theorem boarderref25_first.mono_l : ∀ k, (∀ y0 y1 y2, LeO (boarderref25_first.l0 k y0 y1 y2) (boarderref25_first.l0 (k + 1) y0 y1 y2))
  | 0 => fun _ _ _ r h => by simp [boarderref25_first.l0] at h
  | k + 1 => by
    have ih0 := boarderref25_first.mono_l k
    · intro y0 y1 y2
      unfold boarderref25_first.l0
      repeat' first
      | (with_reducible exact ih0 _ _ _)
      | (with_reducible exact LeO.refl _)
      | (with_reducible exact LeO.none _)
      | (with_reducible refine LeO.ite ?_ ?_)
      | (with_reducible refine LeO.bind ?_ (fun _ => ?_))
      | exact ih0 _ _ _
      | exact LeO.none _
      | refine LeO.ite ?_ ?_
      | refine LeO.bind ?_ (fun _ => ?_)
theorem boarderref25_first.mono : ∀ a0 k, LeO (boarderref25_first.f k a0) (boarderref25_first.f (k + 1) a0) := by
 intro a0 k
 have ih0 := boarderref25_first.mono_l k
 unfold boarderref25_first.f
 repeat' first
  | (with_reducible exact ih0 _ _ _)
  | (with_reducible exact LeO.refl _)
  | (with_reducible exact LeO.none _)
  | (with_reducible refine LeO.ite ?_ ?_)
  | (with_reducible refine LeO.bind ?_ (fun _ => ?_))
  | exact ih0 _ _ _
  | exact LeO.none _
  | refine LeO.ite ?_ ?_
  | refine LeO.bind ?_ (fun _ => ?_)
set_option maxHeartbeats 8000000 in
set_option maxRecDepth 100000 in
theorem boarderref25_first.calls (k : Nat) (A0 : Option Addr) (c0 : Nat) (l0 : List (S34)) (r : Int) (w : World) (hr0 : Kd.C k34 w A0 l0.length l0) (hc0 : l0.length ≤ c0) (h : boarderref25_first.f k l0 = some r) :
    Calls Try.prog 37 #[.slice A0 l0.length c0] w fun e w' => e = .returned (.int .i64 r) ∧ Drawn0 w w' := by
 have HR0 := Aside0.mk hr0
 have HC0 := Aside0.mk hc0
 clear hr0 hc0
 have H : (boarderref25_first.l0 k l0 0 1) = some r := h
 clear h
 have H' := Aside0.mk H
 clear H
 go_enter Try.func37, Try.ntmps37
 go_wp2
 repeat (go_quiet (fail); try go_wp2)
 go_loopg [3, 4] k (fun kq v3 v4 w' => ∃ (x3_1 : Int) (x4_1 : Int), v3 = .int .i64 x3_1 ∧ v4 = .int .i64 x4_1 ∧ Aside0 (boarderref25_first.l0 kq l0 x3_1 x4_1 = some r) ∧ Aside0 (kq ≤ k) ∧ Drawn0 w w')
 case atStart => exact ⟨(0), (1), sqI, sqI, H', ⟨Nat.le_refl _⟩, sqD⟩
 clear H'
 obtain ⟨x3_1, x4_1, rfl, rfl, HA, HK1, ⟨m1, rfl⟩⟩ := hrel
 cases gk with
 | zero => exact absurd HA.out (by simp [boarderref25_first.l0])
 | succ k1 => ?_
 have H := HA.out
 clear HA
 simp only [boarderref25_first.l0] at H
 by_cases c2 : x4_1 < (l0.length : Int)
 rotate_left
 · rw [if_neg c2] at H
   have c2b0 : decide (x4_1 < (l0.length : Int)) = false := decide_eq_false c2
   clear c2
   obtain rfl := Option.some.inj H
   go_wp2
   repeat (go_quiet (fail); try go_wp2)
   go_ret
   exact ⟨sqI, sqD⟩
 rw [if_pos c2] at H
 have c2b0 : decide (x4_1 < (l0.length : Int)) = true := decide_eq_true c2
 clear c2
 by_cases c3 : 0 ≤ x4_1
 rotate_left
 · rw [if_neg c3] at H
   exact absurd H (by simp)
 rw [if_pos c3] at H
 have c3b0 : decide (0 ≤ x4_1) = true := decide_eq_true c3
 clear c3
 by_cases c4 : 0 ≤ x3_1
 rotate_left
 · rw [if_neg c4] at H
   exact absurd H (by simp)
 rw [if_pos c4] at H
 have c4b0 : decide (0 ≤ x3_1) = true := decide_eq_true c4
 clear c4
 by_cases c5 : x3_1 < (l0.length : Int)
 rotate_left
 · rw [if_neg c5] at H
   exact absurd H (by simp)
 rw [if_pos c5] at H
 have c5b0 : decide (x3_1 < (l0.length : Int)) = true := decide_eq_true c5
 clear c5
 by_cases c6 : ((rd_T34 l0 x4_1).f2) < ((rd_T34 l0 x3_1).f2)
 · rw [if_pos c6] at H
   have c6b0 : decide (((rd_T34 l0 x4_1).f2) < ((rd_T34 l0 x3_1).f2)) = true := decide_eq_true c6
   clear c6
   have H' := Aside0.mk H
   clear H
   have p205 : 0 ≤ (x4_1 : Int) := of_decide_eq_true sqH
   have q205 : x4_1 < (l0.length : Int) := of_decide_eq_true sqH
   obtain ⟨ad205, e205, hx205_0, hx205_1, hx205_2, hx205_3⟩ := at_T34 HR0.out x4_1 p205 q205
   cases e205
   replace p205 := eq_true p205
   replace q205 := eq_true q205
   have p206 : 0 ≤ (x3_1 : Int) := of_decide_eq_true sqH
   have q206 : x3_1 < (l0.length : Int) := of_decide_eq_true sqH
   obtain ⟨ad206, e206, hx206_0, hx206_1, hx206_2, hx206_3⟩ := at_T34 HR0.out x3_1 p206 q206
   obtain rfl : ad205 = ad206 := (by injection e206)
   replace p206 := eq_true p206
   replace q206 := eq_true q206
   go_wp2
   repeat (go_quiet (fail); try go_wp2)
   go_roundg k1
   case measure => have := HK1.out; omega
   case rel => exact ⟨(x4_1), (wrap64 (x4_1 + 1)), sqI, sqI, H', ⟨by have := HK1.out; omega⟩, sqD⟩
 rw [if_neg c6] at H
 have c6b0 : decide (((rd_T34 l0 x4_1).f2) < ((rd_T34 l0 x3_1).f2)) = false := decide_eq_false c6
 clear c6
 by_cases c7 : ((rd_T34 l0 x4_1).f2) = ((rd_T34 l0 x3_1).f2)
 rotate_left
 · rw [if_neg c7] at H
   have c7b0 : (((rd_T34 l0 x4_1).f2) == ((rd_T34 l0 x3_1).f2)) = false := beq_eq_false_iff_ne.mpr c7
   have c7b1 : (((rd_T34 l0 x4_1).f2) != ((rd_T34 l0 x3_1).f2)) = true := bne_iff_ne.mpr c7
   have H' := Aside0.mk H
   clear H
   have p205 : 0 ≤ (x4_1 : Int) := of_decide_eq_true sqH
   have q205 : x4_1 < (l0.length : Int) := of_decide_eq_true sqH
   obtain ⟨ad205, e205, hx205_0, hx205_1, hx205_2, hx205_3⟩ := at_T34 HR0.out x4_1 p205 q205
   cases e205
   replace p205 := eq_true p205
   replace q205 := eq_true q205
   have p206 : 0 ≤ (x3_1 : Int) := of_decide_eq_true sqH
   have q206 : x3_1 < (l0.length : Int) := of_decide_eq_true sqH
   obtain ⟨ad206, e206, hx206_0, hx206_1, hx206_2, hx206_3⟩ := at_T34 HR0.out x3_1 p206 q206
   obtain rfl : ad205 = ad206 := (by injection e206)
   replace p206 := eq_true p206
   replace q206 := eq_true q206
   have p207 : 0 ≤ (x4_1 : Int) := of_decide_eq_true sqH
   have q207 : x4_1 < (l0.length : Int) := of_decide_eq_true sqH
   obtain ⟨ad207, e207, hx207_0, hx207_1, hx207_2, hx207_3⟩ := at_T34 HR0.out x4_1 p207 q207
   obtain rfl : ad205 = ad207 := (by injection e207)
   replace p207 := eq_true p207
   replace q207 := eq_true q207
   have p208 : 0 ≤ (x3_1 : Int) := of_decide_eq_true sqH
   have q208 : x3_1 < (l0.length : Int) := of_decide_eq_true sqH
   obtain ⟨ad208, e208, hx208_0, hx208_1, hx208_2, hx208_3⟩ := at_T34 HR0.out x3_1 p208 q208
   obtain rfl : ad205 = ad208 := (by injection e208)
   replace p208 := eq_true p208
   replace q208 := eq_true q208
   go_wp2
   repeat (go_quiet (fail); try go_wp2)
   go_roundg k1
   case measure => have := HK1.out; omega
   case rel => exact ⟨(x3_1), (wrap64 (x4_1 + 1)), sqI, sqI, H', ⟨by have := HK1.out; omega⟩, sqD⟩
 rw [if_pos c7] at H
 have c7b0 : (((rd_T34 l0 x4_1).f2) == ((rd_T34 l0 x3_1).f2)) = true := beq_iff_eq.mpr c7
 have c7b1 : (((rd_T34 l0 x4_1).f2) != ((rd_T34 l0 x3_1).f2)) = false := bne_eq_false_iff_eq.mpr c7
 clear c7
 by_cases c8 : ((rd_T34 l0 x4_1).f0) < ((rd_T34 l0 x3_1).f0)
 · rw [if_pos c8] at H
   have c8b0 : decide (((rd_T34 l0 x4_1).f0) < ((rd_T34 l0 x3_1).f0)) = true := decide_eq_true c8
   clear c8
   have H' := Aside0.mk H
   clear H
   have p205 : 0 ≤ (x4_1 : Int) := of_decide_eq_true sqH
   have q205 : x4_1 < (l0.length : Int) := of_decide_eq_true sqH
   obtain ⟨ad205, e205, hx205_0, hx205_1, hx205_2, hx205_3⟩ := at_T34 HR0.out x4_1 p205 q205
   cases e205
   replace p205 := eq_true p205
   replace q205 := eq_true q205
   have p206 : 0 ≤ (x3_1 : Int) := of_decide_eq_true sqH
   have q206 : x3_1 < (l0.length : Int) := of_decide_eq_true sqH
   obtain ⟨ad206, e206, hx206_0, hx206_1, hx206_2, hx206_3⟩ := at_T34 HR0.out x3_1 p206 q206
   obtain rfl : ad205 = ad206 := (by injection e206)
   replace p206 := eq_true p206
   replace q206 := eq_true q206
   have p207 : 0 ≤ (x4_1 : Int) := of_decide_eq_true sqH
   have q207 : x4_1 < (l0.length : Int) := of_decide_eq_true sqH
   obtain ⟨ad207, e207, hx207_0, hx207_1, hx207_2, hx207_3⟩ := at_T34 HR0.out x4_1 p207 q207
   obtain rfl : ad205 = ad207 := (by injection e207)
   replace p207 := eq_true p207
   replace q207 := eq_true q207
   have p208 : 0 ≤ (x3_1 : Int) := of_decide_eq_true sqH
   have q208 : x3_1 < (l0.length : Int) := of_decide_eq_true sqH
   obtain ⟨ad208, e208, hx208_0, hx208_1, hx208_2, hx208_3⟩ := at_T34 HR0.out x3_1 p208 q208
   obtain rfl : ad205 = ad208 := (by injection e208)
   replace p208 := eq_true p208
   replace q208 := eq_true q208
   have p209 : 0 ≤ (x4_1 : Int) := of_decide_eq_true sqH
   have q209 : x4_1 < (l0.length : Int) := of_decide_eq_true sqH
   obtain ⟨ad209, e209, hx209_0, hx209_1, hx209_2, hx209_3⟩ := at_T34 HR0.out x4_1 p209 q209
   obtain rfl : ad205 = ad209 := (by injection e209)
   replace p209 := eq_true p209
   replace q209 := eq_true q209
   have p210 : 0 ≤ (x3_1 : Int) := of_decide_eq_true sqH
   have q210 : x3_1 < (l0.length : Int) := of_decide_eq_true sqH
   obtain ⟨ad210, e210, hx210_0, hx210_1, hx210_2, hx210_3⟩ := at_T34 HR0.out x3_1 p210 q210
   obtain rfl : ad205 = ad210 := (by injection e210)
   replace p210 := eq_true p210
   replace q210 := eq_true q210
   go_wp2
   repeat (go_quiet (fail); try go_wp2)
   go_roundg k1
   case measure => have := HK1.out; omega
   case rel => exact ⟨(x4_1), (wrap64 (x4_1 + 1)), sqI, sqI, H', ⟨by have := HK1.out; omega⟩, sqD⟩
 rw [if_neg c8] at H
 have c8b0 : decide (((rd_T34 l0 x4_1).f0) < ((rd_T34 l0 x3_1).f0)) = false := decide_eq_false c8
 clear c8
 have H' := Aside0.mk H
 clear H
 have p205 : 0 ≤ (x4_1 : Int) := of_decide_eq_true sqH
 have q205 : x4_1 < (l0.length : Int) := of_decide_eq_true sqH
 obtain ⟨ad205, e205, hx205_0, hx205_1, hx205_2, hx205_3⟩ := at_T34 HR0.out x4_1 p205 q205
 cases e205
 replace p205 := eq_true p205
 replace q205 := eq_true q205
 have p206 : 0 ≤ (x3_1 : Int) := of_decide_eq_true sqH
 have q206 : x3_1 < (l0.length : Int) := of_decide_eq_true sqH
 obtain ⟨ad206, e206, hx206_0, hx206_1, hx206_2, hx206_3⟩ := at_T34 HR0.out x3_1 p206 q206
 obtain rfl : ad205 = ad206 := (by injection e206)
 replace p206 := eq_true p206
 replace q206 := eq_true q206
 have p207 : 0 ≤ (x4_1 : Int) := of_decide_eq_true sqH
 have q207 : x4_1 < (l0.length : Int) := of_decide_eq_true sqH
 obtain ⟨ad207, e207, hx207_0, hx207_1, hx207_2, hx207_3⟩ := at_T34 HR0.out x4_1 p207 q207
 obtain rfl : ad205 = ad207 := (by injection e207)
 replace p207 := eq_true p207
 replace q207 := eq_true q207
 have p208 : 0 ≤ (x3_1 : Int) := of_decide_eq_true sqH
 have q208 : x3_1 < (l0.length : Int) := of_decide_eq_true sqH
 obtain ⟨ad208, e208, hx208_0, hx208_1, hx208_2, hx208_3⟩ := at_T34 HR0.out x3_1 p208 q208
 obtain rfl : ad205 = ad208 := (by injection e208)
 replace p208 := eq_true p208
 replace q208 := eq_true q208
 have p209 : 0 ≤ (x4_1 : Int) := of_decide_eq_true sqH
 have q209 : x4_1 < (l0.length : Int) := of_decide_eq_true sqH
 obtain ⟨ad209, e209, hx209_0, hx209_1, hx209_2, hx209_3⟩ := at_T34 HR0.out x4_1 p209 q209
 obtain rfl : ad205 = ad209 := (by injection e209)
 replace p209 := eq_true p209
 replace q209 := eq_true q209
 have p210 : 0 ≤ (x3_1 : Int) := of_decide_eq_true sqH
 have q210 : x3_1 < (l0.length : Int) := of_decide_eq_true sqH
 obtain ⟨ad210, e210, hx210_0, hx210_1, hx210_2, hx210_3⟩ := at_T34 HR0.out x3_1 p210 q210
 obtain rfl : ad205 = ad210 := (by injection e210)
 replace p210 := eq_true p210
 replace q210 := eq_true q210
 go_wp2
 repeat (go_quiet (fail); try go_wp2)
 go_roundg k1
 case measure => have := HK1.out; omega
 case rel => exact ⟨(x3_1), (wrap64 (x4_1 + 1)), sqI, sqI, H', ⟨by have := HK1.out; omega⟩, sqD⟩

/-! ### boarderref25_Sorted: function 26 -/
def boarderref25_Sorted.l0 : Nat → List (S34) → List (S34) → Option ((List (S34)))
  | 0, _, _ => none
  | k + 1, x0, x3 => if (x0.length : Int) > 0 then ((boarderref25_first.f k x0).bind fun t211 => (if 0 ≤ t211 then (if t211 < (x0.length : Int) then (if x3.length < 3518437208883 then ((some (([] : List (S34)) : List (S34))).bind fun y216 => (if t211 ≤ (x0.length : Int) then ((some (x0.take (t211 : Int).toNat : List (S34))).bind fun y219 => (if y216.length + y219.length < 3518437208883 then ((some (y216 ++ y219 : List (S34))).bind fun y224 => (if 0 ≤ (wrap64 (t211 + 1)) then (if (wrap64 (t211 + 1)) ≤ (x0.length : Int) then ((some (x0.drop ((wrap64 (t211 + 1)) : Int).toNat : List (S34))).bind fun y227 => (if y224.length + y227.length < 3518437208883 then (boarderref25_Sorted.l0 k (y224 ++ y227) (x3 ++ [(⟨(rd_T34 x0 t211).f0, (rd_T34 x0 t211).f1, (rd_T34 x0 t211).f2, (rd_T34 x0 t211).f3⟩ : S34)])) else (none))) else (none)) else (none))) else (none))) else (none))) else (none)) else (none)) else (none))) else (some x3)
def boarderref25_Sorted.f (k : Nat) (l0 : List (S34)) : Option ((List (S34))) := boarderref25_Sorted.l0 k l0 ([] : List (S34))
theorem boarderref25_Sorted.mono_l : ∀ k, (∀ y0 y1, LeO (boarderref25_Sorted.l0 k y0 y1) (boarderref25_Sorted.l0 (k + 1) y0 y1))
  | 0 => fun _ _ r h => by simp [boarderref25_Sorted.l0] at h
  | k + 1 => by
    have ih0 := boarderref25_Sorted.mono_l k
    · intro y0 y1
      unfold boarderref25_Sorted.l0
      repeat' first
      | (with_reducible exact ih0 _ _)
      | (with_reducible exact boarderref25_first.mono _ _)
      | (with_reducible exact LeO.refl _)
      | (with_reducible exact LeO.none _)
      | (with_reducible refine LeO.ite ?_ ?_)
      | (with_reducible refine LeO.bind ?_ (fun _ => ?_))
      | exact ih0 _ _
      | exact boarderref25_first.mono _ _
      | exact LeO.none _
      | refine LeO.ite ?_ ?_
      | refine LeO.bind ?_ (fun _ => ?_)
theorem boarderref25_Sorted.mono : ∀ a0 k, LeO (boarderref25_Sorted.f k a0) (boarderref25_Sorted.f (k + 1) a0) := by
 intro a0 k
 have ih0 := boarderref25_Sorted.mono_l k
 unfold boarderref25_Sorted.f
 repeat' first
  | (with_reducible exact ih0 _ _)
  | (with_reducible exact boarderref25_first.mono _ _)
  | (with_reducible exact LeO.refl _)
  | (with_reducible exact LeO.none _)
  | (with_reducible refine LeO.ite ?_ ?_)
  | (with_reducible refine LeO.bind ?_ (fun _ => ?_))
  | exact ih0 _ _
  | exact boarderref25_first.mono _ _
  | exact LeO.none _
  | refine LeO.ite ?_ ?_
  | refine LeO.bind ?_ (fun _ => ?_)
def boarderref25_Sorted.T5 : Bool × List (List Nat × List Nat) := (true, [([], []), ([], []), ([], []), ([1, 2], [1, 2]), ([0, 3], [0, 3]), ([], []), ([], []), ([6], [6]), ([5, 7], [5, 7]), ([4, 8, 4], [4, 8]), ([9, 9, 0, 1, 2, 3, 4, 5, 6, 7, 8, 9], [1, 5, 9])])
def boarderref25_Sorted.B5 : List Nat := [0, 0, 0, 6, 15, 0, 0, 64, 224, 511, 1023]
theorem boarderref25_Sorted.tab5 : rtab .any (opsOf Try.f26 5) = boarderref25_Sorted.T5 := by kernel_rfl
theorem boarderref25_Sorted.bits5 : waitsOk boarderref25_Sorted.T5.2 boarderref25_Sorted.B5 = true := by kernel_rfl
set_option maxHeartbeats 8000000 in
set_option maxRecDepth 100000 in
theorem boarderref25_Sorted.calls (k : Nat) (P0_ : Nat → Prop) (A0 : Option Addr) (c0 : Nat) (l0 : List (S34)) (r : List (S34)) (w : World) (hs0 : Kd.V k34 34 w w.heap.size (fun k_ => P0_ k_) (.slice A0 l0.length c0) l0) (h : boarderref25_Sorted.f k l0 = some r) :
    Calls Try.prog 26 #[.slice A0 l0.length c0] w fun e w' => ∃ v0_ : Value, e = .returned (v0_) ∧ Kd.R k34 34 w' w.heap.size (fun k_ => (w.heap.size ≤ k_)) v0_ r ∧ Below w.heap.size w w' := by
 have hu34 := Try.underlying34
 have HO0 := sqM (show Kd.V k34 34 w w.heap.size (fun k_ => (P0_ k_ ∨ w.heap.size ≤ k_)) (.slice A0 l0.length c0) l0 from Kd.V_mono hs0 (fun k_ hk => .inl hk))
 have HB := Aside0.mk (Below.refl w.heap.size w)
 have H : (boarderref25_Sorted.l0 k l0 ([] : List (S34))) = some r := h
 clear h
 have H' := Aside0.mk H
 clear H
 go_enter Try.func26, Try.ntmps26
 go_wp2
 go_loopg [0, 3] k (fun kq v0 v3 w' => ∃ (x0_1 : List (S34)) (x3_1 : List (S34)), Aside0 (boarderref25_Sorted.l0 kq x0_1 x3_1 = some r) ∧ Aside0 (kq ≤ k) ∧ Aside0 (Kd.V k34 34 w' w.heap.size (fun k_ => (P0_ k_ ∨ w.heap.size ≤ k_) ∧ some k_ ≠ (v3 : Value).ownBlock) v0 x0_1) ∧ Aside0 (Kd.R k34 34 w' w.heap.size (fun k_ => (w.heap.size ≤ k_)) v3 x3_1) ∧ Aside0 (Below w.heap.size w w'))
 case atStart => exact ⟨(l0), (([] : List (S34))), H', ⟨Nat.le_refl _⟩, ⟨by refine sqV ?_; exact Kd.V_mono HO0.out (fun _ hk => ⟨hk, (by simp [Value.ownBlock])⟩)⟩, ⟨by first | exact Kd.R_nil _ _ _ _ _ | exact Kd.N_nil _ _ _ _ _ | exact Kd.V_nil _ _ _ _ _ | exact Kd.Q_nil _ _ _ _ _ | exact Kd.S_nil _ _ _ _ _⟩, ⟨sqB HB.out⟩⟩
 clear H'
 obtain ⟨x0_1, x3_1, HA, HK1, HO_0, HO_3, HB⟩ := hrel
 cases gk with
 | zero => exact absurd HA.out (by simp [boarderref25_Sorted.l0])
 | succ k1 => ?_
 have H := HA.out
 clear HA
 simp only [boarderref25_Sorted.l0] at H
 by_cases c2 : (x0_1.length : Int) > 0
 rotate_left
 · rw [if_neg c2] at H
   have c2b0 : decide (0 < (x0_1.length : Int)) = false := decide_eq_false c2
   have c2b1 : decide (0 < x0_1.length) = false := decide_eq_false (by omega)
   clear c2
   obtain rfl := Option.some.inj H
   obtain ⟨Ao23, co23, eo23⟩ := Kd.V_slice HO_0.out
   subst eo23
   go_wp2
   go_ret
   exact ⟨_, sqE, by refine sqR ?_; exact HO_3.out, sqB HB.out⟩
 rw [if_pos c2] at H
 have c2b0 : decide (0 < (x0_1.length : Int)) = true := decide_eq_true c2
 have c2b1 : decide (0 < x0_1.length) = true := decide_eq_true (by omega)
 clear c2
 replace H := Option.bind_eq_some_iff.mp H
 obtain ⟨t211, A30, H⟩ := H
 replace H : (if 0 ≤ t211 then (if t211 < (x0_1.length : Int) then (if x3_1.length < 3518437208883 then ((some (([] : List (S34)) : List (S34))).bind fun y216 => (if t211 ≤ (x0_1.length : Int) then ((some (x0_1.take (t211 : Int).toNat : List (S34))).bind fun y219 => (if y216.length + y219.length < 3518437208883 then ((some (y216 ++ y219 : List (S34))).bind fun y224 => (if 0 ≤ (wrap64 (t211 + 1)) then (if (wrap64 (t211 + 1)) ≤ (x0_1.length : Int) then ((some (x0_1.drop ((wrap64 (t211 + 1)) : Int).toNat : List (S34))).bind fun y227 => (if y224.length + y227.length < 3518437208883 then (boarderref25_Sorted.l0 k1 (y224 ++ y227) (x3_1 ++ [(⟨(rd_T34 x0_1 t211).f0, (rd_T34 x0_1 t211).f1, (rd_T34 x0_1 t211).f2, (rd_T34 x0_1 t211).f3⟩ : S34)])) else (none))) else (none)) else (none))) else (none))) else (none))) else (none)) else (none)) else (none)) = some r := H
 have A3 := Aside0.mk A30
 clear A30
 by_cases c4 : 0 ≤ t211
 rotate_left
 · rw [if_neg c4] at H
   exact absurd H (by simp)
 rw [if_pos c4] at H
 have c4b0 : decide (0 ≤ t211) = true := decide_eq_true c4
 clear c4
 by_cases c5 : t211 < (x0_1.length : Int)
 rotate_left
 · rw [if_neg c5] at H
   exact absurd H (by simp)
 rw [if_pos c5] at H
 have c5b0 : decide (t211 < (x0_1.length : Int)) = true := decide_eq_true c5
 clear c5
 by_cases c6 : x3_1.length < 3518437208883
 rotate_left
 · rw [if_neg c6] at H
   exact absurd H (by simp)
 rw [if_pos c6] at H
 have LMc6 := Aside0.mk c6
 clear c6
 obtain ⟨y213, hy213⟩ : ∃ y_ : List (S34), y_ = (x3_1 ++ [(⟨(rd_T34 x0_1 t211).f0, (rd_T34 x0_1 t211).f1, (rd_T34 x0_1 t211).f2, (rd_T34 x0_1 t211).f3⟩ : S34)]) := ⟨_, rfl⟩
 replace H : ((some (([] : List (S34)) : List (S34))).bind fun y216 => (if t211 ≤ (x0_1.length : Int) then ((some (x0_1.take (t211 : Int).toNat : List (S34))).bind fun y219 => (if y216.length + y219.length < 3518437208883 then ((some (y216 ++ y219 : List (S34))).bind fun y224 => (if 0 ≤ (wrap64 (t211 + 1)) then (if (wrap64 (t211 + 1)) ≤ (x0_1.length : Int) then ((some (x0_1.drop ((wrap64 (t211 + 1)) : Int).toNat : List (S34))).bind fun y227 => (if y224.length + y227.length < 3518437208883 then (boarderref25_Sorted.l0 k1 (y224 ++ y227) y213) else (none))) else (none)) else (none))) else (none))) else (none))) = some r := by first | (rw [hy213]; with_reducible exact H) | (have H2_ := (Option.bind_some _ _).symm.trans H; rw [hy213]; with_reducible exact H2_) | (have H2_ := (Option.bind_some _ _).symm.trans H; with_reducible exact H2_) | with_reducible exact H | (rw [hy213]; exact H) | exact H
 have Ny213 := Aside0.mk hy213
 clear hy213
 obtain ⟨y216, hy216⟩ : ∃ y_ : List (S34), y_ = (([] : List (S34))) := ⟨_, rfl⟩
 replace H : (if t211 ≤ (x0_1.length : Int) then ((some (x0_1.take (t211 : Int).toNat : List (S34))).bind fun y219 => (if y216.length + y219.length < 3518437208883 then ((some (y216 ++ y219 : List (S34))).bind fun y224 => (if 0 ≤ (wrap64 (t211 + 1)) then (if (wrap64 (t211 + 1)) ≤ (x0_1.length : Int) then ((some (x0_1.drop ((wrap64 (t211 + 1)) : Int).toNat : List (S34))).bind fun y227 => (if y224.length + y227.length < 3518437208883 then (boarderref25_Sorted.l0 k1 (y224 ++ y227) y213) else (none))) else (none)) else (none))) else (none))) else (none)) = some r := by first | (rw [hy216]; with_reducible exact H) | (have H2_ := (Option.bind_some _ _).symm.trans H; rw [hy216]; with_reducible exact H2_) | (have H2_ := (Option.bind_some _ _).symm.trans H; with_reducible exact H2_) | with_reducible exact H | (rw [hy216]; exact H) | exact H
 have Ny216 := Aside0.mk hy216
 clear hy216
 have c7b0 := eq_true (of_decide_eq_true sqH : 0 ≤ t211)
 by_cases c8 : t211 ≤ (x0_1.length : Int)
 rotate_left
 · rw [if_neg c8] at H
   exact absurd H (by simp)
 rw [if_pos c8] at H
 have c8b0 := eq_true c8
 have c8b1 : decide (t211 ≤ (x0_1.length : Int)) = true := decide_eq_true c8
 clear c8
 obtain ⟨y219, hy219⟩ : ∃ y_ : List (S34), y_ = (x0_1.take (t211 : Int).toNat) := ⟨_, rfl⟩
 replace H : (if y216.length + y219.length < 3518437208883 then ((some (y216 ++ y219 : List (S34))).bind fun y224 => (if 0 ≤ (wrap64 (t211 + 1)) then (if (wrap64 (t211 + 1)) ≤ (x0_1.length : Int) then ((some (x0_1.drop ((wrap64 (t211 + 1)) : Int).toNat : List (S34))).bind fun y227 => (if y224.length + y227.length < 3518437208883 then (boarderref25_Sorted.l0 k1 (y224 ++ y227) y213) else (none))) else (none)) else (none))) else (none)) = some r := by first | (rw [hy219]; with_reducible exact H) | (have H2_ := (Option.bind_some _ _).symm.trans H; rw [hy219]; with_reducible exact H2_) | (have H2_ := (Option.bind_some _ _).symm.trans H; with_reducible exact H2_) | with_reducible exact H | (rw [hy219]; exact H) | exact H
 have Ny219 := Aside0.mk hy219
 clear hy219
 by_cases c9 : y216.length + y219.length < 3518437208883
 rotate_left
 · rw [if_neg c9] at H
   exact absurd H (by simp)
 rw [if_pos c9] at H
 have LMc9 := Aside0.mk c9
 clear c9
 obtain ⟨y224, hy224⟩ : ∃ y_ : List (S34), y_ = (y216 ++ y219) := ⟨_, rfl⟩
 replace H : (if 0 ≤ (wrap64 (t211 + 1)) then (if (wrap64 (t211 + 1)) ≤ (x0_1.length : Int) then ((some (x0_1.drop ((wrap64 (t211 + 1)) : Int).toNat : List (S34))).bind fun y227 => (if y224.length + y227.length < 3518437208883 then (boarderref25_Sorted.l0 k1 (y224 ++ y227) y213) else (none))) else (none)) else (none)) = some r := by first | (rw [hy224]; with_reducible exact H) | (have H2_ := (Option.bind_some _ _).symm.trans H; rw [hy224]; with_reducible exact H2_) | (have H2_ := (Option.bind_some _ _).symm.trans H; with_reducible exact H2_) | with_reducible exact H | (rw [hy224]; exact H) | exact H
 have Ny224 := Aside0.mk hy224
 clear hy224
 obtain ⟨ji10, hji10⟩ : ∃ j_ : Int, (wrap64 (t211 + 1)) = j_ := ⟨_, rfl⟩
 replace H : (if 0 ≤ (ji10) then (if (ji10) ≤ (x0_1.length : Int) then ((some (x0_1.drop ((ji10) : Int).toNat : List (S34))).bind fun y227 => (if y224.length + y227.length < 3518437208883 then (boarderref25_Sorted.l0 k1 (y224 ++ y227) y213) else (none))) else (none)) else (none)) = some r := by first | (rw [hji10] at H; exact H) | (simp only [hji10] at H ⊢; exact H)
 (try rw [hji10] at A3)
 have hji10w : (IntKind.i64.wrap (t211 + 1)) = ji10 := (i64_w _).trans hji10
 by_cases c11 : 0 ≤ (ji10)
 rotate_left
 · rw [if_neg c11] at H
   exact absurd H (by simp)
 rw [if_pos c11] at H
 have c11b0 := eq_true c11
 have c11b1 : decide (0 ≤ (ji10)) = true := decide_eq_true c11
 clear c11
 by_cases c12 : (ji10) ≤ (x0_1.length : Int)
 rotate_left
 · rw [if_neg c12] at H
   exact absurd H (by simp)
 rw [if_pos c12] at H
 have c12b0 := eq_true c12
 have c12b1 : decide ((ji10) ≤ (x0_1.length : Int)) = true := decide_eq_true c12
 clear c12
 obtain ⟨y227, hy227⟩ : ∃ y_ : List (S34), y_ = (x0_1.drop ((ji10) : Int).toNat) := ⟨_, rfl⟩
 replace H : (if y224.length + y227.length < 3518437208883 then (boarderref25_Sorted.l0 k1 (y224 ++ y227) y213) else (none)) = some r := by first | (rw [hy227]; with_reducible exact H) | (have H2_ := (Option.bind_some _ _).symm.trans H; rw [hy227]; with_reducible exact H2_) | (have H2_ := (Option.bind_some _ _).symm.trans H; with_reducible exact H2_) | with_reducible exact H | (rw [hy227]; exact H) | exact H
 have Ny227 := Aside0.mk hy227
 clear hy227
 by_cases c13 : y224.length + y227.length < 3518437208883
 rotate_left
 · rw [if_neg c13] at H
   exact absurd H (by simp)
 rw [if_pos c13] at H
 have LMc13 := Aside0.mk c13
 clear c13
 obtain ⟨y232, hy232⟩ : ∃ y_ : List (S34), y_ = (y224 ++ y227) := ⟨_, rfl⟩
 replace H : (boarderref25_Sorted.l0 k1 y232 y213) = some r := by first | (rw [hy232]; with_reducible exact H) | (have H2_ := (Option.bind_some _ _).symm.trans H; rw [hy232]; with_reducible exact H2_) | (have H2_ := (Option.bind_some _ _).symm.trans H; with_reducible exact H2_) | with_reducible exact H | (rw [hy232]; exact H) | exact H
 have Ny232 := Aside0.mk hy232
 clear hy232
 have H' := Aside0.mk H
 clear H
 obtain ⟨Ao14, co14, eo14⟩ := Kd.V_slice HO_0.out
 subst eo14
 try go_wp2_with (first | ((with_reducible refine gate_callee (f := 37) rfl ?_); refine goesL_ (some 9) rfl rfl Try.func37 (by kernel_rfl) rfl #[.slice Ao14 x0_1.length co14] rfl sqA ?_; (with_reducible refine (boarderref25_first.calls _ _ _ _ _ _ ?side1 ?side2 A3.out).mono ?_); (case side1 => repeat (first | exact (Kd.V_reads' HO_0.out).2.2 | (with_reducible refine Kd.C_alloc ?_ _) | (with_reducible refine Kd.C_drewN ?_ _) | (with_reducible refine Kd.C_drew ?_))); (case side2 => exact (Kd.V_reads' HO_0.out).2.1); rintro e w' ⟨rfl, ⟨nd, rfl⟩⟩; refine ⟨_, rfl, ?_⟩; have p212 : 0 ≤ (t211 : Int) := of_decide_eq_true sqH; have q212 : t211 < (x0_1.length : Int) := of_decide_eq_true sqH; obtain ⟨ad212, e212, hx212_0, hx212_1, hx212_2, hx212_3⟩ := at_T34 (Kd.V_reads' HO_0.out).2.2 t211 p212 q212; cases e212; replace p212 := eq_true p212; replace q212 := eq_true q212) | ((with_reducible refine gate_builtin (b := .append) (xs := #[.tmp 10, .tmp 15]) rfl ?_); at_builtin; refine Kd.R_append k34 (w0 := w) w.heap.size rfl (.tmp 10) (.tmp 15) 22 34 (.agg #[(.int .i64 0), (.int .i64 0), (.int .i64 0), (.string ⟨#[]⟩)]) 40 rfl Try.underlying22 info34 rfl (by decide) (by omega) u3 x3_1 (⟨(rd_T34 x0_1 t211).f0, (rd_T34 x0_1 t211).f1, (rd_T34 x0_1 t211).f2, (rd_T34 x0_1 t211).f3⟩ : S34) [.int .i64 ((rd_T34 x0_1 t211).f0), .int .i64 ((rd_T34 x0_1 t211).f1), .int .i64 ((rd_T34 x0_1 t211).f2), .string ((rd_T34 x0_1 t211).f3)] (fun k_ => (w.heap.size ≤ k_)) (fun _ => False) rfl rfl ?aP (fun _ hk => hk.elim) ?aF ?aO ?aB ?aS ?aL ?_; (case aP => exact k34_mkM _ _ _ (⟨(rd_T34 x0_1 t211).f0, (rd_T34 x0_1 t211).f1, (rd_T34 x0_1 t211).f2, (rd_T34 x0_1 t211).f3⟩ : S34)); (case aB => exact (sqB HB.out)); (case aF => exact (fun k_ hk => (Nat.le_trans (below_size (sqB HB.out)) hk))); (case aO => exact (sqR HO_3.out)); (case aS => exact (below_size (sqB HB.out))); (case aL => have := LMc6.out; omega); intro v214 w15 ho hb hg hat; rw [← Ny213.out] at ho; have HO215 := sqM (ho); replace HO_0 := sqM (Kd.V_afterv (ok := (fun k_ => (P0_ k_ ∨ w.heap.size ≤ k_))) (sqV HO_0.out) hg hat); replace HB := sqM (hb); clear HO_3; clear ho hb hg hat))
 replace HO_0 := sqM (Kd.V_drew HO_0.out)
 replace HO215 := sqM (Kd.R_drew HO215.out)
 replace HB := sqM (below_drew1 HB.out)
 have q17 : (t211 : Int) ≤ ((x0_1.length : Int) : Int) := of_decide_eq_true sqH
 obtain ⟨i017, hi017, _, hsz17, _⟩ := info_parts info34
 have hroom17 : x0_1.length ≤ co14 := (Kd.V_reads' HO_0.out).2.1
 have hC17 : Kd.F k34 _ _ (some ad212) x0_1.length x0_1 := (Kd.V_at (base := w.heap.size) HO_0.out).2.2
 have hcut17 := cut_to (P := Try.prog) 22 34 .i64 Try.underlying22 hi017 (some ad212) x0_1.length co14 t211 (of_decide_eq_true sqH) q17 hroom17
 have hr17 := Kd.F_take (m := (t211 : Int).toNat) hC17 (by omega)
 have hy17 : y219.length = (t211 : Int).toNat := (by rw [Ny219.out, List.length_take]; omega)
 rw [← Ny219.out] at hr17
 rw [← hy17] at hcut17
 have HO223 := sqM (show Kd.V k34 34 _ w.heap.size _ (.slice (some ad212) y219.length co14) y219 from Kd.V_mk (by omega) hr17)
 have HC223 := sqM (show y219.length ≤ co14 from by omega)
 clear hr17 hC17 hroom17 hi017 hsz17
 have KY17 := Aside0.mk hy17
 clear hy17
 replace q17 := eq_true q17
 have q18 : ((ji10) : Int) ≤ ((x0_1.length : Int) : Int) := of_decide_eq_true sqH
 obtain ⟨i018, hi018, _, hsz18, _⟩ := info_parts info34
 have hroom18 : x0_1.length ≤ co14 := (Kd.V_reads' HO_0.out).2.1
 have hC18 : Kd.F k34 _ _ (some ad212) x0_1.length x0_1 := (Kd.V_at (base := w.heap.size) HO_0.out).2.2
 have q018 : (0 : Int) ≤ ((ji10) : Int) := of_decide_eq_true sqH
 have hcut18 := cut_from (P := Try.prog) 22 34 .i64 Try.underlying22 hi018 4 hsz18 (some ad212) x0_1.length co14 (ji10) q018 q18
 have hr18 := Kd.F_cut (m := ((ji10) : Int).toNat) (c := co14) hC18 (by omega) hroom18
 obtain ⟨A18, hA18⟩ : ∃ A1, A1 = (if co14 = ((ji10) : Int).toNat then (some ad212) else ((some ad212) : Option Addr).map (·.add (((ji10) : Int).toNat * 4))) := ⟨_, rfl⟩
 obtain ⟨c18, hc18⟩ : ∃ c1, c1 = co14 - ((ji10) : Int).toNat := ⟨_, rfl⟩
 have hy18 : y227.length = x0_1.length - ((ji10) : Int).toNat := (by rw [Ny227.out, List.length_drop] <;> omega)
 rw [show (x0_1).drop ((ji10) : Int).toNat = y227 from Ny227.out.symm] at hr18
 replace hr18 : Kd.F k34 _ _ A18 y227.length y227 := (by rw [hA18]; exact hr18)
 rw [← hy18, ← hA18, ← hc18] at hcut18
 have HO231 := sqM (show Kd.V k34 34 _ w.heap.size _ (.slice A18 y227.length c18) y227 from Kd.V_mk (by rw [hy18, hc18]; exact Nat.sub_le_sub_right hroom18 _) hr18)
 have HC231 := sqM (show y227.length ≤ c18 from by rw [hy18, hc18]; exact Nat.sub_le_sub_right hroom18 _)
 clear hr18 hC18 hroom18 hi018 hsz18 hc18
 have KY18 := Aside0.mk hy18
 have KA18 := Aside0.mk hA18
 clear hy18 hA18
 replace q18 := eq_true q18
 refine start_ (n := 11) (S := fun w' => True) (ds := []) #[false, false, false, false, false, false, false, false, false, false, false] (by kernel_rfl) rfl rfl trivial (fun hHeld => ?_); refine with_tabW boarderref25_Sorted.tab5 boarderref25_Sorted.bits5 (fun HT_ HW_ => ?_)
 generalize w15.drew = w16 at HO_0 HO215 HB HO223 HO231 hHeld ⊢
 refine pure_ (i := 1) (N := some 18) (v := ?_) (a' := ?_) #[false, true, false, false, false, false, false, false, false, false, false] rfl rfl (any_of HT_.out (by kernel_rfl)) (fun _ _ _ h => h) (Or.inl ⟨by rfl, ?_⟩) ?_ ?_
 rotate_left
 · intro w'
   go_simp
   with_reducible rfl
 rotate_left
 · simp only [Act.put, List.setIfInBounds_toArray, List.set_cons_zero, List.set_cons_succ, i64_w, i32_w]
   rfl
 refine pure_ (i := 2) (N := some 19) (v := ?_) (a' := ?_) #[false, true, true, false, false, false, false, false, false, false, false] rfl rfl (any_of HT_.out (by kernel_rfl)) (fun _ _ _ h => h) (Or.inl ⟨by rfl, ?_⟩) ?_ ?_
 rotate_left
 · intro w'
   go_simp
   with_reducible rfl
 rotate_left
 · simp only [Act.put, List.setIfInBounds_toArray, List.set_cons_zero, List.set_cons_succ, i64_w, i32_w]
   rfl
 refine pure_ (i := 3) (N := some 20) (v := ?_) (a' := ?_) #[false, true, true, true, false, false, false, false, false, false, false] rfl rfl (any_of HT_.out (by kernel_rfl)) (fun _ _ _ h => h) (Or.inl ⟨by rfl, ?_⟩) ?_ ?_
 rotate_left
 · intro w'
   go_simp
   with_reducible rfl
 rotate_left
 · simp only [Act.put, List.setIfInBounds_toArray, List.set_cons_zero, List.set_cons_succ, i64_w, i32_w]
   rfl
 refine pure_ (i := 5) (N := some 22) (v := ?_) (a' := ?_) #[false, true, true, true, false, true, false, false, false, false, false] rfl rfl (any_of HT_.out (by kernel_rfl)) (fun _ _ _ h => h) (Or.inl ⟨by rfl, ?_⟩) ?_ ?_
 rotate_left
 · intro w'
   go_simp
   with_reducible rfl
 rotate_left
 · simp only [Act.put, List.setIfInBounds_toArray, List.set_cons_zero, List.set_cons_succ, i64_w, i32_w]
   rfl
 refine pure_ (i := 6) (N := some 23) (v := ?_) (a' := ?_) #[false, true, true, true, false, true, true, false, false, false, false] rfl rfl (any_of HT_.out (by kernel_rfl)) (fun _ _ _ h => h) (Or.inl ⟨by rfl, ?_⟩) ?_ ?_
 rotate_left
 · intro w'
   go_simp
   with_reducible rfl
 rotate_left
 · simp only [Act.put, List.setIfInBounds_toArray, List.set_cons_zero, List.set_cons_succ, i64_w, i32_w]
   rfl
 refine pure_ (i := 7) (N := some 24) (v := ?_) (a' := ?_) #[false, true, true, true, false, true, true, true, false, false, false] rfl rfl (any_of HT_.out (by kernel_rfl)) (fun _ _ _ h => h) (Or.inl ⟨by rfl, ?_⟩) ?_ ?_
 rotate_left
 · intro w'
   go_simp
   with_reducible rfl
 rotate_left
 · simp only [Act.put, List.setIfInBounds_toArray, List.set_cons_zero, List.set_cons_succ, i64_w, i32_w]
   rfl
 refine pure_ (i := 8) (N := some 25) (v := ?_) (a' := ?_) #[false, true, true, true, false, true, true, true, true, false, false] rfl rfl (any_of HT_.out (by kernel_rfl)) (fun _ _ _ h => h) (Or.inl ⟨by rfl, ?_⟩) ?_ ?_
 rotate_left
 · intro w'
   go_simp
   with_reducible rfl
 rotate_left
 · simp only [Act.put, List.setIfInBounds_toArray, List.set_cons_zero, List.set_cons_succ, i64_w, i32_w]
   rfl
 refine one_ (i := 0) (N := some 17) #[true, true, true, true, false, true, true, true, true, false, false] rfl rfl (one_of HT_.out (by kernel_rfl)) (by decide) (fun K hK => ?_)
 refine Kd.R_lit_step k34 _ 34 ?hg (N := 17) ?hd (xs := ([] : List (S34))) (inner := []) (ok := fun _ => True) (okp := fun _ => True) ?hr ?hp (fun _ hk => hk) trivial (Below.refl _ _) (Nat.le_refl _) (by simp) ?_; (case hd => rfl); (case hg => rfl); (case hr => first | (go_simp; done) | (go_simp; rfl)); (case hp => exact (Reps.none _ _))
 intro v217 w19 ho20 hb hg_ hnew_
 clear hg_ hnew_
 (first | rw [← Ny216.out] at ho20 | (simp only [Int.reduceToNat] at ho20; rw [← Ny216.out] at ho20))
 have HO218 := sqM (Kd.R_lower (Kd.R_new' (Kd.R_newM (M := fun k_ => (w.heap.size ≤ k_)) ho20 (below_size (sqB HB.out)) (fun k_ h_ => h_)) (Kd.R_lt (sqR HO215.out))) (below_size (sqB HB.out)))
 replace HO_0 := sqM (Kd.V_elder' (sqV HO_0.out) (Kd.R_base ho20) hb)
 replace HO215 := sqM (Kd.R_elder' (sqR HO215.out) (Kd.R_base ho20) hb)
 replace HO223 := sqM (Kd.V_elder' (sqV HO223.out) (Kd.R_base ho20) hb)
 replace HO231 := sqM (Kd.V_elder' (sqV HO231.out) (Kd.R_base ho20) hb)
 replace HB := sqM (below_step (sqB HB.out) hb)
 clear hb ho20
 refine hK.out _ _ trivial (fun hHeld => ?_)
 clear hK K
 refine norm_ (a' := ?_) ?_ ?_
 rotate_left
 · show Act.put _ (some 17) _ = _
   simp only [Act.put, List.setIfInBounds_toArray, List.set_cons_zero, List.set_cons_succ, i64_w, i32_w]
   rfl
 refine one_ (i := 4) (N := some 21) #[true, true, true, true, true, true, true, true, true, false, false] rfl rfl (one_of HT_.out (by kernel_rfl)) (by decide) (fun K hK => ?_)
 refine Kd.R_append_rows_step k34 (w0 := w) w.heap.size (by rfl) (.tmp 17) (.tmp 20) 22 34 (.agg #[(.int .i64 0), (.int .i64 0), (.int .i64 0), (.string ⟨#[]⟩)]) 40 rfl Try.underlying22 info34 rfl (by decide) (by omega) v217 y216 y219 _ _ _ (fun k_ => (w.heap.size ≤ k_) ∧ some k_ ≠ (v214 : Value).ownBlock) (fun _ => False) rfl rfl ?aO ?aR (fun _ _ h => h) (fun _ h => h.elim) ?aF ?aB ?aS ?aL ?_
 (case aR => repeat (first | exact (Kd.V_reads' HO223.out).2.2 | (with_reducible refine Kd.C_alloc ?_ _) | (with_reducible refine Kd.C_drewN ?_ _) | (with_reducible refine Kd.C_drew ?_)))
 (case aB => exact (sqB HB.out))
 (case aF => exact (fun k_ hk => ⟨(Nat.le_trans (below_size (sqB HB.out)) hk), Kd.fresh' (Kd.R_lt (sqR HO215.out)) k_ hk⟩))
 (case aO => exact (by refine sqR ?_; exact Kd.R_mono HO218.out (fun _ hk => ⟨hk.1.1, hk.2⟩)))
 (case aS => exact (below_size (sqB HB.out)))
 (case aL => have := LMc9.out; omega)
 intro v225 w21 ho hb hg hat
 rw [← Ny224.out] at ho
 have HO226 := Aside0.mk (ho)
 replace HO_0 := sqM (Kd.V_afterv (ok := (fun k_ => (P0_ k_ ∨ w.heap.size ≤ k_) ∧ some k_ ≠ (v214 : Value).ownBlock)) (sqV HO_0.out) hg hat)
 replace HO215 := sqM (Kd.R_after (ok := (fun k_ => (w.heap.size ≤ k_))) (sqR HO215.out) hg hat)
 replace HO223 := sqM (Kd.V_afterv (ok := (fun k_ => (P0_ k_ ∨ w.heap.size ≤ k_) ∧ some k_ ≠ (v214 : Value).ownBlock)) (sqV HO223.out) hg hat)
 replace HO231 := sqM (Kd.V_afterv (ok := (fun k_ => (P0_ k_ ∨ w.heap.size ≤ k_) ∧ some k_ ≠ (v214 : Value).ownBlock)) (sqV HO231.out) hg hat)
 replace HB := Aside0.mk (hb)
 clear HO218
 clear ho hb hg hat
 refine hK.out _ _ trivial (fun hHeld => ?_)
 clear hK K
 refine norm_ (a' := ?_) ?_ ?_
 rotate_left
 · show Act.put _ (some 21) _ = _
   simp only [Act.put, List.setIfInBounds_toArray, List.set_cons_zero, List.set_cons_succ, i64_w, i32_w]
   rfl
 refine one_ (i := 9) (N := some 26) #[true, true, true, true, true, true, true, true, true, true, false] rfl rfl (one_of HT_.out (by kernel_rfl)) (by decide) (fun K hK => ?_)
 refine Kd.R_append_rows_step k34 (w0 := w) w.heap.size (by rfl) (.tmp 21) (.tmp 25) 22 34 (.agg #[(.int .i64 0), (.int .i64 0), (.int .i64 0), (.string ⟨#[]⟩)]) 40 rfl Try.underlying22 info34 rfl (by decide) (by omega) v225 y224 y227 _ _ _ (fun k_ => (w.heap.size ≤ k_) ∧ some k_ ≠ (v214 : Value).ownBlock) (fun _ => False) rfl rfl ?aO ?aR (fun _ _ h => h) (fun _ h => h.elim) ?aF ?aB ?aS ?aL ?_
 (case aR => repeat (first | exact (Kd.V_reads' HO231.out).2.2 | (with_reducible refine Kd.C_alloc ?_ _) | (with_reducible refine Kd.C_drewN ?_ _) | (with_reducible refine Kd.C_drew ?_)))
 (case aB => exact (sqB HB.out))
 (case aF => exact (fun k_ hk => ⟨(Nat.le_trans (below_size (sqB HB.out)) hk), Kd.fresh' (Kd.R_lt (sqR HO215.out)) k_ hk⟩))
 (case aO => exact (sqR HO226.out))
 (case aS => exact (below_size (sqB HB.out)))
 (case aL => have := LMc13.out; omega)
 intro v233 w22 ho hb hg hat
 rw [← Ny232.out] at ho
 have HO234 := Aside0.mk (ho)
 replace HO_0 := sqM (Kd.V_afterv (ok := (fun k_ => (P0_ k_ ∨ w.heap.size ≤ k_) ∧ some k_ ≠ (v214 : Value).ownBlock)) (sqV HO_0.out) hg hat)
 replace HO215 := sqM (Kd.R_after (ok := (fun k_ => (w.heap.size ≤ k_))) (sqR HO215.out) hg hat)
 replace HO223 := sqM (Kd.V_afterv (ok := (fun k_ => (P0_ k_ ∨ w.heap.size ≤ k_) ∧ some k_ ≠ (v214 : Value).ownBlock)) (sqV HO223.out) hg hat)
 replace HO231 := sqM (Kd.V_afterv (ok := (fun k_ => (P0_ k_ ∨ w.heap.size ≤ k_) ∧ some k_ ≠ (v214 : Value).ownBlock)) (sqV HO231.out) hg hat)
 replace HB := Aside0.mk (hb)
 clear HO226
 clear ho hb hg hat
 refine hK.out _ _ trivial (fun hHeld => ?_)
 clear hK K
 refine norm_ (a' := ?_) ?_ ?_
 rotate_left
 · show Act.put _ (some 26) _ = _
   simp only [Act.put, List.setIfInBounds_toArray, List.set_cons_zero, List.set_cons_succ, i64_w, i32_w]
   rfl
 refine pure_ (i := 10) (N := some 0) (v := ?_) (a' := ?_) #[true, true, true, true, true, true, true, true, true, true, true] rfl rfl (any_of HT_.out (by kernel_rfl)) (fun _ _ _ h => h) (Or.inl ⟨by rfl, ?_⟩) ?_ ?_
 rotate_left
 · intro w'
   go_simp
   with_reducible rfl
 rotate_left
 · simp only [Act.put, List.setIfInBounds_toArray, List.set_cons_zero, List.set_cons_succ, i64_w, i32_w]
   rfl
 refine done_ (done_of HT_.out (by kernel_rfl)) ?_
 try go_wp2
 go_roundg k1
 case measure => have := HK1.out; omega
 case rel => exact ⟨(y232), (y213), H', ⟨by have := HK1.out; omega⟩, ⟨Kd.V_mono (Kd.R_V (sqR HO234.out)) (fun k_ hk => by first | exact ⟨(.inr (hk.1)), hk.2⟩ | exact (.inr (hk)))⟩, ⟨by refine sqR ?_; exact Kd.R_mono HO215.out (fun _ hk => hk.1)⟩, ⟨sqB HB.out⟩⟩

/-! ### boarderref25_ByEnd: function 12 -/
def boarderref25_ByEnd.l0 : Nat → List (S34) → List (S34) → Int → Option ((List (S34)))
  | 0, _, _, _ => none
  | k + 1, x0, x3, x4 => if x4 < (x0.length : Int) then (if 0 ≤ x4 then (if ((rd_T34 x0 x4).f1) = 1 then (if x3.length < 3518437208883 then (boarderref25_ByEnd.l0 k x0 (x3 ++ [(⟨(rd_T34 x0 x4).f0, (rd_T34 x0 x4).f1, (rd_T34 x0 x4).f2, (rd_T34 x0 x4).f3⟩ : S34)]) (wrap64 (x4 + 1))) else (none)) else (if ((rd_T34 x0 x4).f1) = 3 then (if x3.length < 3518437208883 then (boarderref25_ByEnd.l0 k x0 (x3 ++ [(⟨(rd_T34 x0 x4).f0, (rd_T34 x0 x4).f1, (rd_T34 x0 x4).f2, (rd_T34 x0 x4).f3⟩ : S34)]) (wrap64 (x4 + 1))) else (none)) else (boarderref25_ByEnd.l0 k x0 x3 (wrap64 (x4 + 1))))) else (none)) else ((boarderref25_Sorted.f k x3).bind fun t247 => (some t247))
def boarderref25_ByEnd.f (k : Nat) (l0 : List (S34)) : Option ((List (S34))) := (boarderref12_Good.f k l0).bind fun t236 => (boarderref25_ByEnd.l0 k t236 ([] : List (S34)) 0)
theorem boarderref25_ByEnd.mono_l : ∀ k, (∀ y0 y1 y2, LeO (boarderref25_ByEnd.l0 k y0 y1 y2) (boarderref25_ByEnd.l0 (k + 1) y0 y1 y2))
  | 0 => fun _ _ _ r h => by simp [boarderref25_ByEnd.l0] at h
  | k + 1 => by
    have ih0 := boarderref25_ByEnd.mono_l k
    · intro y0 y1 y2
      unfold boarderref25_ByEnd.l0
      repeat' first
      | (with_reducible exact ih0 _ _ _)
      | (with_reducible exact boarderref12_Good.mono _ _)
      | (with_reducible exact boarderref25_Sorted.mono _ _)
      | (with_reducible exact LeO.refl _)
      | (with_reducible exact LeO.none _)
      | (with_reducible refine LeO.ite ?_ ?_)
      | (with_reducible refine LeO.bind ?_ (fun _ => ?_))
      | exact ih0 _ _ _
      | exact boarderref12_Good.mono _ _
      | exact boarderref25_Sorted.mono _ _
      | exact LeO.none _
      | refine LeO.ite ?_ ?_
      | refine LeO.bind ?_ (fun _ => ?_)
theorem boarderref25_ByEnd.mono : ∀ a0 k, LeO (boarderref25_ByEnd.f k a0) (boarderref25_ByEnd.f (k + 1) a0) := by
 intro a0 k
 have ih0 := boarderref25_ByEnd.mono_l k
 unfold boarderref25_ByEnd.f
 repeat' first
  | (with_reducible exact ih0 _ _ _)
  | (with_reducible exact boarderref12_Good.mono _ _)
  | (with_reducible exact boarderref25_Sorted.mono _ _)
  | (with_reducible exact LeO.refl _)
  | (with_reducible exact LeO.none _)
  | (with_reducible refine LeO.ite ?_ ?_)
  | (with_reducible refine LeO.bind ?_ (fun _ => ?_))
  | exact ih0 _ _ _
  | exact boarderref12_Good.mono _ _
  | exact boarderref25_Sorted.mono _ _
  | exact LeO.none _
  | refine LeO.ite ?_ ?_
  | refine LeO.bind ?_ (fun _ => ?_)
set_option maxHeartbeats 8000000 in
set_option maxRecDepth 100000 in
theorem boarderref25_ByEnd.calls (k : Nat) (A0 : Option Addr) (c0 : Nat) (l0 : List (S34)) (r : List (S34)) (w : World) (hr0 : Kd.C k34 w A0 l0.length l0) (hc0 : l0.length ≤ c0) (h : boarderref25_ByEnd.f k l0 = some r) :
    Calls Try.prog 12 #[.slice A0 l0.length c0] w fun e w' => ∃ v0_ : Value, e = .returned (v0_) ∧ Kd.R k34 34 w' w.heap.size (fun _ => True) v0_ r ∧ Below w.heap.size w w' := by
 have hu34 := Try.underlying34
 have HR0 := Aside0.mk hr0
 have HC0 := Aside0.mk hc0
 clear hr0 hc0
 have HB := Aside0.mk (Below.refl w.heap.size w)
 have H : ((boarderref12_Good.f k l0).bind fun t236 => (boarderref25_ByEnd.l0 k t236 ([] : List (S34)) 0)) = some r := h
 clear h
 replace H := Option.bind_eq_some_iff.mp H
 obtain ⟨t236, A20, H⟩ := H
 replace H : (boarderref25_ByEnd.l0 k t236 ([] : List (S34)) 0) = some r := H
 have A2 := Aside0.mk A20
 clear A20
 have H' := Aside0.mk H
 clear H
 go_enter Try.func12, Try.ntmps12
 go_wp2_with (first | ((with_reducible refine gate_callee (f := 25) rfl ?_); refine goesL_ (some 6) rfl rfl Try.func25 (by kernel_rfl) rfl #[.slice A0 l0.length c0] rfl sqA ?_; (with_reducible refine (boarderref12_Good.calls _ _ _ _ _ _ ?side1 ?side2 A2.out).mono ?_); (case side1 => repeat (first | exact HR0.out | (with_reducible refine Kd.C_alloc ?_ _) | (with_reducible refine Kd.C_drewN ?_ _) | (with_reducible refine Kd.C_drew ?_))); (case side2 => exact HC0.out); rintro e w3 ⟨An235, cn235, rfl, hri_, hci_, hb⟩; refine ⟨_, rfl, ?_⟩; have HRn235 := sqM (hri_ _ HR0.out); have HCn235 := sqM hci_; clear hri_ hci_; replace HB := sqM (below_step (sqB HB.out) hb); (try clear hb); (try clear hb2); (try clear hk); (try clear hi)))
 go_loopg [3, 4] k (fun kq v3 v4 w' => ∃ (x3_1 : List (S34)) (x4_1 : Int), v4 = .int .i64 x4_1 ∧ Aside0 (boarderref25_ByEnd.l0 kq t236 x3_1 x4_1 = some r) ∧ Aside0 (kq ≤ k) ∧ Aside0 (Kd.R k34 34 w' w.heap.size (fun _ => True) v3 x3_1) ∧ Aside0 (Below w.heap.size w w'))
 case atStart => exact ⟨(([] : List (S34))), (0), sqI, H', ⟨Nat.le_refl _⟩, ⟨by first | exact Kd.R_nil _ _ _ _ _ | exact Kd.N_nil _ _ _ _ _ | exact Kd.V_nil _ _ _ _ _ | exact Kd.Q_nil _ _ _ _ _ | exact Kd.S_nil _ _ _ _ _⟩, ⟨sqB HB.out⟩⟩
 clear H'
 try clear c1
 try clear c2
 try clear p2
 obtain ⟨x3_1, x4_1, rfl, HA, HK1, HO_3, HB⟩ := hrel
 cases gk with
 | zero => exact absurd HA.out (by simp [boarderref25_ByEnd.l0])
 | succ k1 => ?_
 have H := HA.out
 clear HA
 simp only [boarderref25_ByEnd.l0] at H
 by_cases c4 : x4_1 < (t236.length : Int)
 rotate_left
 · rw [if_neg c4] at H
   have c4b0 : decide (x4_1 < (t236.length : Int)) = false := decide_eq_false c4
   clear c4
   replace H := Option.bind_eq_some_iff.mp H
   obtain ⟨t247, A120, H⟩ := H
   replace H : (some t247) = some r := H
   have A12 := Aside0.mk A120
   clear A120
   obtain rfl := Option.some.inj H
   obtain ⟨Ao13, co13, eo13⟩ := Kd.R_slice HO_3.out
   subst eo13
   go_wp2_with (first | ((with_reducible refine gate_callee (f := 26) rfl ?_); refine goesL_ (some 35) rfl rfl Try.func26 (by kernel_rfl) rfl #[.slice Ao13 x3_1.length co13] rfl sqA ?_; (with_reducible refine (boarderref25_Sorted.calls _ (fun k_ => some k_ = (.slice Ao13 x3_1.length co13 : Value).ownBlock) _ _ _ _ _ ?side1 A12.out).mono ?_); (case side1 => exact Kd.R_V (Kd.R_tight rfl (HO_3.out))); rintro e w14 ⟨v248, rfl, ho0, hb⟩; refine ⟨_, rfl, ?_⟩; have HO249 := sqM (Kd.R_lower (Kd.R_new' (Kd.R_mono (ok' := fun k_ => True) ho0 (fun _ hk_ => trivial)) (Kd.R_lt (sqR HO_3.out))) (below_size (sqB HB.out))); replace HO_3 := sqM (Kd.R_elder' (sqR HO_3.out) (Kd.R_base ho0) hb); replace HB := sqM (below_step (sqB HB.out) hb); (try clear hb); (try clear hb2); (try clear hk); (try clear hi); (try clear ho0)))
   go_ret
   exact ⟨_, sqE, by refine sqR ?_; exact Kd.R_mono HO249.out (fun _ hk => trivial), sqB HB.out⟩
 rw [if_pos c4] at H
 have c4b0 : decide (x4_1 < (t236.length : Int)) = true := decide_eq_true c4
 clear c4
 by_cases c5 : 0 ≤ x4_1
 rotate_left
 · rw [if_neg c5] at H
   exact absurd H (by simp)
 rw [if_pos c5] at H
 have c5b0 : decide (0 ≤ x4_1) = true := decide_eq_true c5
 clear c5
 by_cases c6 : ((rd_T34 t236 x4_1).f1) = 1
 · rw [if_pos c6] at H
   have c6b0 : (((rd_T34 t236 x4_1).f1) == 1) = true := beq_iff_eq.mpr c6
   have c6b1 : (((rd_T34 t236 x4_1).f1) != 1) = false := bne_eq_false_iff_eq.mpr c6
   clear c6
   by_cases c7 : x3_1.length < 3518437208883
   rotate_left
   · rw [if_neg c7] at H
     exact absurd H (by simp)
   rw [if_pos c7] at H
   have LMc7 := Aside0.mk c7
   clear c7
   obtain ⟨y239, hy239⟩ : ∃ y_ : List (S34), y_ = (x3_1 ++ [(⟨(rd_T34 t236 x4_1).f0, (rd_T34 t236 x4_1).f1, (rd_T34 t236 x4_1).f2, (rd_T34 t236 x4_1).f3⟩ : S34)]) := ⟨_, rfl⟩
   replace H : (boarderref25_ByEnd.l0 k1 t236 y239 (wrap64 (x4_1 + 1))) = some r := by first | (rw [hy239]; with_reducible exact H) | (have H2_ := (Option.bind_some _ _).symm.trans H; rw [hy239]; with_reducible exact H2_) | (have H2_ := (Option.bind_some _ _).symm.trans H; with_reducible exact H2_) | with_reducible exact H | (rw [hy239]; exact H) | exact H
   have Ny239 := Aside0.mk hy239
   clear hy239
   have H' := Aside0.mk H
   clear H
   have p237 : 0 ≤ (x4_1 : Int) := of_decide_eq_true sqH
   have q237 : x4_1 < (t236.length : Int) := of_decide_eq_true sqH
   obtain ⟨ad237, e237, hx237_0, hx237_1, hx237_2, hx237_3⟩ := at_T34 HRn235.out x4_1 p237 q237
   cases e237
   replace hx237_0 := sqx HB.out hx237_0
   replace hx237_1 := sqx HB.out hx237_1
   replace hx237_2 := sqx HB.out hx237_2
   replace hx237_3 := sqx HB.out hx237_3
   replace p237 := eq_true p237
   replace q237 := eq_true q237
   have p238 : 0 ≤ (x4_1 : Int) := of_decide_eq_true sqH
   have q238 : x4_1 < (t236.length : Int) := of_decide_eq_true sqH
   obtain ⟨ad238, e238, hx238_0, hx238_1, hx238_2, hx238_3⟩ := at_T34 HRn235.out x4_1 p238 q238
   obtain rfl : ad237 = ad238 := (by injection e238)
   replace hx238_0 := sqx HB.out hx238_0
   replace hx238_1 := sqx HB.out hx238_1
   replace hx238_2 := sqx HB.out hx238_2
   replace hx238_3 := sqx HB.out hx238_3
   replace p238 := eq_true p238
   replace q238 := eq_true q238
   go_wp2_with (first | ((with_reducible refine gate_builtin (b := .append) (xs := #[.tmp 27, .tmp 32]) rfl ?_); at_builtin; refine Kd.R_append k34 (w0 := w) w.heap.size rfl (.tmp 27) (.tmp 32) 22 34 (.agg #[(.int .i64 0), (.int .i64 0), (.int .i64 0), (.string ⟨#[]⟩)]) 40 rfl Try.underlying22 info34 rfl (by decide) (by omega) u3 x3_1 (⟨(rd_T34 t236 x4_1).f0, (rd_T34 t236 x4_1).f1, (rd_T34 t236 x4_1).f2, (rd_T34 t236 x4_1).f3⟩ : S34) [.int .i64 ((rd_T34 t236 x4_1).f0), .int .i64 ((rd_T34 t236 x4_1).f1), .int .i64 ((rd_T34 t236 x4_1).f2), .string ((rd_T34 t236 x4_1).f3)] (fun _ => True) (fun _ => False) rfl rfl ?aP (fun _ hk => hk.elim) ?aF ?aO ?aB ?aS ?aL ?_; (case aP => exact k34_mkM _ _ _ (⟨(rd_T34 t236 x4_1).f0, (rd_T34 t236 x4_1).f1, (rd_T34 t236 x4_1).f2, (rd_T34 t236 x4_1).f3⟩ : S34)); (case aB => exact (sqB HB.out)); (case aF => exact (fun _ _ => trivial)); (case aO => exact (sqR HO_3.out)); (case aS => exact (below_size (sqB HB.out))); (case aL => have := LMc7.out; omega); intro v240 w8 ho hb hg hat; rw [← Ny239.out] at ho; have HO241 := sqM (ho); replace HB := sqM (hb); clear HO_3; clear ho hb hg hat))
   go_roundg k1
   case measure => have := HK1.out; omega
   case rel => exact ⟨(y239), (wrap64 (x4_1 + 1)), sqI, H', ⟨by have := HK1.out; omega⟩, ⟨sqR HO241.out⟩, ⟨sqB HB.out⟩⟩
 rw [if_neg c6] at H
 have c6b0 : (((rd_T34 t236 x4_1).f1) == 1) = false := beq_eq_false_iff_ne.mpr c6
 have c6b1 : (((rd_T34 t236 x4_1).f1) != 1) = true := bne_iff_ne.mpr c6
 by_cases c9 : ((rd_T34 t236 x4_1).f1) = 3
 rotate_left
 · rw [if_neg c9] at H
   have c9b0 : (((rd_T34 t236 x4_1).f1) == 3) = false := beq_eq_false_iff_ne.mpr c9
   have c9b1 : (((rd_T34 t236 x4_1).f1) != 3) = true := bne_iff_ne.mpr c9
   have H' := Aside0.mk H
   clear H
   have p237 : 0 ≤ (x4_1 : Int) := of_decide_eq_true sqH
   have q237 : x4_1 < (t236.length : Int) := of_decide_eq_true sqH
   obtain ⟨ad237, e237, hx237_0, hx237_1, hx237_2, hx237_3⟩ := at_T34 HRn235.out x4_1 p237 q237
   cases e237
   replace hx237_0 := sqx HB.out hx237_0
   replace hx237_1 := sqx HB.out hx237_1
   replace hx237_2 := sqx HB.out hx237_2
   replace hx237_3 := sqx HB.out hx237_3
   replace p237 := eq_true p237
   replace q237 := eq_true q237
   have p242 : 0 ≤ (x4_1 : Int) := of_decide_eq_true sqH
   have q242 : x4_1 < (t236.length : Int) := of_decide_eq_true sqH
   obtain ⟨ad242, e242, hx242_0, hx242_1, hx242_2, hx242_3⟩ := at_T34 HRn235.out x4_1 p242 q242
   obtain rfl : ad237 = ad242 := (by injection e242)
   replace hx242_0 := sqx HB.out hx242_0
   replace hx242_1 := sqx HB.out hx242_1
   replace hx242_2 := sqx HB.out hx242_2
   replace hx242_3 := sqx HB.out hx242_3
   replace p242 := eq_true p242
   replace q242 := eq_true q242
   go_wp2
   go_roundg k1
   case measure => have := HK1.out; omega
   case rel => exact ⟨(x3_1), (wrap64 (x4_1 + 1)), sqI, H', ⟨by have := HK1.out; omega⟩, ⟨sqR HO_3.out⟩, ⟨sqB HB.out⟩⟩
 rw [if_pos c9] at H
 have c9b0 : (((rd_T34 t236 x4_1).f1) == 3) = true := beq_iff_eq.mpr c9
 have c9b1 : (((rd_T34 t236 x4_1).f1) != 3) = false := bne_eq_false_iff_eq.mpr c9
 clear c9
 by_cases c10 : x3_1.length < 3518437208883
 rotate_left
 · rw [if_neg c10] at H
   exact absurd H (by simp)
 rw [if_pos c10] at H
 have LMc10 := Aside0.mk c10
 clear c10
 obtain ⟨y244, hy244⟩ : ∃ y_ : List (S34), y_ = (x3_1 ++ [(⟨(rd_T34 t236 x4_1).f0, (rd_T34 t236 x4_1).f1, (rd_T34 t236 x4_1).f2, (rd_T34 t236 x4_1).f3⟩ : S34)]) := ⟨_, rfl⟩
 replace H : (boarderref25_ByEnd.l0 k1 t236 y244 (wrap64 (x4_1 + 1))) = some r := by first | (rw [hy244]; with_reducible exact H) | (have H2_ := (Option.bind_some _ _).symm.trans H; rw [hy244]; with_reducible exact H2_) | (have H2_ := (Option.bind_some _ _).symm.trans H; with_reducible exact H2_) | with_reducible exact H | (rw [hy244]; exact H) | exact H
 have Ny244 := Aside0.mk hy244
 clear hy244
 have H' := Aside0.mk H
 clear H
 have p237 : 0 ≤ (x4_1 : Int) := of_decide_eq_true sqH
 have q237 : x4_1 < (t236.length : Int) := of_decide_eq_true sqH
 obtain ⟨ad237, e237, hx237_0, hx237_1, hx237_2, hx237_3⟩ := at_T34 HRn235.out x4_1 p237 q237
 cases e237
 replace hx237_0 := sqx HB.out hx237_0
 replace hx237_1 := sqx HB.out hx237_1
 replace hx237_2 := sqx HB.out hx237_2
 replace hx237_3 := sqx HB.out hx237_3
 replace p237 := eq_true p237
 replace q237 := eq_true q237
 have p242 : 0 ≤ (x4_1 : Int) := of_decide_eq_true sqH
 have q242 : x4_1 < (t236.length : Int) := of_decide_eq_true sqH
 obtain ⟨ad242, e242, hx242_0, hx242_1, hx242_2, hx242_3⟩ := at_T34 HRn235.out x4_1 p242 q242
 obtain rfl : ad237 = ad242 := (by injection e242)
 replace hx242_0 := sqx HB.out hx242_0
 replace hx242_1 := sqx HB.out hx242_1
 replace hx242_2 := sqx HB.out hx242_2
 replace hx242_3 := sqx HB.out hx242_3
 replace p242 := eq_true p242
 replace q242 := eq_true q242
 have p243 : 0 ≤ (x4_1 : Int) := of_decide_eq_true sqH
 have q243 : x4_1 < (t236.length : Int) := of_decide_eq_true sqH
 obtain ⟨ad243, e243, hx243_0, hx243_1, hx243_2, hx243_3⟩ := at_T34 HRn235.out x4_1 p243 q243
 obtain rfl : ad237 = ad243 := (by injection e243)
 replace hx243_0 := sqx HB.out hx243_0
 replace hx243_1 := sqx HB.out hx243_1
 replace hx243_2 := sqx HB.out hx243_2
 replace hx243_3 := sqx HB.out hx243_3
 replace p243 := eq_true p243
 replace q243 := eq_true q243
 go_wp2_with (first | ((with_reducible refine gate_builtin (b := .append) (xs := #[.tmp 27, .tmp 32]) rfl ?_); at_builtin; refine Kd.R_append k34 (w0 := w) w.heap.size rfl (.tmp 27) (.tmp 32) 22 34 (.agg #[(.int .i64 0), (.int .i64 0), (.int .i64 0), (.string ⟨#[]⟩)]) 40 rfl Try.underlying22 info34 rfl (by decide) (by omega) u3 x3_1 (⟨(rd_T34 t236 x4_1).f0, (rd_T34 t236 x4_1).f1, (rd_T34 t236 x4_1).f2, (rd_T34 t236 x4_1).f3⟩ : S34) [.int .i64 ((rd_T34 t236 x4_1).f0), .int .i64 ((rd_T34 t236 x4_1).f1), .int .i64 ((rd_T34 t236 x4_1).f2), .string ((rd_T34 t236 x4_1).f3)] (fun _ => True) (fun _ => False) rfl rfl ?aP (fun _ hk => hk.elim) ?aF ?aO ?aB ?aS ?aL ?_; (case aP => exact k34_mkM _ _ _ (⟨(rd_T34 t236 x4_1).f0, (rd_T34 t236 x4_1).f1, (rd_T34 t236 x4_1).f2, (rd_T34 t236 x4_1).f3⟩ : S34)); (case aB => exact (sqB HB.out)); (case aF => exact (fun _ _ => trivial)); (case aO => exact (sqR HO_3.out)); (case aS => exact (below_size (sqB HB.out))); (case aL => have := LMc10.out; omega); intro v245 w11 ho hb hg hat; rw [← Ny244.out] at ho; have HO246 := sqM (ho); replace HB := sqM (hb); clear HO_3; clear ho hb hg hat))
 go_roundg k1
 case measure => have := HK1.out; omega
 case rel => exact ⟨(y244), (wrap64 (x4_1 + 1)), sqI, H', ⟨by have := HK1.out; omega⟩, ⟨sqR HO246.out⟩, ⟨sqB HB.out⟩⟩

end Go.Proofs.Ytkjmfnijagdhpaa.PQueue
