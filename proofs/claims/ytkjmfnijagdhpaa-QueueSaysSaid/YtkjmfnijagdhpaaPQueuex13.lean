/- Lean functions for Go functions of the given program, and proofs that the code computes them, each under its theorem's own conditions. Written by a program of this session. -/
import Derived.Test.YtkjmfnijagdhpaaPQueuex0
import Derived.Test.YtkjmfnijagdhpaaPQueuex2
import Derived.Test.YtkjmfnijagdhpaaPQueuex4
import Derived.Test.YtkjmfnijagdhpaaPQueuex7
import Derived.Test.YtkjmfnijagdhpaaPQueuex8
import Derived.Test.YtkjmfnijagdhpaaPQueuex9
namespace Go.Proofs.Ytkjmfnijagdhpaa.PQueue
open Go.RowKit Go.Proofs.YtkjmfnijagdhpaaW.PrintWords Go.Proofs.YtkjmfnijagdhpaaW.PrintLast Go.Proofs.YtkjmfnijagdhpaaW.PrintMore
attribute [local go_sem] max2_int min2_int max_two min_two max_three min_three max_four min_four   -- for this text's walks alone
set_option linter.unusedVariables false
set_option linter.unusedSimpArgs false

/-! ### boarderref25_Next: function 14 -/
def boarderref25_Next.l0 : Nat → Int → List (S34) → Int → Option (Int × Bool)
  | 0, _, _, _ => none
  | k + 1, x1, x6, x7 => if x7 < (x6.length : Int) then (if 0 ≤ x7 then (if ((rd_T34 x6 x7).f2) > x1 then (some ((rd_T34 x6 x7).f2, true)) else (boarderref25_Next.l0 k x1 x6 (wrap64 (x7 + 1)))) else (none)) else (some (0, false))
def boarderref25_Next.f (k : Nat) (l0 : List (S34)) (a1 : Int) : Option (Int × Bool) := (boarderref25_ByEnd.f k l0).bind fun t260 => (boarderref25_Next.l0 k a1 t260 0)
theorem boarderref25_Next.mono_l : ∀ k, (∀ y0 y1 y2, LeO (boarderref25_Next.l0 k y0 y1 y2) (boarderref25_Next.l0 (k + 1) y0 y1 y2))
  | 0 => fun _ _ _ r h => by simp [boarderref25_Next.l0] at h
  | k + 1 => by
    have ih0 := boarderref25_Next.mono_l k
    · intro y0 y1 y2
      unfold boarderref25_Next.l0
      repeat' first
      | (with_reducible exact ih0 _ _ _)
      | (with_reducible exact boarderref25_ByEnd.mono _ _)
      | (with_reducible exact LeO.refl _)
      | (with_reducible exact LeO.none _)
      | (with_reducible refine LeO.ite ?_ ?_)
      | (with_reducible refine LeO.bind ?_ (fun _ => ?_))
      | exact ih0 _ _ _
      | exact boarderref25_ByEnd.mono _ _
      | exact LeO.none _
      | refine LeO.ite ?_ ?_
      | refine LeO.bind ?_ (fun _ => ?_)
theorem boarderref25_Next.mono : ∀ a0 a1 k, LeO (boarderref25_Next.f k a0 a1) (boarderref25_Next.f (k + 1) a0 a1) := by
 intro a0 a1 k
 have ih0 := boarderref25_Next.mono_l k
 unfold boarderref25_Next.f
 repeat' first
  | (with_reducible exact ih0 _ _ _)
  | (with_reducible exact boarderref25_ByEnd.mono _ _)
  | (with_reducible exact LeO.refl _)
  | (with_reducible exact LeO.none _)
  | (with_reducible refine LeO.ite ?_ ?_)
  | (with_reducible refine LeO.bind ?_ (fun _ => ?_))
  | exact ih0 _ _ _
  | exact boarderref25_ByEnd.mono _ _
  | exact LeO.none _
  | refine LeO.ite ?_ ?_
  | refine LeO.bind ?_ (fun _ => ?_)
set_option maxHeartbeats 8000000 in
set_option maxRecDepth 100000 in
theorem boarderref25_Next.calls (k : Nat) (A0 : Option Addr) (c0 : Nat) (l0 : List (S34)) (a1 : Int) (r1 : Int) (r2 : Bool) (w : World) (hr0 : Kd.C k34 w A0 l0.length l0) (hc0 : l0.length ≤ c0) (h : boarderref25_Next.f k l0 a1 = some (r1, r2)) :
    Calls Try.prog 14 #[.slice A0 l0.length c0, .int .i64 a1] w fun e w' => e = .returned (.tuple #[.int .i64 r1, .bool r2]) ∧ Below w.heap.size w w' := by
 have HR0 := Aside0.mk hr0
 have HC0 := Aside0.mk hc0
 clear hr0 hc0
 have HB := Aside0.mk (Below.refl w.heap.size w)
 have H : ((boarderref25_ByEnd.f k l0).bind fun t260 => (boarderref25_Next.l0 k a1 t260 0)) = some (r1, r2) := h
 clear h
 replace H := Option.bind_eq_some_iff.mp H
 obtain ⟨t260, A30, H⟩ := H
 replace H : (boarderref25_Next.l0 k a1 t260 0) = some (r1, r2) := H
 have A3 := Aside0.mk A30
 clear A30
 have H' := Aside0.mk H
 clear H
 go_enter Try.func14, Try.ntmps14
 go_wp2_with (first | ((with_reducible refine gate_callee (f := 12) rfl ?_); refine goesL_ (some 9) rfl rfl Try.func12 (by kernel_rfl) rfl #[.slice A0 l0.length c0] rfl sqA ?_; (with_reducible refine (boarderref25_ByEnd.calls _ _ _ _ _ _ ?side1 ?side2 A3.out).mono ?_); (case side1 => repeat (first | exact HR0.out | (with_reducible refine Kd.C_alloc ?_ _) | (with_reducible refine Kd.C_drewN ?_ _) | (with_reducible refine Kd.C_drew ?_))); (case side2 => exact HC0.out); rintro e w4 ⟨v261, rfl, ho0, hb⟩; refine ⟨_, rfl, ?_⟩; have HO262 := sqM (Kd.R_lower ho0 (below_size (sqB HB.out))); replace HB := sqM (below_step (sqB HB.out) hb); (try clear hb); (try clear hb2); (try clear hk); (try clear hi); (try clear ho0)))
 go_loopg [7] k (fun kq v7 w' => ∃ (x7_1 : Int), v7 = .int .i64 x7_1 ∧ Aside0 (boarderref25_Next.l0 kq a1 t260 x7_1 = some (r1, r2)) ∧ Aside0 (kq ≤ k) ∧ Aside0 (Kd.R k34 34 w' w.heap.size (fun _ => True) v261 t260) ∧ Aside0 (Below w.heap.size w w'))
 case atStart => exact ⟨(0), sqI, H', ⟨Nat.le_refl _⟩, ⟨sqR HO262.out⟩, ⟨sqB HB.out⟩⟩
 clear H'
 try clear c1
 try clear p2
 obtain ⟨x7_1, rfl, HA, HK1, HO_6, HB⟩ := hrel
 cases gk with
 | zero => exact absurd HA.out (by simp [boarderref25_Next.l0])
 | succ k1 => ?_
 have H := HA.out
 clear HA
 simp only [boarderref25_Next.l0] at H
 by_cases c5 : x7_1 < (t260.length : Int)
 rotate_left
 · rw [if_neg c5] at H
   have c5b0 : decide (x7_1 < (t260.length : Int)) = false := decide_eq_false c5
   clear c5
   simp only [Option.some.injEq, Prod.mk.injEq] at H
   obtain ⟨rfl, rfl⟩ := H
   obtain ⟨Ao10, co10, eo10⟩ := Kd.R_slice HO_6.out
   subst eo10
   go_wp2
   go_ret2
   exact ⟨sqE, sqB HB.out⟩
 rw [if_pos c5] at H
 have c5b0 : decide (x7_1 < (t260.length : Int)) = true := decide_eq_true c5
 clear c5
 by_cases c6 : 0 ≤ x7_1
 rotate_left
 · rw [if_neg c6] at H
   exact absurd H (by simp)
 rw [if_pos c6] at H
 have c6b0 : decide (0 ≤ x7_1) = true := decide_eq_true c6
 clear c6
 by_cases c7 : ((rd_T34 t260 x7_1).f2) > a1
 rotate_left
 · rw [if_neg c7] at H
   have c7b0 : decide (a1 < ((rd_T34 t260 x7_1).f2)) = false := decide_eq_false c7
   clear c7
   have H' := Aside0.mk H
   clear H
   obtain ⟨Ao9, co9, eo9⟩ := Kd.R_slice HO_6.out
   subst eo9
   have p263 : 0 ≤ (x7_1 : Int) := of_decide_eq_true sqH
   have q263 : x7_1 < (t260.length : Int) := of_decide_eq_true sqH
   obtain ⟨ad263, e263, hx263_0, hx263_1, hx263_2, hx263_3⟩ := at_T34 (Kd.R_reads' HO_6.out).2.2 x7_1 p263 q263
   cases e263
   replace p263 := eq_true p263
   replace q263 := eq_true q263
   go_wp2
   go_roundg k1
   case measure => have := HK1.out; omega
   case rel => exact ⟨(wrap64 (x7_1 + 1)), sqI, H', ⟨by have := HK1.out; omega⟩, ⟨sqR HO_6.out⟩, ⟨sqB HB.out⟩⟩
 rw [if_pos c7] at H
 have c7b0 : decide (a1 < ((rd_T34 t260 x7_1).f2)) = true := decide_eq_true c7
 clear c7
 simp only [Option.some.injEq, Prod.mk.injEq] at H
 obtain ⟨rfl, rfl⟩ := H
 obtain ⟨Ao8, co8, eo8⟩ := Kd.R_slice HO_6.out
 subst eo8
 have p263 : 0 ≤ (x7_1 : Int) := of_decide_eq_true sqH
 have q263 : x7_1 < (t260.length : Int) := of_decide_eq_true sqH
 obtain ⟨ad263, e263, hx263_0, hx263_1, hx263_2, hx263_3⟩ := at_T34 (Kd.R_reads' HO_6.out).2.2 x7_1 p263 q263
 cases e263
 replace p263 := eq_true p263
 replace q263 := eq_true q263
 have p264 : 0 ≤ (x7_1 : Int) := of_decide_eq_true sqH
 have q264 : x7_1 < (t260.length : Int) := of_decide_eq_true sqH
 obtain ⟨ad264, e264, hx264_0, hx264_1, hx264_2, hx264_3⟩ := at_T34 (Kd.R_reads' HO_6.out).2.2 x7_1 p264 q264
 obtain rfl : ad263 = ad264 := (by injection e264)
 replace p264 := eq_true p264
 replace q264 := eq_true q264
 go_wp2
 go_ret2
 exact ⟨sqE, sqB HB.out⟩

/-! ### boarderref25_Ended: function 16 -/
def boarderref25_Ended.l0 : Nat → Int → Int → List (S34) → List (S34) → Int → Option ((List (S34)))
  | 0, _, _, _, _, _ => none
  | k + 1, x1, x2, x7, x8, x9 => if x9 < (x7.length : Int) then (if 0 ≤ x9 then (if ((rd_T34 x7 x9).f2) > x1 then (if ((rd_T34 x7 x9).f2) ≤ x2 then (if x8.length < 3518437208883 then (boarderref25_Ended.l0 k x1 x2 x7 (x8 ++ [(⟨(rd_T34 x7 x9).f0, (rd_T34 x7 x9).f1, (rd_T34 x7 x9).f2, (rd_T34 x7 x9).f3⟩ : S34)]) (wrap64 (x9 + 1))) else (none)) else (boarderref25_Ended.l0 k x1 x2 x7 x8 (wrap64 (x9 + 1)))) else (boarderref25_Ended.l0 k x1 x2 x7 x8 (wrap64 (x9 + 1)))) else (none)) else (some x8)
def boarderref25_Ended.f (k : Nat) (l0 : List (S34)) (a1 : Int) (a2 : Int) : Option ((List (S34))) := (boarderref25_ByEnd.f k l0).bind fun t265 => (boarderref25_Ended.l0 k a1 a2 t265 ([] : List (S34)) 0)
theorem boarderref25_Ended.mono_l : ∀ k, (∀ y0 y1 y2 y3 y4, LeO (boarderref25_Ended.l0 k y0 y1 y2 y3 y4) (boarderref25_Ended.l0 (k + 1) y0 y1 y2 y3 y4))
  | 0 => fun _ _ _ _ _ r h => by simp [boarderref25_Ended.l0] at h
  | k + 1 => by
    have ih0 := boarderref25_Ended.mono_l k
    · intro y0 y1 y2 y3 y4
      unfold boarderref25_Ended.l0
      repeat' first
      | (with_reducible exact ih0 _ _ _ _ _)
      | (with_reducible exact boarderref25_ByEnd.mono _ _)
      | (with_reducible exact LeO.refl _)
      | (with_reducible exact LeO.none _)
      | (with_reducible refine LeO.ite ?_ ?_)
      | (with_reducible refine LeO.bind ?_ (fun _ => ?_))
      | exact ih0 _ _ _ _ _
      | exact boarderref25_ByEnd.mono _ _
      | exact LeO.none _
      | refine LeO.ite ?_ ?_
      | refine LeO.bind ?_ (fun _ => ?_)
theorem boarderref25_Ended.mono : ∀ a0 a1 a2 k, LeO (boarderref25_Ended.f k a0 a1 a2) (boarderref25_Ended.f (k + 1) a0 a1 a2) := by
 intro a0 a1 a2 k
 have ih0 := boarderref25_Ended.mono_l k
 unfold boarderref25_Ended.f
 repeat' first
  | (with_reducible exact ih0 _ _ _ _ _)
  | (with_reducible exact boarderref25_ByEnd.mono _ _)
  | (with_reducible exact LeO.refl _)
  | (with_reducible exact LeO.none _)
  | (with_reducible refine LeO.ite ?_ ?_)
  | (with_reducible refine LeO.bind ?_ (fun _ => ?_))
  | exact ih0 _ _ _ _ _
  | exact boarderref25_ByEnd.mono _ _
  | exact LeO.none _
  | refine LeO.ite ?_ ?_
  | refine LeO.bind ?_ (fun _ => ?_)
set_option maxHeartbeats 8000000 in
set_option maxRecDepth 100000 in
theorem boarderref25_Ended.calls (k : Nat) (A0 : Option Addr) (c0 : Nat) (l0 : List (S34)) (a1 : Int) (a2 : Int) (r : List (S34)) (w : World) (hr0 : Kd.C k34 w A0 l0.length l0) (hc0 : l0.length ≤ c0) (h : boarderref25_Ended.f k l0 a1 a2 = some r) :
    Calls Try.prog 16 #[.slice A0 l0.length c0, .int .i64 a1, .int .i64 a2] w fun e w' => ∃ v0_ : Value, e = .returned (v0_) ∧ Kd.R k34 34 w' w.heap.size (fun _ => True) v0_ r ∧ Below w.heap.size w w' := by
 have hu34 := Try.underlying34
 have HR0 := Aside0.mk hr0
 have HC0 := Aside0.mk hc0
 clear hr0 hc0
 have HB := Aside0.mk (Below.refl w.heap.size w)
 have H : ((boarderref25_ByEnd.f k l0).bind fun t265 => (boarderref25_Ended.l0 k a1 a2 t265 ([] : List (S34)) 0)) = some r := h
 clear h
 replace H := Option.bind_eq_some_iff.mp H
 obtain ⟨t265, A40, H⟩ := H
 replace H : (boarderref25_Ended.l0 k a1 a2 t265 ([] : List (S34)) 0) = some r := H
 have A4 := Aside0.mk A40
 clear A40
 have H' := Aside0.mk H
 clear H
 go_enter Try.func16, Try.ntmps16
 go_wp2_with (first | ((with_reducible refine gate_callee (f := 12) rfl ?_); refine goesL_ (some 11) rfl rfl Try.func12 (by kernel_rfl) rfl #[.slice A0 l0.length c0] rfl sqA ?_; (with_reducible refine (boarderref25_ByEnd.calls _ _ _ _ _ _ ?side1 ?side2 A4.out).mono ?_); (case side1 => repeat (first | exact HR0.out | (with_reducible refine Kd.C_alloc ?_ _) | (with_reducible refine Kd.C_drewN ?_ _) | (with_reducible refine Kd.C_drew ?_))); (case side2 => exact HC0.out); rintro e w5 ⟨v266, rfl, ho0, hb⟩; refine ⟨_, rfl, ?_⟩; have HO267 := sqM (Kd.R_lower ho0 (below_size (sqB HB.out))); replace HB := sqM (below_step (sqB HB.out) hb); (try clear hb); (try clear hb2); (try clear hk); (try clear hi); (try clear ho0)))
 go_loopg [8, 9] k (fun kq v8 v9 w' => ∃ (x8_1 : List (S34)) (x9_1 : Int), v9 = .int .i64 x9_1 ∧ Aside0 (boarderref25_Ended.l0 kq a1 a2 t265 x8_1 x9_1 = some r) ∧ Aside0 (kq ≤ k) ∧ Aside0 (Kd.R k34 34 w' w.heap.size (fun k_ => some k_ ≠ (v8 : Value).ownBlock) v266 t265) ∧ Aside0 (Kd.R k34 34 w' w.heap.size (fun k_ => some k_ ≠ (v266 : Value).ownBlock) v8 x8_1) ∧ Aside0 (Below w.heap.size w w'))
 case atStart => exact ⟨(([] : List (S34))), (0), sqI, H', ⟨Nat.le_refl _⟩, ⟨by refine sqR ?_; exact Kd.R_mono HO267.out (fun _ hk => (by simp [Value.ownBlock]))⟩, ⟨by first | exact Kd.R_nil _ _ _ _ _ | exact Kd.N_nil _ _ _ _ _ | exact Kd.V_nil _ _ _ _ _ | exact Kd.Q_nil _ _ _ _ _ | exact Kd.S_nil _ _ _ _ _⟩, ⟨sqB HB.out⟩⟩
 clear H'
 try clear c1
 try clear p2
 obtain ⟨x8_1, x9_1, rfl, HA, HK1, HO_7, HO_8, HB⟩ := hrel
 cases gk with
 | zero => exact absurd HA.out (by simp [boarderref25_Ended.l0])
 | succ k1 => ?_
 have H := HA.out
 clear HA
 simp only [boarderref25_Ended.l0] at H
 by_cases c6 : x9_1 < (t265.length : Int)
 rotate_left
 · rw [if_neg c6] at H
   have c6b0 : decide (x9_1 < (t265.length : Int)) = false := decide_eq_false c6
   clear c6
   obtain rfl := Option.some.inj H
   obtain ⟨Ao15, co15, eo15⟩ := Kd.R_slice HO_7.out
   subst eo15
   go_wp2
   go_ret
   exact ⟨_, sqE, by refine sqR ?_; exact Kd.R_mono HO_8.out (fun _ hk => trivial), sqB HB.out⟩
 rw [if_pos c6] at H
 have c6b0 : decide (x9_1 < (t265.length : Int)) = true := decide_eq_true c6
 clear c6
 by_cases c7 : 0 ≤ x9_1
 rotate_left
 · rw [if_neg c7] at H
   exact absurd H (by simp)
 rw [if_pos c7] at H
 have c7b0 : decide (0 ≤ x9_1) = true := decide_eq_true c7
 clear c7
 by_cases c8 : ((rd_T34 t265 x9_1).f2) > a1
 rotate_left
 · rw [if_neg c8] at H
   have c8b0 : decide (a1 < ((rd_T34 t265 x9_1).f2)) = false := decide_eq_false c8
   clear c8
   have H' := Aside0.mk H
   clear H
   obtain ⟨Ao14, co14, eo14⟩ := Kd.R_slice HO_7.out
   subst eo14
   have p268 : 0 ≤ (x9_1 : Int) := of_decide_eq_true sqH
   have q268 : x9_1 < (t265.length : Int) := of_decide_eq_true sqH
   obtain ⟨ad268, e268, hx268_0, hx268_1, hx268_2, hx268_3⟩ := at_T34 (Kd.R_reads' HO_7.out).2.2 x9_1 p268 q268
   cases e268
   replace p268 := eq_true p268
   replace q268 := eq_true q268
   go_wp2
   go_roundg k1
   case measure => have := HK1.out; omega
   case rel => exact ⟨(x8_1), (wrap64 (x9_1 + 1)), sqI, H', ⟨by have := HK1.out; omega⟩, ⟨sqR HO_7.out⟩, ⟨sqR HO_8.out⟩, ⟨sqB HB.out⟩⟩
 rw [if_pos c8] at H
 have c8b0 : decide (a1 < ((rd_T34 t265 x9_1).f2)) = true := decide_eq_true c8
 clear c8
 by_cases c9 : ((rd_T34 t265 x9_1).f2) ≤ a2
 rotate_left
 · rw [if_neg c9] at H
   have c9b0 : decide (((rd_T34 t265 x9_1).f2) ≤ a2) = false := decide_eq_false c9
   clear c9
   have H' := Aside0.mk H
   clear H
   obtain ⟨Ao13, co13, eo13⟩ := Kd.R_slice HO_7.out
   subst eo13
   have p268 : 0 ≤ (x9_1 : Int) := of_decide_eq_true sqH
   have q268 : x9_1 < (t265.length : Int) := of_decide_eq_true sqH
   obtain ⟨ad268, e268, hx268_0, hx268_1, hx268_2, hx268_3⟩ := at_T34 (Kd.R_reads' HO_7.out).2.2 x9_1 p268 q268
   cases e268
   replace p268 := eq_true p268
   replace q268 := eq_true q268
   have p269 : 0 ≤ (x9_1 : Int) := of_decide_eq_true sqH
   have q269 : x9_1 < (t265.length : Int) := of_decide_eq_true sqH
   obtain ⟨ad269, e269, hx269_0, hx269_1, hx269_2, hx269_3⟩ := at_T34 (Kd.R_reads' HO_7.out).2.2 x9_1 p269 q269
   obtain rfl : ad268 = ad269 := (by injection e269)
   replace p269 := eq_true p269
   replace q269 := eq_true q269
   go_wp2
   go_roundg k1
   case measure => have := HK1.out; omega
   case rel => exact ⟨(x8_1), (wrap64 (x9_1 + 1)), sqI, H', ⟨by have := HK1.out; omega⟩, ⟨sqR HO_7.out⟩, ⟨sqR HO_8.out⟩, ⟨sqB HB.out⟩⟩
 rw [if_pos c9] at H
 have c9b0 : decide (((rd_T34 t265 x9_1).f2) ≤ a2) = true := decide_eq_true c9
 clear c9
 by_cases c10 : x8_1.length < 3518437208883
 rotate_left
 · rw [if_neg c10] at H
   exact absurd H (by simp)
 rw [if_pos c10] at H
 have LMc10 := Aside0.mk c10
 clear c10
 obtain ⟨y271, hy271⟩ : ∃ y_ : List (S34), y_ = (x8_1 ++ [(⟨(rd_T34 t265 x9_1).f0, (rd_T34 t265 x9_1).f1, (rd_T34 t265 x9_1).f2, (rd_T34 t265 x9_1).f3⟩ : S34)]) := ⟨_, rfl⟩
 replace H : (boarderref25_Ended.l0 k1 a1 a2 t265 y271 (wrap64 (x9_1 + 1))) = some r := by first | (rw [hy271]; with_reducible exact H) | (have H2_ := (Option.bind_some _ _).symm.trans H; rw [hy271]; with_reducible exact H2_) | (have H2_ := (Option.bind_some _ _).symm.trans H; with_reducible exact H2_) | with_reducible exact H | (rw [hy271]; exact H) | exact H
 have Ny271 := Aside0.mk hy271
 clear hy271
 have H' := Aside0.mk H
 clear H
 obtain ⟨Ao11, co11, eo11⟩ := Kd.R_slice HO_7.out
 subst eo11
 have p268 : 0 ≤ (x9_1 : Int) := of_decide_eq_true sqH
 have q268 : x9_1 < (t265.length : Int) := of_decide_eq_true sqH
 obtain ⟨ad268, e268, hx268_0, hx268_1, hx268_2, hx268_3⟩ := at_T34 (Kd.R_reads' HO_7.out).2.2 x9_1 p268 q268
 cases e268
 replace p268 := eq_true p268
 replace q268 := eq_true q268
 have p269 : 0 ≤ (x9_1 : Int) := of_decide_eq_true sqH
 have q269 : x9_1 < (t265.length : Int) := of_decide_eq_true sqH
 obtain ⟨ad269, e269, hx269_0, hx269_1, hx269_2, hx269_3⟩ := at_T34 (Kd.R_reads' HO_7.out).2.2 x9_1 p269 q269
 obtain rfl : ad268 = ad269 := (by injection e269)
 replace p269 := eq_true p269
 replace q269 := eq_true q269
 have p270 : 0 ≤ (x9_1 : Int) := of_decide_eq_true sqH
 have q270 : x9_1 < (t265.length : Int) := of_decide_eq_true sqH
 obtain ⟨ad270, e270, hx270_0, hx270_1, hx270_2, hx270_3⟩ := at_T34 (Kd.R_reads' HO_7.out).2.2 x9_1 p270 q270
 obtain rfl : ad268 = ad270 := (by injection e270)
 replace p270 := eq_true p270
 replace q270 := eq_true q270
 go_wp2_with (first | ((with_reducible refine gate_builtin (b := .append) (xs := #[.tmp 34, .tmp 39]) rfl ?_); at_builtin; refine Kd.R_append k34 (w0 := w) w.heap.size rfl (.tmp 34) (.tmp 39) 22 34 (.agg #[(.int .i64 0), (.int .i64 0), (.int .i64 0), (.string ⟨#[]⟩)]) 40 rfl Try.underlying22 info34 rfl (by decide) (by omega) u8 x8_1 (⟨(rd_T34 t265 x9_1).f0, (rd_T34 t265 x9_1).f1, (rd_T34 t265 x9_1).f2, (rd_T34 t265 x9_1).f3⟩ : S34) [.int .i64 ((rd_T34 t265 x9_1).f0), .int .i64 ((rd_T34 t265 x9_1).f1), .int .i64 ((rd_T34 t265 x9_1).f2), .string ((rd_T34 t265 x9_1).f3)] (fun k_ => some k_ ≠ (.slice (some ad268) t265.length co11 : Value).ownBlock) (fun _ => False) rfl rfl ?aP (fun _ hk => hk.elim) ?aF ?aO ?aB ?aS ?aL ?_; (case aP => exact k34_mkM _ _ _ (⟨(rd_T34 t265 x9_1).f0, (rd_T34 t265 x9_1).f1, (rd_T34 t265 x9_1).f2, (rd_T34 t265 x9_1).f3⟩ : S34)); (case aB => exact (sqB HB.out)); (case aF => exact (fun k_ hk => Kd.fresh' (Kd.R_lt (sqR HO_7.out)) k_ hk)); (case aO => exact (sqR HO_8.out)); (case aS => exact (below_size (sqB HB.out))); (case aL => have := LMc10.out; omega); intro v272 w12 ho hb hg hat; rw [← Ny271.out] at ho; have HO273 := sqM (ho); replace HO_7 := sqM (Kd.R_after (ok := (fun _ => True)) (by refine sqR ?_; exact Kd.R_mono HO_7.out (fun _ hk => ⟨trivial, hk⟩)) hg hat); replace HB := sqM (hb); clear HO_8; clear ho hb hg hat))
 go_roundg k1
 case measure => have := HK1.out; omega
 case rel => exact ⟨(y271), (wrap64 (x9_1 + 1)), sqI, H', ⟨by have := HK1.out; omega⟩, ⟨by refine sqR ?_; exact Kd.R_mono HO_7.out (fun _ hk => hk.2)⟩, ⟨sqR HO273.out⟩, ⟨sqB HB.out⟩⟩

/-! ### boarderref25_Counts: function 31 -/
def boarderref25_Counts.f (a0_0 : Int) (a0_1 : Int) (a0_2 : Int) (a0_3 : ByteArray) (a1 : Int) : Option (Bool) := if a0_1 = 2 then (some false) else (some (decide (a0_2 > a1)))
set_option maxHeartbeats 8000000 in
set_option maxRecDepth 100000 in
theorem boarderref25_Counts.calls (a0_0 : Int) (a0_1 : Int) (a0_2 : Int) (a0_3 : ByteArray) (a1 : Int) (r : Bool) (w : World) (h : boarderref25_Counts.f a0_0 a0_1 a0_2 a0_3 a1 = some r) :
    Calls Try.prog 31 #[.agg #[.int .i64 a0_0, .int .i64 a0_1, .int .i64 a0_2, .string a0_3], .int .i64 a1] w fun e w' => e = .returned (.bool r) ∧ Below w.heap.size w w' := by
 have hu34 := Try.underlying34
 have HB := Aside0.mk (Below.refl w.heap.size w)
 have H : (if a0_1 = 2 then (some false) else (some (decide (a0_2 > a1)))) = some r := h
 clear h
 by_cases c3 : a0_1 = 2
 rotate_left
 · rw [if_neg c3] at H
   have c3b0 : (a0_1 == 2) = false := beq_eq_false_iff_ne.mpr c3
   have c3b1 : (a0_1 != 2) = true := bne_iff_ne.mpr c3
   obtain rfl := Option.some.inj H
   go_enter Try.func31, Try.ntmps31
   go_wp2_with (first | ((with_reducible refine gate_dst (N := 2) rfl ?_); refine box_event rfl (N := 2) rfl (cs := #[.int .i64 a0_0, .int .i64 a0_1, .int .i64 a0_2, .string a0_3]) (t := 34) sqs ?_; intro gb279 hg w6 hbox hb; have BK279 := sqM (hbox); have GW279 := sqM (sqZ hg (sqB HB.out)); have GE279 := sqM (sqZ hg (sqB HB.out)); replace HB := sqM (below_step (sqB HB.out) hb); clear hb hbox hg; obtain ⟨hcz7_0, hcz7_1, hcz7_2, hcz7_3, hfz7_0, hfz7_1, hfz7_2, hfz7_3⟩ := sqF4 BK279.out))
   go_ret
   exact ⟨sqE, sqB1 HB.out GE279.out⟩
 rw [if_pos c3] at H
 have c3b0 : (a0_1 == 2) = true := beq_iff_eq.mpr c3
 have c3b1 : (a0_1 != 2) = false := bne_eq_false_iff_eq.mpr c3
 clear c3
 obtain rfl := Option.some.inj H
 go_enter Try.func31, Try.ntmps31
 go_wp2_with (first | ((with_reducible refine gate_dst (N := 2) rfl ?_); refine box_event rfl (N := 2) rfl (cs := #[.int .i64 a0_0, .int .i64 a0_1, .int .i64 a0_2, .string a0_3]) (t := 34) sqs ?_; intro gb279 hg w4 hbox hb; have BK279 := sqM (hbox); have GW279 := sqM (sqZ hg (sqB HB.out)); have GE279 := sqM (sqZ hg (sqB HB.out)); replace HB := sqM (below_step (sqB HB.out) hb); clear hb hbox hg; obtain ⟨hcz5_0, hcz5_1, hcz5_2, hcz5_3, hfz5_0, hfz5_1, hfz5_2, hfz5_3⟩ := sqF4 BK279.out))
 go_ret
 exact ⟨sqE, sqB1 HB.out GE279.out⟩

/-! ### boarderref25_Until: function 18 -/
def boarderref25_Until.f (k : Nat) (l0 : List (S34)) (a1 : Int) (a2 : Int) : Option (Int) := (boarderref12_Get.f k l0 a1).bind fun bt280 => (if bt280.2.2.2.2 = true then ((boarderref25_Counts.f bt280.1 bt280.2.1 bt280.2.2.1 bt280.2.2.2.1 a2).bind fun t286 => (if t286 = true then (some (wrap64 (bt280.2.2.1 - a2))) else (some 0))) else (some 0))
theorem boarderref25_Until.mono : ∀ a0 a1 a2 k, LeO (boarderref25_Until.f k a0 a1 a2) (boarderref25_Until.f (k + 1) a0 a1 a2) := by
 intro a0 a1 a2 k
 unfold boarderref25_Until.f
 repeat' first
  | (with_reducible exact boarderref12_Get.mono _ _ _)
  | (with_reducible exact LeO.refl _)
  | (with_reducible exact LeO.none _)
  | (with_reducible refine LeO.ite ?_ ?_)
  | (with_reducible refine LeO.bind ?_ (fun _ => ?_))
  | exact boarderref12_Get.mono _ _ _
  | exact LeO.none _
  | refine LeO.ite ?_ ?_
  | refine LeO.bind ?_ (fun _ => ?_)
set_option maxHeartbeats 8000000 in
set_option maxRecDepth 100000 in
theorem boarderref25_Until.calls (k : Nat) (A0 : Option Addr) (c0 : Nat) (l0 : List (S34)) (a1 : Int) (a2 : Int) (r : Int) (w : World) (hr0 : Kd.C k34 w A0 l0.length l0) (hc0 : l0.length ≤ c0) (h : boarderref25_Until.f k l0 a1 a2 = some r) :
    Calls Try.prog 18 #[.slice A0 l0.length c0, .int .i64 a1, .int .i64 a2] w fun e w' => e = .returned (.int .i64 r) ∧ Below w.heap.size w w' := by
 have hu34 := Try.underlying34
 have HR0 := Aside0.mk hr0
 have HC0 := Aside0.mk hc0
 clear hr0 hc0
 have HB := Aside0.mk (Below.refl w.heap.size w)
 have H : ((boarderref12_Get.f k l0 a1).bind fun bt280 => (if bt280.2.2.2.2 = true then ((boarderref25_Counts.f bt280.1 bt280.2.1 bt280.2.2.1 bt280.2.2.2.1 a2).bind fun t286 => (if t286 = true then (some (wrap64 (bt280.2.2.1 - a2))) else (some 0))) else (some 0))) = some r := h
 clear h
 replace H := Option.bind_eq_some_iff.mp H
 obtain ⟨⟨t280, t281, t282, t283, t284⟩, A40, H⟩ := H
 replace H : (if t284 = true then ((boarderref25_Counts.f t280 t281 t282 t283 a2).bind fun t286 => (if t286 = true then (some (wrap64 (t282 - a2))) else (some 0))) else (some 0)) = some r := H
 have A4 := Aside0.mk A40
 clear A40
 by_cases c5 : t284 = true
 rotate_left
 · replace c5 := Bool.eq_false_iff.mpr c5
   subst c5
   have H1 : (some 0) = some r := by rw [if_neg (show ¬ (false = true) by decide)] at H; exact H
   clear H
   have H := H1
   clear H1
   obtain rfl := Option.some.inj H
   go_enter Try.func18, Try.ntmps18
   go_wp2_with (first | ((with_reducible refine gate_callee (f := 19) rfl ?_); refine goesL_ (some 12) rfl rfl Try.func19 (by kernel_rfl) rfl #[.slice A0 l0.length c0, .int .i64 a1] rfl sqA ?_; (with_reducible refine (boarderref12_Get.calls _ _ _ _ _ _ _ _ _ _ _ ?side1 ?side2 A4.out).mono ?_); (case side1 => repeat (first | exact HR0.out | (with_reducible refine Kd.C_alloc ?_ _) | (with_reducible refine Kd.C_drewN ?_ _) | (with_reducible refine Kd.C_drew ?_))); (case side2 => exact HC0.out); rintro e w17 ⟨rfl, hb⟩; refine ⟨_, rfl, ?_⟩; replace HB := sqM (below_step (sqB HB.out) hb); (try clear hb); (try clear hb2); (try clear hk); (try clear hi)) | ((with_reducible refine gate_dst (N := 7) rfl ?_); refine box_event rfl (N := 7) rfl (cs := #[.int .i64 0, .int .i64 0, .int .i64 0, .string (⟨#[]⟩ : ByteArray)]) (t := 34) sqs ?_; intro gb285 hg w18 hbox hb; have BK285 := sqM (hbox); have GW285 := sqM (sqZ hg (sqB HB.out)); have GE285 := sqM (sqZ hg (sqB HB.out)); replace HB := sqM (below_step (sqB HB.out) hb); clear hb hbox hg; obtain ⟨hcz19_0, hcz19_1, hcz19_2, hcz19_3, hfz19_0, hfz19_1, hfz19_2, hfz19_3⟩ := sqF4 BK285.out))
   go_ret
   exact ⟨sqE, sqB1 HB.out GE285.out⟩
 subst c5
 have H1 : ((boarderref25_Counts.f t280 t281 t282 t283 a2).bind fun t286 => (if t286 = true then (some (wrap64 (t282 - a2))) else (some 0))) = some r := by rw [if_pos rfl] at H; exact H
 clear H
 have H := H1
 clear H1
 replace H := Option.bind_eq_some_iff.mp H
 obtain ⟨t286, A60, H⟩ := H
 replace H : (if t286 = true then (some (wrap64 (t282 - a2))) else (some 0)) = some r := H
 have A6 := Aside0.mk A60
 clear A60
 by_cases c7 : t286 = true
 · subst c7
   have H1 : (some (wrap64 (t282 - a2))) = some r := by rw [if_pos rfl] at H; exact H
   clear H
   have H := H1
   clear H1
   obtain rfl := Option.some.inj H
   go_enter Try.func18, Try.ntmps18
   go_wp2_with (first | ((with_reducible refine gate_callee (f := 19) rfl ?_); refine goesL_ (some 12) rfl rfl Try.func19 (by kernel_rfl) rfl #[.slice A0 l0.length c0, .int .i64 a1] rfl sqA ?_; (with_reducible refine (boarderref12_Get.calls _ _ _ _ _ _ _ _ _ _ _ ?side1 ?side2 A4.out).mono ?_); (case side1 => repeat (first | exact HR0.out | (with_reducible refine Kd.C_alloc ?_ _) | (with_reducible refine Kd.C_drewN ?_ _) | (with_reducible refine Kd.C_drew ?_))); (case side2 => exact HC0.out); rintro e w8 ⟨rfl, hb⟩; refine ⟨_, rfl, ?_⟩; replace HB := sqM (below_step (sqB HB.out) hb); (try clear hb); (try clear hb2); (try clear hk); (try clear hi)) | ((with_reducible refine gate_dst (N := 7) rfl ?_); refine box_event rfl (N := 7) rfl (cs := #[.int .i64 0, .int .i64 0, .int .i64 0, .string (⟨#[]⟩ : ByteArray)]) (t := 34) sqs ?_; intro gb285 hg w9 hbox hb; have BK285 := sqM (hbox); have GW285 := sqM (sqZ hg (sqB HB.out)); have GE285 := sqM (sqZ hg (sqB HB.out)); replace HB := sqM (below_step (sqB HB.out) hb); clear hb hbox hg; obtain ⟨hcz10_0, hcz10_1, hcz10_2, hcz10_3, hfz10_0, hfz10_1, hfz10_2, hfz10_3⟩ := sqF4 BK285.out) | (go_at_call 31; (with_reducible refine (boarderref25_Counts.calls _ _ _ _ _ _ _ A6.out).mono ?_); rintro e w11 ⟨rfl, hb⟩; replace BK285 := sqM (blk_below (sqP4 BK285.out) hb); replace HB := sqM (below_step (sqB1 HB.out GE285.out) hb); (try clear hb); (try clear hb2); (try clear hk); (try clear hi); obtain ⟨hcz12_0, hcz12_1, hcz12_2, hcz12_3, hfz12_0, hfz12_1, hfz12_2, hfz12_3⟩ := sqF4 BK285.out))
   go_ret
   exact ⟨sqE, sqB1 HB.out GE285.out⟩
 replace c7 := Bool.eq_false_iff.mpr c7
 subst c7
 have H1 : (some 0) = some r := by rw [if_neg (show ¬ (false = true) by decide)] at H; exact H
 clear H
 have H := H1
 clear H1
 obtain rfl := Option.some.inj H
 go_enter Try.func18, Try.ntmps18
 go_wp2_with (first | ((with_reducible refine gate_callee (f := 19) rfl ?_); refine goesL_ (some 12) rfl rfl Try.func19 (by kernel_rfl) rfl #[.slice A0 l0.length c0, .int .i64 a1] rfl sqA ?_; (with_reducible refine (boarderref12_Get.calls _ _ _ _ _ _ _ _ _ _ _ ?side1 ?side2 A4.out).mono ?_); (case side1 => repeat (first | exact HR0.out | (with_reducible refine Kd.C_alloc ?_ _) | (with_reducible refine Kd.C_drewN ?_ _) | (with_reducible refine Kd.C_drew ?_))); (case side2 => exact HC0.out); rintro e w13 ⟨rfl, hb⟩; refine ⟨_, rfl, ?_⟩; replace HB := sqM (below_step (sqB HB.out) hb); (try clear hb); (try clear hb2); (try clear hk); (try clear hi)) | ((with_reducible refine gate_dst (N := 7) rfl ?_); refine box_event rfl (N := 7) rfl (cs := #[.int .i64 0, .int .i64 0, .int .i64 0, .string (⟨#[]⟩ : ByteArray)]) (t := 34) sqs ?_; intro gb285 hg w14 hbox hb; have BK285 := sqM (hbox); have GW285 := sqM (sqZ hg (sqB HB.out)); have GE285 := sqM (sqZ hg (sqB HB.out)); replace HB := sqM (below_step (sqB HB.out) hb); clear hb hbox hg; obtain ⟨hcz15_0, hcz15_1, hcz15_2, hcz15_3, hfz15_0, hfz15_1, hfz15_2, hfz15_3⟩ := sqF4 BK285.out) | (go_at_call 31; (with_reducible refine (boarderref25_Counts.calls _ _ _ _ _ _ _ A6.out).mono ?_); rintro e w16 ⟨rfl, hb⟩; replace BK285 := sqM (blk_below (sqP4 BK285.out) hb); replace HB := sqM (below_step (sqB1 HB.out GE285.out) hb); (try clear hb); (try clear hb2); (try clear hk); (try clear hi)))
 go_ret
 exact ⟨sqE, sqB1 HB.out GE285.out⟩

/-! ### boarderlaw25_QueueSays: function 4 -/
def boarderlaw25_QueueSays.f (k : Nat) (l0 : List (S34)) (a1 : Int) (a2 : Int) (a3 : Int) : Option (Bool) := (boarderlaw12_Great.f k l0).bind fun t287 => (if t287 = true then ((boarderlaw25_knows.f k).bind fun t288 => (some t288)) else ((queue_Next.f k l0 a1).bind fun bt289 => ((boarderref25_Next.f k l0 a1).bind fun bt291 => (if bt289.1 = bt291.1 then (if (bt289.2 == bt291.2) = true then ((queue_Ended.f k l0 a1 a2).bind fun t293 => ((boarderref25_Ended.f k l0 a1 a2).bind fun t296 => ((boarderref10_SameLeases.f k t293 t296).bind fun t299 => (if t299 = true then ((queue_Until.f k l0 a3 a1).bind fun t300 => ((boarderref25_Until.f k l0 a3 a1).bind fun t301 => (if t300 = t301 then ((boarderlaw25_knows.f k).bind fun t302 => (some t302)) else (none)))) else (none))))) else (none)) else (none)))))
theorem boarderlaw25_QueueSays.mono : ∀ a0 a1 a2 a3 k, LeO (boarderlaw25_QueueSays.f k a0 a1 a2 a3) (boarderlaw25_QueueSays.f (k + 1) a0 a1 a2 a3) := by
 intro a0 a1 a2 a3 k
 unfold boarderlaw25_QueueSays.f
 repeat' first
  | (with_reducible exact boarderlaw12_Great.mono _ _)
  | (with_reducible exact boarderlaw25_knows.mono _)
  | (with_reducible exact boarderref10_SameLeases.mono _ _ _)
  | (with_reducible exact boarderref25_Ended.mono _ _ _ _)
  | (with_reducible exact boarderref25_Next.mono _ _ _)
  | (with_reducible exact boarderref25_Until.mono _ _ _ _)
  | (with_reducible exact queue_Ended.mono _ _ _ _)
  | (with_reducible exact queue_Next.mono _ _ _)
  | (with_reducible exact queue_Until.mono _ _ _ _)
  | (with_reducible exact LeO.refl _)
  | (with_reducible exact LeO.none _)
  | (with_reducible refine LeO.ite ?_ ?_)
  | (with_reducible refine LeO.bind ?_ (fun _ => ?_))
  | exact boarderlaw12_Great.mono _ _
  | exact boarderlaw25_knows.mono _
  | exact boarderref10_SameLeases.mono _ _ _
  | exact boarderref25_Ended.mono _ _ _ _
  | exact boarderref25_Next.mono _ _ _
  | exact boarderref25_Until.mono _ _ _ _
  | exact queue_Ended.mono _ _ _ _
  | exact queue_Next.mono _ _ _
  | exact queue_Until.mono _ _ _ _
  | exact LeO.none _
  | refine LeO.ite ?_ ?_
  | refine LeO.bind ?_ (fun _ => ?_)
set_option maxHeartbeats 8000000 in
set_option maxRecDepth 100000 in
theorem boarderlaw25_QueueSays.calls (k : Nat) (A0 : Option Addr) (c0 : Nat) (l0 : List (S34)) (a1 : Int) (a2 : Int) (a3 : Int) (r : Bool) (w : World) (hr0 : Kd.C k34 w A0 l0.length l0) (hc0 : l0.length ≤ c0) (h : boarderlaw25_QueueSays.f k l0 a1 a2 a3 = some r) :
    Calls Try.prog 4 #[.slice A0 l0.length c0, .int .i64 a1, .int .i64 a2, .int .i64 a3] w fun e w' => e = .returned (.bool r) ∧ Below w.heap.size w w' := by
 have HR0 := Aside0.mk hr0
 have HC0 := Aside0.mk hc0
 clear hr0 hc0
 have HB := Aside0.mk (Below.refl w.heap.size w)
 have H : ((boarderlaw12_Great.f k l0).bind fun t287 => (if t287 = true then ((boarderlaw25_knows.f k).bind fun t288 => (some t288)) else ((queue_Next.f k l0 a1).bind fun bt289 => ((boarderref25_Next.f k l0 a1).bind fun bt291 => (if bt289.1 = bt291.1 then (if (bt289.2 == bt291.2) = true then ((queue_Ended.f k l0 a1 a2).bind fun t293 => ((boarderref25_Ended.f k l0 a1 a2).bind fun t296 => ((boarderref10_SameLeases.f k t293 t296).bind fun t299 => (if t299 = true then ((queue_Until.f k l0 a3 a1).bind fun t300 => ((boarderref25_Until.f k l0 a3 a1).bind fun t301 => (if t300 = t301 then ((boarderlaw25_knows.f k).bind fun t302 => (some t302)) else (none)))) else (none))))) else (none)) else (none)))))) = some r := h
 clear h
 replace H := Option.bind_eq_some_iff.mp H
 obtain ⟨t287, A50, H⟩ := H
 replace H : (if t287 = true then ((boarderlaw25_knows.f k).bind fun t288 => (some t288)) else ((queue_Next.f k l0 a1).bind fun bt289 => ((boarderref25_Next.f k l0 a1).bind fun bt291 => (if bt289.1 = bt291.1 then (if (bt289.2 == bt291.2) = true then ((queue_Ended.f k l0 a1 a2).bind fun t293 => ((boarderref25_Ended.f k l0 a1 a2).bind fun t296 => ((boarderref10_SameLeases.f k t293 t296).bind fun t299 => (if t299 = true then ((queue_Until.f k l0 a3 a1).bind fun t300 => ((boarderref25_Until.f k l0 a3 a1).bind fun t301 => (if t300 = t301 then ((boarderlaw25_knows.f k).bind fun t302 => (some t302)) else (none)))) else (none))))) else (none)) else (none))))) = some r := H
 have A5 := Aside0.mk A50
 clear A50
 by_cases c6 : t287 = true
 · subst c6
   have H1 : ((boarderlaw25_knows.f k).bind fun t288 => (some t288)) = some r := by rw [if_pos rfl] at H; exact H
   clear H
   have H := H1
   clear H1
   replace H := Option.bind_eq_some_iff.mp H
   obtain ⟨t288, A70, H⟩ := H
   replace H : (some t288) = some r := H
   have A7 := Aside0.mk A70
   clear A70
   obtain rfl := Option.some.inj H
   go_enter Try.func4, Try.ntmps4
   go_wp2_with (first | ((with_reducible refine gate_callee (f := 8) rfl ?_); refine goesL_ (some 14) rfl rfl Try.func8 (by kernel_rfl) rfl #[.slice A0 l0.length c0] rfl sqA ?_; (with_reducible refine (boarderlaw12_Great.calls _ _ _ _ _ _ ?side1 ?side2 A5.out).mono ?_); (case side1 => repeat (first | exact HR0.out | (with_reducible refine Kd.C_alloc ?_ _) | (with_reducible refine Kd.C_drewN ?_ _) | (with_reducible refine Kd.C_drew ?_))); (case side2 => exact HC0.out); rintro e w' ⟨rfl, ⟨nd, rfl⟩⟩; refine ⟨_, rfl, ?_⟩) | ((with_reducible refine gate_callee (f := 9) rfl ?_); refine goesL_ (some 15) rfl rfl Try.func9 (by kernel_rfl) rfl #[] rfl sqA ?_; (with_reducible refine (boarderlaw25_knows.calls k  t288 _ A7.out).mono ?_); rintro e w8 ⟨rfl, hb⟩; refine ⟨_, rfl, ?_⟩; replace HB := sqM (below_step (sqB HB.out) hb); (try clear hb); (try clear hb2); (try clear hk); (try clear hi)))
   go_ret
   exact ⟨sqE, sqB HB.out⟩
 replace c6 := Bool.eq_false_iff.mpr c6
 subst c6
 have H1 : ((queue_Next.f k l0 a1).bind fun bt289 => ((boarderref25_Next.f k l0 a1).bind fun bt291 => (if bt289.1 = bt291.1 then (if (bt289.2 == bt291.2) = true then ((queue_Ended.f k l0 a1 a2).bind fun t293 => ((boarderref25_Ended.f k l0 a1 a2).bind fun t296 => ((boarderref10_SameLeases.f k t293 t296).bind fun t299 => (if t299 = true then ((queue_Until.f k l0 a3 a1).bind fun t300 => ((boarderref25_Until.f k l0 a3 a1).bind fun t301 => (if t300 = t301 then ((boarderlaw25_knows.f k).bind fun t302 => (some t302)) else (none)))) else (none))))) else (none)) else (none)))) = some r := by rw [if_neg (show ¬ (false = true) by decide)] at H; exact H
 clear H
 have H := H1
 clear H1
 replace H := Option.bind_eq_some_iff.mp H
 obtain ⟨⟨t289, t290⟩, A90, H⟩ := H
 replace H : ((boarderref25_Next.f k l0 a1).bind fun bt291 => (if t289 = bt291.1 then (if (t290 == bt291.2) = true then ((queue_Ended.f k l0 a1 a2).bind fun t293 => ((boarderref25_Ended.f k l0 a1 a2).bind fun t296 => ((boarderref10_SameLeases.f k t293 t296).bind fun t299 => (if t299 = true then ((queue_Until.f k l0 a3 a1).bind fun t300 => ((boarderref25_Until.f k l0 a3 a1).bind fun t301 => (if t300 = t301 then ((boarderlaw25_knows.f k).bind fun t302 => (some t302)) else (none)))) else (none))))) else (none)) else (none))) = some r := H
 have A9 := Aside0.mk A90
 clear A90
 replace H := Option.bind_eq_some_iff.mp H
 obtain ⟨⟨t291, t292⟩, A100, H⟩ := H
 replace H : (if t289 = t291 then (if (t290 == t292) = true then ((queue_Ended.f k l0 a1 a2).bind fun t293 => ((boarderref25_Ended.f k l0 a1 a2).bind fun t296 => ((boarderref10_SameLeases.f k t293 t296).bind fun t299 => (if t299 = true then ((queue_Until.f k l0 a3 a1).bind fun t300 => ((boarderref25_Until.f k l0 a3 a1).bind fun t301 => (if t300 = t301 then ((boarderlaw25_knows.f k).bind fun t302 => (some t302)) else (none)))) else (none))))) else (none)) else (none)) = some r := H
 have A10 := Aside0.mk A100
 clear A100
 by_cases c11 : t289 = t291
 rotate_left
 · rw [if_neg c11] at H
   exact absurd H (by simp)
 rw [if_pos c11] at H
 have c11b0 : (t289 == t291) = true := beq_iff_eq.mpr c11
 have c11b1 : (t289 != t291) = false := bne_eq_false_iff_eq.mpr c11
 clear c11
 by_cases c12 : (t290 == t292) = true
 rotate_left
 · rw [if_neg c12] at H
   exact absurd H (by simp)
 rw [if_pos c12] at H
 have c12b0 : (t290 == t292) = true := c12
 (try (have c12b1 : decide (t290 = t292) = true := by simpa using c12))
 (try (have c12b2 : (t290 == t292) = true := by simpa using c12))
 clear c12
 replace H := Option.bind_eq_some_iff.mp H
 obtain ⟨t293, A130, H⟩ := H
 replace H : ((boarderref25_Ended.f k l0 a1 a2).bind fun t296 => ((boarderref10_SameLeases.f k t293 t296).bind fun t299 => (if t299 = true then ((queue_Until.f k l0 a3 a1).bind fun t300 => ((boarderref25_Until.f k l0 a3 a1).bind fun t301 => (if t300 = t301 then ((boarderlaw25_knows.f k).bind fun t302 => (some t302)) else (none)))) else (none)))) = some r := H
 have A13 := Aside0.mk A130
 clear A130
 replace H := Option.bind_eq_some_iff.mp H
 obtain ⟨t296, A140, H⟩ := H
 replace H : ((boarderref10_SameLeases.f k t293 t296).bind fun t299 => (if t299 = true then ((queue_Until.f k l0 a3 a1).bind fun t300 => ((boarderref25_Until.f k l0 a3 a1).bind fun t301 => (if t300 = t301 then ((boarderlaw25_knows.f k).bind fun t302 => (some t302)) else (none)))) else (none))) = some r := H
 have A14 := Aside0.mk A140
 clear A140
 replace H := Option.bind_eq_some_iff.mp H
 obtain ⟨t299, A150, H⟩ := H
 replace H : (if t299 = true then ((queue_Until.f k l0 a3 a1).bind fun t300 => ((boarderref25_Until.f k l0 a3 a1).bind fun t301 => (if t300 = t301 then ((boarderlaw25_knows.f k).bind fun t302 => (some t302)) else (none)))) else (none)) = some r := H
 have A15 := Aside0.mk A150
 clear A150
 by_cases c16 : t299 = true
 rotate_left
 · replace c16 := Bool.eq_false_iff.mpr c16
   subst c16
   have H1 : (none) = some r := by rw [if_neg (show ¬ (false = true) by decide)] at H; exact H
   clear H
   have H := H1
   clear H1
   exact absurd H (by simp)
 subst c16
 have H1 : ((queue_Until.f k l0 a3 a1).bind fun t300 => ((boarderref25_Until.f k l0 a3 a1).bind fun t301 => (if t300 = t301 then ((boarderlaw25_knows.f k).bind fun t302 => (some t302)) else (none)))) = some r := by rw [if_pos rfl] at H; exact H
 clear H
 have H := H1
 clear H1
 replace H := Option.bind_eq_some_iff.mp H
 obtain ⟨t300, A170, H⟩ := H
 replace H : ((boarderref25_Until.f k l0 a3 a1).bind fun t301 => (if t300 = t301 then ((boarderlaw25_knows.f k).bind fun t302 => (some t302)) else (none))) = some r := H
 have A17 := Aside0.mk A170
 clear A170
 replace H := Option.bind_eq_some_iff.mp H
 obtain ⟨t301, A180, H⟩ := H
 replace H : (if t300 = t301 then ((boarderlaw25_knows.f k).bind fun t302 => (some t302)) else (none)) = some r := H
 have A18 := Aside0.mk A180
 clear A180
 by_cases c19 : t300 = t301
 rotate_left
 · rw [if_neg c19] at H
   exact absurd H (by simp)
 rw [if_pos c19] at H
 have c19b0 : (t300 == t301) = true := beq_iff_eq.mpr c19
 have c19b1 : (t300 != t301) = false := bne_eq_false_iff_eq.mpr c19
 clear c19
 replace H := Option.bind_eq_some_iff.mp H
 obtain ⟨t302, A200, H⟩ := H
 replace H : (some t302) = some r := H
 have A20 := Aside0.mk A200
 clear A200
 obtain rfl := Option.some.inj H
 go_enter Try.func4, Try.ntmps4
 go_wp2_with (first | ((with_reducible refine gate_callee (f := 8) rfl ?_); refine goesL_ (some 14) rfl rfl Try.func8 (by kernel_rfl) rfl #[.slice A0 l0.length c0] rfl sqA ?_; (with_reducible refine (boarderlaw12_Great.calls _ _ _ _ _ _ ?side1 ?side2 A5.out).mono ?_); (case side1 => repeat (first | exact HR0.out | (with_reducible refine Kd.C_alloc ?_ _) | (with_reducible refine Kd.C_drewN ?_ _) | (with_reducible refine Kd.C_drew ?_))); (case side2 => exact HC0.out); rintro e w' ⟨rfl, ⟨nd, rfl⟩⟩; refine ⟨_, rfl, ?_⟩) | ((with_reducible refine gate_callee (f := 13) rfl ?_); refine goesL_ (some 19) rfl rfl Try.func13 (by kernel_rfl) rfl #[.slice A0 l0.length c0, .int .i64 a1] rfl sqA ?_; (with_reducible refine (queue_Next.calls _ _ _ _ _ _ _ _ ?side1 ?side2 A9.out).mono ?_); (case side1 => repeat (first | exact HR0.out | (with_reducible refine Kd.C_alloc ?_ _) | (with_reducible refine Kd.C_drewN ?_ _) | (with_reducible refine Kd.C_drew ?_))); (case side2 => exact HC0.out); rintro e w21 ⟨rfl, hb⟩; refine ⟨_, rfl, ?_⟩; replace HB := sqM (below_step (sqB HB.out) hb); (try clear hb); (try clear hb2); (try clear hk); (try clear hi)) | ((with_reducible refine gate_callee (f := 14) rfl ?_); refine goesL_ (some 25) rfl rfl Try.func14 (by kernel_rfl) rfl #[.slice A0 l0.length c0, .int .i64 a1] rfl sqA ?_; (with_reducible refine (boarderref25_Next.calls _ _ _ _ _ _ _ _ ?side1 ?side2 A10.out).mono ?_); (case side1 => repeat (first | exact (Kd.C_below HR0.out HB.out) | (with_reducible refine Kd.C_alloc ?_ _) | (with_reducible refine Kd.C_drewN ?_ _) | (with_reducible refine Kd.C_drew ?_))); (case side2 => exact HC0.out); rintro e w22 ⟨rfl, hb⟩; refine ⟨_, rfl, ?_⟩; replace HB := sqM (below_step (sqB HB.out) hb); (try clear hb); (try clear hb2); (try clear hk); (try clear hi)) | (go_at_call 15; (with_reducible refine (queue_Ended.calls _ _ _ _ _ _ _ _ ?side1 ?side2 A13.out).mono ?_); (case side1 => repeat (first | exact (Kd.C_below HR0.out HB.out) | (with_reducible refine Kd.C_alloc ?_ _) | (with_reducible refine Kd.C_drewN ?_ _) | (with_reducible refine Kd.C_drew ?_))); (case side2 => exact HC0.out); rintro e w23 ⟨v294, rfl, ho0, hb⟩; have HO295 := sqM (Kd.R_lower ho0 (below_size (sqB HB.out))); replace HB := sqM (below_step (sqB HB.out) hb); (try clear hb); (try clear hb2); (try clear hk); (try clear hi); (try clear ho0)) | (go_at_call 16; (with_reducible refine (boarderref25_Ended.calls _ _ _ _ _ _ _ _ ?side1 ?side2 A14.out).mono ?_); (case side1 => repeat (first | exact (Kd.C_below HR0.out HB.out) | (with_reducible refine Kd.C_alloc ?_ _) | (with_reducible refine Kd.C_drewN ?_ _) | (with_reducible refine Kd.C_drew ?_))); (case side2 => exact HC0.out); rintro e w24 ⟨v297, rfl, ho0, hb⟩; have HO298 := sqM (Kd.R_lower (Kd.R_new' ho0 (Kd.R_lt (sqR HO295.out))) (below_size (sqB HB.out))); replace HO295 := sqM (Kd.R_elder' (sqR HO295.out) (Kd.R_base ho0) hb); replace HB := sqM (below_step (sqB HB.out) hb); (try clear hb); (try clear hb2); (try clear hk); (try clear hi); (try clear ho0); obtain ⟨Ao25, co25, eo25⟩ := Kd.R_slice HO295.out; subst eo25; obtain ⟨Ao26, co26, eo26⟩ := Kd.R_slice HO298.out; subst eo26) | (go_at_call 10; (with_reducible refine (boarderref10_SameLeases.calls _ _ _ _ _ _ _ _ _ ?side1 ?side2 ?side3 ?side4 A15.out).mono ?_); (case side1 => repeat (first | exact (Kd.R_reads' HO295.out).2.2 | (with_reducible refine Kd.C_alloc ?_ _) | (with_reducible refine Kd.C_drewN ?_ _) | (with_reducible refine Kd.C_drew ?_))); (case side2 => exact (Kd.R_reads' HO295.out).2.1); (case side3 => repeat (first | exact (Kd.R_reads' HO298.out).2.2 | (with_reducible refine Kd.C_alloc ?_ _) | (with_reducible refine Kd.C_drewN ?_ _) | (with_reducible refine Kd.C_drew ?_))); (case side4 => exact (Kd.R_reads' HO298.out).2.1); rintro e w' ⟨rfl, ⟨nd, rfl⟩⟩) | (go_at_call 17; (with_reducible refine (queue_Until.calls _ _ _ _ _ _ _ _ ?side1 ?side2 A17.out).mono ?_); (case side1 => repeat (first | exact (Kd.C_below HR0.out (sqB HB.out)) | (with_reducible refine Kd.C_alloc ?_ _) | (with_reducible refine Kd.C_drewN ?_ _) | (with_reducible refine Kd.C_drew ?_))); (case side2 => exact HC0.out); rintro e w27 ⟨rfl, hb⟩; replace HO295 := sqM (Kd.R_below (sqR HO295.out) hb); replace HO298 := sqM (Kd.R_below (sqR HO298.out) hb); replace HB := sqM (below_step (sqB HB.out) hb); (try clear hb); (try clear hb2); (try clear hk); (try clear hi)) | (go_at_call 18; (with_reducible refine (boarderref25_Until.calls _ _ _ _ _ _ _ _ ?side1 ?side2 A18.out).mono ?_); (case side1 => repeat (first | exact (Kd.C_below HR0.out HB.out) | (with_reducible refine Kd.C_alloc ?_ _) | (with_reducible refine Kd.C_drewN ?_ _) | (with_reducible refine Kd.C_drew ?_))); (case side2 => exact HC0.out); rintro e w28 ⟨rfl, hb⟩; replace HO295 := sqM (Kd.R_below (sqR HO295.out) hb); replace HO298 := sqM (Kd.R_below (sqR HO298.out) hb); replace HB := sqM (below_step (sqB HB.out) hb); (try clear hb); (try clear hb2); (try clear hk); (try clear hi)) | (go_at_call 9; (with_reducible refine (boarderlaw25_knows.calls k  t302 _ A20.out).mono ?_); rintro e w29 ⟨rfl, hb⟩; replace HO295 := sqM (Kd.R_below (sqR HO295.out) hb); replace HO298 := sqM (Kd.R_below (sqR HO298.out) hb); replace HB := sqM (below_step (sqB HB.out) hb); (try clear hb); (try clear hb2); (try clear hk); (try clear hi)))
 go_ret
 exact ⟨sqE, sqB HB.out⟩

end Go.Proofs.Ytkjmfnijagdhpaa.PQueue
