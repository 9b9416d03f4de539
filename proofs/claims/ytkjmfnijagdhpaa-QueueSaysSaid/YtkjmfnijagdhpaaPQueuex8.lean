/- Lean functions for Go functions of the given program, and proofs that the code computes them, each under its theorem's own conditions. Written by a program of this session. -/
import Derived.Test.YtkjmfnijagdhpaaPQueuex0
import Derived.Test.YtkjmfnijagdhpaaPQueuex6
namespace Go.Proofs.Ytkjmfnijagdhpaa.PQueue
open Go.RowKit Go.Proofs.YtkjmfnijagdhpaaW.PrintWords Go.Proofs.YtkjmfnijagdhpaaW.PrintLast Go.Proofs.YtkjmfnijagdhpaaW.PrintMore
attribute [local go_sem] max2_int min2_int max_two min_two max_three min_three max_four min_four   -- for this text's walks alone
set_option linter.unusedVariables false
set_option linter.unusedSimpArgs false

/-! ### boarderref12_Get: function 19 -/
def boarderref12_Get.l0 : Nat → List (S34) → Int → Int → Option (Int × Int × Int × ByteArray × Bool)
  | 0, _, _, _ => none
  | k + 1, x0, x1, x6 => if x6 < (x0.length : Int) then (if 0 ≤ x6 then (if ((rd_T34 x0 x6).f0) = x1 then (some ((rd_T34 x0 x6).f0, (rd_T34 x0 x6).f1, (rd_T34 x0 x6).f2, (rd_T34 x0 x6).f3, true)) else (boarderref12_Get.l0 k x0 x1 (wrap64 (x6 + 1)))) else (none)) else (some (0, 0, 0, (⟨#[]⟩ : ByteArray), false))
def boarderref12_Get.f (k : Nat) (l0 : List (S34)) (a1 : Int) : Option (Int × Int × Int × ByteArray × Bool) := (boarderref12_Good.f k l0).bind fun t276 => (boarderref12_Get.l0 k t276 a1 0)
theorem boarderref12_Get.mono_l : ∀ k, (∀ y0 y1 y2, LeO (boarderref12_Get.l0 k y0 y1 y2) (boarderref12_Get.l0 (k + 1) y0 y1 y2))
  | 0 => fun _ _ _ r h => by simp [boarderref12_Get.l0] at h
  | k + 1 => by
    have ih0 := boarderref12_Get.mono_l k
    · intro y0 y1 y2
      unfold boarderref12_Get.l0
      repeat' first
      | (with_reducible exact ih0 _ _ _)
      | (with_reducible exact boarderref12_Good.mono _ _)
      | (with_reducible exact LeO.refl _)
      | (with_reducible exact LeO.none _)
      | (with_reducible refine LeO.ite ?_ ?_)
      | (with_reducible refine LeO.bind ?_ (fun _ => ?_))
      | exact ih0 _ _ _
      | exact boarderref12_Good.mono _ _
      | exact LeO.none _
      | refine LeO.ite ?_ ?_
      | refine LeO.bind ?_ (fun _ => ?_)
theorem boarderref12_Get.mono : ∀ a0 a1 k, LeO (boarderref12_Get.f k a0 a1) (boarderref12_Get.f (k + 1) a0 a1) := by
 intro a0 a1 k
 have ih0 := boarderref12_Get.mono_l k
 unfold boarderref12_Get.f
 repeat' first
  | (with_reducible exact ih0 _ _ _)
  | (with_reducible exact boarderref12_Good.mono _ _)
  | (with_reducible exact LeO.refl _)
  | (with_reducible exact LeO.none _)
  | (with_reducible refine LeO.ite ?_ ?_)
  | (with_reducible refine LeO.bind ?_ (fun _ => ?_))
  | exact ih0 _ _ _
  | exact boarderref12_Good.mono _ _
  | exact LeO.none _
  | refine LeO.ite ?_ ?_
  | refine LeO.bind ?_ (fun _ => ?_)
set_option maxHeartbeats 8000000 in
set_option maxRecDepth 100000 in
theorem boarderref12_Get.calls (k : Nat) (A0 : Option Addr) (c0 : Nat) (l0 : List (S34)) (a1 : Int) (r1 : Int) (r2 : Int) (r3 : Int) (r4 : ByteArray) (r5 : Bool) (w : World) (hr0 : Kd.C k34 w A0 l0.length l0) (hc0 : l0.length ≤ c0) (h : boarderref12_Get.f k l0 a1 = some (r1, r2, r3, r4, r5)) :
    Calls Try.prog 19 #[.slice A0 l0.length c0, .int .i64 a1] w fun e w' => e = .returned (.tuple #[.agg #[.int .i64 r1, .int .i64 r2, .int .i64 r3, .string r4], .bool r5]) ∧ Below w.heap.size w w' := by
 have hu34 := Try.underlying34
 have HR0 := Aside0.mk hr0
 have HC0 := Aside0.mk hc0
 clear hr0 hc0
 have HB := Aside0.mk (Below.refl w.heap.size w)
 have H : ((boarderref12_Good.f k l0).bind fun t276 => (boarderref12_Get.l0 k t276 a1 0)) = some (r1, r2, r3, r4, r5) := h
 clear h
 replace H := Option.bind_eq_some_iff.mp H
 obtain ⟨t276, A30, H⟩ := H
 replace H : (boarderref12_Get.l0 k t276 a1 0) = some (r1, r2, r3, r4, r5) := H
 have A3 := Aside0.mk A30
 clear A30
 have H' := Aside0.mk H
 clear H
 go_enter Try.func19, Try.ntmps19
 go_wp2_with (first | ((with_reducible refine gate_dst (N := 4) rfl ?_); refine box_event rfl (N := 4) rfl (cs := #[.int .i64 0, .int .i64 0, .int .i64 0, .string (⟨#[]⟩ : ByteArray)]) (t := 34) sqs ?_; intro gb274 hg w4 hbox hb; have BK274 := sqM (hbox); have GW274 := sqM (sqZ hg (sqB HB.out)); have GE274 := sqM (sqZ hg (sqB HB.out)); replace HB := sqM (below_step (sqB HB.out) hb); clear hb hbox hg) | ((with_reducible refine gate_callee (f := 25) rfl ?_); refine goesL_ (some 8) rfl rfl Try.func25 (by kernel_rfl) rfl #[.slice A0 l0.length c0] rfl sqA ?_; (with_reducible refine (boarderref12_Good.calls _ _ _ _ _ _ ?side1 ?side2 A3.out).mono ?_); (case side1 => repeat (first | exact (Kd.C_below HR0.out HB.out) | (with_reducible refine Kd.C_alloc ?_ _) | (with_reducible refine Kd.C_drewN ?_ _) | (with_reducible refine Kd.C_drew ?_))); (case side2 => exact HC0.out); rintro e w5 ⟨An275, cn275, rfl, hri_, hci_, hb⟩; refine ⟨_, rfl, ?_⟩; have HRn275 := sqM (hri_ _ HR0.out); have HCn275 := sqM hci_; clear hri_ hci_; replace BK274 := sqM (blk_below (sqK BK274.out) hb); replace HB := sqM (below_step (sqB1 HB.out GE274.out) hb); (try clear hb); (try clear hb2); (try clear hk); (try clear hi)))
 go_loopg [6] k (fun kq v6 w' => ∃ (x6_1 : Int) (x275000_1 : Int) (x275001_1 : Int) (x275002_1 : Int) (x275003_1 : ByteArray), v6 = .int .i64 x6_1 ∧ Aside0 (boarderref12_Get.l0 kq t276 a1 x6_1 = some (r1, r2, r3, r4, r5)) ∧ Aside0 (kq ≤ k) ∧ Aside0 (w'.heap[gb274]? = some (.cells #[.int .i64 x275000_1, .int .i64 x275001_1, .int .i64 x275002_1, .string x275003_1] 34 (0, 0))) ∧ Aside0 (Below w.heap.size w w'))
 case atStart => exact ⟨(0), (0), (0), (0), ((⟨#[]⟩ : ByteArray)), sqI, H', ⟨Nat.le_refl _⟩, ⟨sqK BK274.out⟩, ⟨sqB1 HB.out GE274.out⟩⟩
 clear H'
 try clear c1
 try clear c2
 try clear p2
 obtain ⟨x6_1, x275000_1, x275001_1, x275002_1, x275003_1, rfl, HA, HK1, BK274, HB⟩ := hrel
 cases gk with
 | zero => exact absurd HA.out (by simp [boarderref12_Get.l0])
 | succ k1 => ?_
 have H := HA.out
 clear HA
 simp only [boarderref12_Get.l0] at H
 by_cases c6 : x6_1 < (t276.length : Int)
 rotate_left
 · rw [if_neg c6] at H
   have c6b0 : decide (x6_1 < (t276.length : Int)) = false := decide_eq_false c6
   clear c6
   simp only [Option.some.injEq, Prod.mk.injEq] at H
   obtain ⟨rfl, rfl, rfl, rfl, rfl⟩ := H
   obtain ⟨hcz10_0, hcz10_1, hcz10_2, hcz10_3, hfz10_0, hfz10_1, hfz10_2, hfz10_3⟩ := sqF4 BK274.out
   go_wp2
   refine bodyPost_ret (results_ct rfl _ _ gb274 34 #[.int .i64 0, .int .i64 0, .int .i64 0, .string (⟨#[]⟩ : ByteArray)] (0, 0) _ rfl (by exact (sqP4 BK274.out)) Try.underlying34 rfl (by kernel_rfl)) rfl ?_
   exact ⟨sqE, sqB1 HB.out GE274.out⟩
 rw [if_pos c6] at H
 have c6b0 : decide (x6_1 < (t276.length : Int)) = true := decide_eq_true c6
 clear c6
 by_cases c7 : 0 ≤ x6_1
 rotate_left
 · rw [if_neg c7] at H
   exact absurd H (by simp)
 rw [if_pos c7] at H
 have c7b0 : decide (0 ≤ x6_1) = true := decide_eq_true c7
 clear c7
 by_cases c8 : ((rd_T34 t276 x6_1).f0) = a1
 rotate_left
 · rw [if_neg c8] at H
   have c8b0 : (((rd_T34 t276 x6_1).f0) == a1) = false := beq_eq_false_iff_ne.mpr c8
   have c8b1 : (((rd_T34 t276 x6_1).f0) != a1) = true := bne_iff_ne.mpr c8
   have H' := Aside0.mk H
   clear H
   have p277 : 0 ≤ (x6_1 : Int) := of_decide_eq_true sqH
   have q277 : x6_1 < (t276.length : Int) := of_decide_eq_true sqH
   obtain ⟨ad277, e277, hx277_0, hx277_1, hx277_2, hx277_3⟩ := at_T34 HRn275.out x6_1 p277 q277
   cases e277
   replace hx277_0 := sqx HB.out hx277_0
   replace hx277_1 := sqx HB.out hx277_1
   replace hx277_2 := sqx HB.out hx277_2
   replace hx277_3 := sqx HB.out hx277_3
   replace p277 := eq_true p277
   replace q277 := eq_true q277
   go_wp2
   go_roundg k1
   case measure => have := HK1.out; omega
   case rel => exact ⟨(wrap64 (x6_1 + 1)), (x275000_1), (x275001_1), (x275002_1), (x275003_1), sqI, H', ⟨by have := HK1.out; omega⟩, ⟨sqK BK274.out⟩, ⟨sqB1 HB.out GE274.out⟩⟩
 rw [if_pos c8] at H
 have c8b0 : (((rd_T34 t276 x6_1).f0) == a1) = true := beq_iff_eq.mpr c8
 have c8b1 : (((rd_T34 t276 x6_1).f0) != a1) = false := bne_eq_false_iff_eq.mpr c8
 clear c8
 simp only [Option.some.injEq, Prod.mk.injEq] at H
 obtain ⟨rfl, rfl, rfl, rfl, rfl⟩ := H
 have p277 : 0 ≤ (x6_1 : Int) := of_decide_eq_true sqH
 have q277 : x6_1 < (t276.length : Int) := of_decide_eq_true sqH
 obtain ⟨ad277, e277, hx277_0, hx277_1, hx277_2, hx277_3⟩ := at_T34 HRn275.out x6_1 p277 q277
 cases e277
 replace hx277_0 := sqx HB.out hx277_0
 replace hx277_1 := sqx HB.out hx277_1
 replace hx277_2 := sqx HB.out hx277_2
 replace hx277_3 := sqx HB.out hx277_3
 replace p277 := eq_true p277
 replace q277 := eq_true q277
 have p278 : 0 ≤ (x6_1 : Int) := of_decide_eq_true sqH
 have q278 : x6_1 < (t276.length : Int) := of_decide_eq_true sqH
 obtain ⟨ad278, e278, hx278_0, hx278_1, hx278_2, hx278_3⟩ := at_T34 HRn275.out x6_1 p278 q278
 obtain rfl : ad277 = ad278 := (by injection e278)
 replace hx278_0 := sqx HB.out hx278_0
 replace hx278_1 := sqx HB.out hx278_1
 replace hx278_2 := sqx HB.out hx278_2
 replace hx278_3 := sqx HB.out hx278_3
 replace p278 := eq_true p278
 replace q278 := eq_true q278
 obtain ⟨hcz9_0, hcz9_1, hcz9_2, hcz9_3, hfz9_0, hfz9_1, hfz9_2, hfz9_3⟩ := sqF4 BK274.out
 go_wp2
 refine bodyPost_ret (results_ct rfl _ _ gb274 34 #[.int .i64 ((rd_T34 t276 x6_1).f0), .int .i64 ((rd_T34 t276 x6_1).f1), .int .i64 ((rd_T34 t276 x6_1).f2), .string ((rd_T34 t276 x6_1).f3)] (0, 0) _ rfl (by exact (sqP4 BK274.out)) Try.underlying34 rfl (by kernel_rfl)) rfl ?_
 exact ⟨sqE, sqB1 HB.out GE274.out⟩

end Go.Proofs.Ytkjmfnijagdhpaa.PQueue
