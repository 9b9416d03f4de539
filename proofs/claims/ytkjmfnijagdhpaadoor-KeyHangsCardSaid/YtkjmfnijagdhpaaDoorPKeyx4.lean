/- Lean functions for Go functions of the given program, and proofs that the code computes them, each under its theorem's own conditions. Written by a program of this session. -/
import Derived.Test.YtkjmfnijagdhpaaDoorPKeyx0
namespace Go.Proofs.YtkjmfnijagdhpaaDoor.PKey
open Go.RowKit Go.Proofs.YtkjmfnijagdhpaaDoorW.PrintWords Go.Proofs.YtkjmfnijagdhpaaDoorW.PrintLast Go.Proofs.YtkjmfnijagdhpaaDoorW.PrintMore
attribute [local go_sem] max2_int min2_int max_two min_two max_three min_three max_four min_four   -- for this text's walks alone
set_option linter.unusedVariables false
set_option linter.unusedSimpArgs false

/-! ### boarderlaw03_Great: function 21 -/
def boarderlaw03_Great.l0 : Nat → List (S52) → Int → Option (Bool)
  | 0, _, _ => none
  | k + 1, x0, x3 => if x3 < (x0.length : Int) then (if 0 ≤ x3 then (if (((rd_T52 x0 x3).f1).length : Int) > 1000 then (some true) else (boarderlaw03_Great.l0 k x0 (wrap64 (x3 + 1)))) else (none)) else (some (decide ((x0.length : Int) > 100)))
def boarderlaw03_Great.f (k : Nat) (l0 : List (S52)) : Option (Bool) := boarderlaw03_Great.l0 k l0 0
theorem boarderlaw03_Great.mono_l : ∀ k, (∀ y0 y1, LeO (boarderlaw03_Great.l0 k y0 y1) (boarderlaw03_Great.l0 (k + 1) y0 y1))
  | 0 => fun _ _ r h => by simp [boarderlaw03_Great.l0] at h
  | k + 1 => by
    have ih0 := boarderlaw03_Great.mono_l k
    · intro y0 y1
      unfold boarderlaw03_Great.l0
      repeat' first
      | (with_reducible exact ih0 _ _)
      | (with_reducible exact LeO.refl _)
      | (with_reducible exact LeO.none _)
      | (with_reducible refine LeO.ite ?_ ?_)
      | (with_reducible refine LeO.bind ?_ (fun _ => ?_))
theorem boarderlaw03_Great.mono : ∀ a0 k, LeO (boarderlaw03_Great.f k a0) (boarderlaw03_Great.f (k + 1) a0) := by
 intro a0 k
 have ih0 := boarderlaw03_Great.mono_l k
 unfold boarderlaw03_Great.f
 repeat' first
  | (with_reducible exact ih0 _ _)
  | (with_reducible exact LeO.refl _)
  | (with_reducible exact LeO.none _)
  | (with_reducible refine LeO.ite ?_ ?_)
  | (with_reducible refine LeO.bind ?_ (fun _ => ?_))
set_option maxHeartbeats 8000000 in
set_option maxRecDepth 100000 in
theorem boarderlaw03_Great.calls (k : Nat) (A0 : Option Addr) (c0 : Nat) (l0 : List (S52)) (r : Bool) (w : World) (hr0 : Kd.C k52 w A0 l0.length l0) (hc0 : l0.length ≤ c0) (h : boarderlaw03_Great.f k l0 = some r) :
    Calls Tryd.prog 21 #[.slice A0 l0.length c0] w fun e w' => e = .returned (.bool r) ∧ Drawn0 w w' := by
 have HR0 := Aside0.mk hr0
 have HC0 := Aside0.mk hc0
 clear hr0 hc0
 have H : (boarderlaw03_Great.l0 k l0 0) = some r := h
 clear h
 have H' := Aside0.mk H
 clear H
 go_enter Tryd.func21, Tryd.ntmps21
 go_wp2
 go_loopg [3] k (fun kq v3 w' => ∃ (x3_1 : Int), v3 = .int .i64 x3_1 ∧ Aside0 (boarderlaw03_Great.l0 kq l0 x3_1 = some r) ∧ Aside0 (kq ≤ k) ∧ Drawn0 w w')
 case atStart => exact ⟨(0), sqI, H', ⟨Nat.le_refl _⟩, sqD⟩
 clear H'
 obtain ⟨x3_1, rfl, HA, HK1, ⟨m1, rfl⟩⟩ := hrel
 cases gk with
 | zero => exact absurd HA.out (by simp [boarderlaw03_Great.l0])
 | succ k1 => ?_
 have H := HA.out
 clear HA
 simp only [boarderlaw03_Great.l0] at H
 by_cases c2 : x3_1 < (l0.length : Int)
 rotate_left
 · rw [if_neg c2] at H
   have c2b0 : decide (x3_1 < (l0.length : Int)) = false := decide_eq_false c2
   clear c2
   obtain rfl := Option.some.inj H
   go_wp2
   go_ret
   exact ⟨sqI, sqD⟩
 rw [if_pos c2] at H
 have c2b0 : decide (x3_1 < (l0.length : Int)) = true := decide_eq_true c2
 clear c2
 by_cases c3 : 0 ≤ x3_1
 rotate_left
 · rw [if_neg c3] at H
   exact absurd H (by simp)
 rw [if_pos c3] at H
 have c3b0 : decide (0 ≤ x3_1) = true := decide_eq_true c3
 clear c3
 by_cases c4 : (((rd_T52 l0 x3_1).f1).length : Int) > 1000
 · rw [if_pos c4] at H
   have c4b0 : decide (1000 < (((rd_T52 l0 x3_1).f1).length : Int)) = true := decide_eq_true c4
   have c4b1 : decide (1000 < ((rd_T52 l0 x3_1).f1).length) = true := decide_eq_true (by omega)
   clear c4
   obtain rfl := Option.some.inj H
   have p101 : 0 ≤ (x3_1 : Int) := of_decide_eq_true sqH
   have q101 : x3_1 < (l0.length : Int) := of_decide_eq_true sqH
   obtain ⟨ad101, A101_1, c101_1, e101, hx101_0, hx101_1, hl101_1, hi101_1⟩ := at_T52 HR0.out x3_1 p101 q101
   cases e101
   have HR101_1 := Aside0.mk hi101_1
   have HC101_1 := Aside0.mk hl101_1
   clear hi101_1 hl101_1
   replace p101 := eq_true p101
   replace q101 := eq_true q101
   go_wp2
   go_ret
   exact ⟨sqI, sqD⟩
 rw [if_neg c4] at H
 have c4b0 : decide (1000 < (((rd_T52 l0 x3_1).f1).length : Int)) = false := decide_eq_false c4
 have c4b1 : decide (1000 < ((rd_T52 l0 x3_1).f1).length) = false := decide_eq_false (by omega)
 clear c4
 have H' := Aside0.mk H
 clear H
 have p101 : 0 ≤ (x3_1 : Int) := of_decide_eq_true sqH
 have q101 : x3_1 < (l0.length : Int) := of_decide_eq_true sqH
 obtain ⟨ad101, A101_1, c101_1, e101, hx101_0, hx101_1, hl101_1, hi101_1⟩ := at_T52 HR0.out x3_1 p101 q101
 cases e101
 have HR101_1 := Aside0.mk hi101_1
 have HC101_1 := Aside0.mk hl101_1
 clear hi101_1 hl101_1
 replace p101 := eq_true p101
 replace q101 := eq_true q101
 go_wp2
 go_roundg k1
 case measure => have := HK1.out; omega
 case rel => exact ⟨(wrap64 (x3_1 + 1)), sqI, H', ⟨by have := HK1.out; omega⟩, sqD⟩

/-! ### boarderlaw04_Great: function 8 -/
def boarderlaw04_Great.f (k : Nat) (a0_0 : Int) (a0_1 : Int) (a0_2 : Int) (a0_3 : Int) (a0_4 : Int) (a0_5 : Int) (a0_6 : Int) (a0_7 : Int) (a0_8 : Int) (a0_9 : Int) (a0_10 : Int) (l0_11 : List Int) (l0_12 : List (S52)) : Option (Bool) := if (l0_11.length : Int) > 100 then (some true) else ((boarderlaw03_Great.f k l0_12).bind fun t103 => (some t103))
theorem boarderlaw04_Great.mono : ∀ a0 a1 a2 a3 a4 a5 a6 a7 a8 a9 a10 a11 a12 k, LeO (boarderlaw04_Great.f k a0 a1 a2 a3 a4 a5 a6 a7 a8 a9 a10 a11 a12) (boarderlaw04_Great.f (k + 1) a0 a1 a2 a3 a4 a5 a6 a7 a8 a9 a10 a11 a12) := by
 intro a0 a1 a2 a3 a4 a5 a6 a7 a8 a9 a10 a11 a12 k
 unfold boarderlaw04_Great.f
 repeat' first
  | (with_reducible exact boarderlaw03_Great.mono _ _)
  | (with_reducible exact LeO.refl _)
  | (with_reducible exact LeO.none _)
  | (with_reducible refine LeO.ite ?_ ?_)
  | (with_reducible refine LeO.bind ?_ (fun _ => ?_))
set_option maxHeartbeats 8000000 in
set_option maxRecDepth 100000 in
theorem boarderlaw04_Great.calls (k : Nat) (a0_0 : Int) (a0_1 : Int) (a0_2 : Int) (a0_3 : Int) (a0_4 : Int) (a0_5 : Int) (a0_6 : Int) (a0_7 : Int) (a0_8 : Int) (a0_9 : Int) (a0_10 : Int) (A0_11 : Option Addr) (c0_11 : Nat) (l0_11 : List Int) (A0_12 : Option Addr) (c0_12 : Nat) (l0_12 : List (S52)) (r : Bool) (w : World) (hr0_11 : Kd.C (Kd.int .u8) w A0_11 l0_11.length l0_11) (hc0_11 : l0_11.length ≤ c0_11) (hr0_12 : Kd.C k52 w A0_12 l0_12.length l0_12) (hc0_12 : l0_12.length ≤ c0_12) (h : boarderlaw04_Great.f k a0_0 a0_1 a0_2 a0_3 a0_4 a0_5 a0_6 a0_7 a0_8 a0_9 a0_10 l0_11 l0_12 = some r) :
    Calls Tryd.prog 8 #[.agg #[.int .i64 a0_0, .int .i64 a0_1, .int .i64 a0_2, .int .i64 a0_3, .int .i64 a0_4, .int .i64 a0_5, .int .i64 a0_6, .int .i64 a0_7, .int .i64 a0_8, .int .i64 a0_9, .int .i64 a0_10, .slice A0_11 l0_11.length c0_11, .slice A0_12 l0_12.length c0_12]] w fun e w' => e = .returned (.bool r) ∧ Below w.heap.size w w' := by
 have hu25 := Tryd.underlying25
 have HR0_11 := Aside0.mk hr0_11
 have HC0_11 := Aside0.mk hc0_11
 clear hr0_11 hc0_11
 have HR0_12 := Aside0.mk hr0_12
 have HC0_12 := Aside0.mk hc0_12
 clear hr0_12 hc0_12
 have HB := Aside0.mk (Below.refl w.heap.size w)
 have H : (if (l0_11.length : Int) > 100 then (some true) else ((boarderlaw03_Great.f k l0_12).bind fun t103 => (some t103))) = some r := h
 clear h
 by_cases c2 : (l0_11.length : Int) > 100
 · rw [if_pos c2] at H
   have c2b0 : decide (100 < (l0_11.length : Int)) = true := decide_eq_true c2
   have c2b1 : decide (100 < l0_11.length) = true := decide_eq_true (by omega)
   clear c2
   obtain rfl := Option.some.inj H
   go_enter Tryd.func8, Tryd.ntmps8
   go_wp2_with (first | ((with_reducible refine gate_dst (N := 1) rfl ?_); refine box_event rfl (N := 1) rfl (cs := #[.int .i64 a0_0, .int .i64 a0_1, .int .i64 a0_2, .int .i64 a0_3, .int .i64 a0_4, .int .i64 a0_5, .int .i64 a0_6, .int .i64 a0_7, .int .i64 a0_8, .int .i64 a0_9, .int .i64 a0_10, .slice A0_11 l0_11.length c0_11, .slice A0_12 l0_12.length c0_12]) (t := 25) sqs ?_; intro gb102 hg w3 hbox hb; have BK102 := sqM (hbox); have GW102 := sqM (sqZ hg (sqB HB.out)); have GE102 := sqM (sqZ hg (sqB HB.out)); replace HB := sqM (below_step (sqB HB.out) hb); clear hb hbox hg; have hcz4_0 : w3.cell? ⟨gb102, 0, none⟩ = some (.int .i64 a0_0) := (blk_cell BK102.out 0).trans rfl; have hcz4_1 : w3.cell? ⟨gb102, 1, none⟩ = some (.int .i64 a0_1) := (blk_cell BK102.out 1).trans rfl; have hcz4_2 : w3.cell? ⟨gb102, 2, none⟩ = some (.int .i64 a0_2) := (blk_cell BK102.out 2).trans rfl; have hcz4_3 : w3.cell? ⟨gb102, 3, none⟩ = some (.int .i64 a0_3) := (blk_cell BK102.out 3).trans rfl; have hcz4_4 : w3.cell? ⟨gb102, 4, none⟩ = some (.int .i64 a0_4) := (blk_cell BK102.out 4).trans rfl; have hcz4_5 : w3.cell? ⟨gb102, 5, none⟩ = some (.int .i64 a0_5) := (blk_cell BK102.out 5).trans rfl; have hcz4_6 : w3.cell? ⟨gb102, 6, none⟩ = some (.int .i64 a0_6) := (blk_cell BK102.out 6).trans rfl; have hcz4_7 : w3.cell? ⟨gb102, 7, none⟩ = some (.int .i64 a0_7) := (blk_cell BK102.out 7).trans rfl; have hcz4_8 : w3.cell? ⟨gb102, 8, none⟩ = some (.int .i64 a0_8) := (blk_cell BK102.out 8).trans rfl; have hcz4_9 : w3.cell? ⟨gb102, 9, none⟩ = some (.int .i64 a0_9) := (blk_cell BK102.out 9).trans rfl; have hcz4_10 : w3.cell? ⟨gb102, 10, none⟩ = some (.int .i64 a0_10) := (blk_cell BK102.out 10).trans rfl; have hcz4_11 : w3.cell? ⟨gb102, 11, none⟩ = some (.slice A0_11 l0_11.length c0_11) := (blk_cell BK102.out 11).trans rfl; have hcz4_12 : w3.cell? ⟨gb102, 12, none⟩ = some (.slice A0_12 l0_12.length c0_12) := (blk_cell BK102.out 12).trans rfl; have hfz4_0 := blk_frozen BK102.out 0; have hfz4_1 := blk_frozen BK102.out 1; have hfz4_2 := blk_frozen BK102.out 2; have hfz4_3 := blk_frozen BK102.out 3; have hfz4_4 := blk_frozen BK102.out 4; have hfz4_5 := blk_frozen BK102.out 5; have hfz4_6 := blk_frozen BK102.out 6; have hfz4_7 := blk_frozen BK102.out 7; have hfz4_8 := blk_frozen BK102.out 8; have hfz4_9 := blk_frozen BK102.out 9; have hfz4_10 := blk_frozen BK102.out 10; have hfz4_11 := blk_frozen BK102.out 11; have hfz4_12 := blk_frozen BK102.out 12))
   go_ret
   exact ⟨sqE, sqB1 HB.out GE102.out⟩
 rw [if_neg c2] at H
 have c2b0 : decide (100 < (l0_11.length : Int)) = false := decide_eq_false c2
 have c2b1 : decide (100 < l0_11.length) = false := decide_eq_false (by omega)
 clear c2
 replace H := Option.bind_eq_some_iff.mp H
 obtain ⟨t103, A50, H⟩ := H
 replace H : (some t103) = some r := H
 have A5 := Aside0.mk A50
 clear A50
 obtain rfl := Option.some.inj H
 go_enter Tryd.func8, Tryd.ntmps8
 go_wp2_with (first | ((with_reducible refine gate_dst (N := 1) rfl ?_); refine box_event rfl (N := 1) rfl (cs := #[.int .i64 a0_0, .int .i64 a0_1, .int .i64 a0_2, .int .i64 a0_3, .int .i64 a0_4, .int .i64 a0_5, .int .i64 a0_6, .int .i64 a0_7, .int .i64 a0_8, .int .i64 a0_9, .int .i64 a0_10, .slice A0_11 l0_11.length c0_11, .slice A0_12 l0_12.length c0_12]) (t := 25) sqs ?_; intro gb102 hg w6 hbox hb; have BK102 := sqM (hbox); have GW102 := sqM (sqZ hg (sqB HB.out)); have GE102 := sqM (sqZ hg (sqB HB.out)); replace HB := sqM (below_step (sqB HB.out) hb); clear hb hbox hg; have hcz7_0 : w6.cell? ⟨gb102, 0, none⟩ = some (.int .i64 a0_0) := (blk_cell BK102.out 0).trans rfl; have hcz7_1 : w6.cell? ⟨gb102, 1, none⟩ = some (.int .i64 a0_1) := (blk_cell BK102.out 1).trans rfl; have hcz7_2 : w6.cell? ⟨gb102, 2, none⟩ = some (.int .i64 a0_2) := (blk_cell BK102.out 2).trans rfl; have hcz7_3 : w6.cell? ⟨gb102, 3, none⟩ = some (.int .i64 a0_3) := (blk_cell BK102.out 3).trans rfl; have hcz7_4 : w6.cell? ⟨gb102, 4, none⟩ = some (.int .i64 a0_4) := (blk_cell BK102.out 4).trans rfl; have hcz7_5 : w6.cell? ⟨gb102, 5, none⟩ = some (.int .i64 a0_5) := (blk_cell BK102.out 5).trans rfl; have hcz7_6 : w6.cell? ⟨gb102, 6, none⟩ = some (.int .i64 a0_6) := (blk_cell BK102.out 6).trans rfl; have hcz7_7 : w6.cell? ⟨gb102, 7, none⟩ = some (.int .i64 a0_7) := (blk_cell BK102.out 7).trans rfl; have hcz7_8 : w6.cell? ⟨gb102, 8, none⟩ = some (.int .i64 a0_8) := (blk_cell BK102.out 8).trans rfl; have hcz7_9 : w6.cell? ⟨gb102, 9, none⟩ = some (.int .i64 a0_9) := (blk_cell BK102.out 9).trans rfl; have hcz7_10 : w6.cell? ⟨gb102, 10, none⟩ = some (.int .i64 a0_10) := (blk_cell BK102.out 10).trans rfl; have hcz7_11 : w6.cell? ⟨gb102, 11, none⟩ = some (.slice A0_11 l0_11.length c0_11) := (blk_cell BK102.out 11).trans rfl; have hcz7_12 : w6.cell? ⟨gb102, 12, none⟩ = some (.slice A0_12 l0_12.length c0_12) := (blk_cell BK102.out 12).trans rfl; have hfz7_0 := blk_frozen BK102.out 0; have hfz7_1 := blk_frozen BK102.out 1; have hfz7_2 := blk_frozen BK102.out 2; have hfz7_3 := blk_frozen BK102.out 3; have hfz7_4 := blk_frozen BK102.out 4; have hfz7_5 := blk_frozen BK102.out 5; have hfz7_6 := blk_frozen BK102.out 6; have hfz7_7 := blk_frozen BK102.out 7; have hfz7_8 := blk_frozen BK102.out 8; have hfz7_9 := blk_frozen BK102.out 9; have hfz7_10 := blk_frozen BK102.out 10; have hfz7_11 := blk_frozen BK102.out 11; have hfz7_12 := blk_frozen BK102.out 12) | (go_at_call 21; (with_reducible refine (boarderlaw03_Great.calls _ _ _ _ _ _ ?side1 ?side2 A5.out).mono ?_); (case side1 => repeat (first | exact (Kd.C_below HR0_12.out HB.out) | (with_reducible refine Kd.C_alloc ?_ _) | (with_reducible refine Kd.C_drewN ?_ _) | (with_reducible refine Kd.C_drew ?_))); (case side2 => exact HC0_12.out); rintro e w' ⟨rfl, ⟨nd, rfl⟩⟩))
 go_ret
 exact ⟨sqE, sqB1 HB.out GE102.out⟩

/-! ### boarderref01_Right: function 27 -/
def boarderref01_Right.f (a0 : Int) : Option (Bool) := if a0 ≥ 0 then (some (decide (a0 < 4294967296))) else (some false)
set_option maxHeartbeats 8000000 in
set_option maxRecDepth 100000 in
theorem boarderref01_Right.calls (a0 : Int) (r : Bool) (w : World) (h : boarderref01_Right.f a0 = some r) :
    Calls Tryd.prog 27 #[.int .i64 a0] w fun e w' => e = .returned (.bool r) ∧ Drawn0 w w' := by
 have H : (if a0 ≥ 0 then (some (decide (a0 < 4294967296))) else (some false)) = some r := h
 clear h
 by_cases c2 : a0 ≥ 0
 · rw [if_pos c2] at H
   have c2b0 : decide (0 ≤ a0) = true := decide_eq_true c2
   clear c2
   obtain rfl := Option.some.inj H
   go_enter Tryd.func27, Tryd.ntmps27
   go_wp2
   go_ret
   exact ⟨sqI, sqD⟩
 rw [if_neg c2] at H
 have c2b0 : decide (0 ≤ a0) = false := decide_eq_false c2
 clear c2
 obtain rfl := Option.some.inj H
 go_enter Tryd.func27, Tryd.ntmps27
 go_wp2
 go_ret
 exact ⟨sqI, sqD⟩

/-! ### boarderref03_Has: function 29 -/
def boarderref03_Has.l0 : Nat → List (S52) → Int → Int → Int → Option (Int)
  | 0, _, _, _, _ => none
  | k + 1, x0, x1, x5, x6 => if x6 < (x0.length : Int) then (if 0 ≤ x6 then (if ((rd_T52 x0 x6).f0) = x1 then (boarderref03_Has.l0 k x0 x1 (wrap64 (x5 + 1)) (wrap64 (x6 + 1))) else (boarderref03_Has.l0 k x0 x1 x5 (wrap64 (x6 + 1)))) else (none)) else (some x5)
def boarderref03_Has.f (k : Nat) (l0 : List (S52)) (a1 : Int) : Option (Int) := boarderref03_Has.l0 k l0 a1 0 0
theorem boarderref03_Has.mono_l : ∀ k, (∀ y0 y1 y2 y3, LeO (boarderref03_Has.l0 k y0 y1 y2 y3) (boarderref03_Has.l0 (k + 1) y0 y1 y2 y3))
  | 0 => fun _ _ _ _ r h => by simp [boarderref03_Has.l0] at h
  | k + 1 => by
    have ih0 := boarderref03_Has.mono_l k
    · intro y0 y1 y2 y3
      unfold boarderref03_Has.l0
      repeat' first
      | (with_reducible exact ih0 _ _ _ _)
      | (with_reducible exact LeO.refl _)
      | (with_reducible exact LeO.none _)
      | (with_reducible refine LeO.ite ?_ ?_)
      | (with_reducible refine LeO.bind ?_ (fun _ => ?_))
theorem boarderref03_Has.mono : ∀ a0 a1 k, LeO (boarderref03_Has.f k a0 a1) (boarderref03_Has.f (k + 1) a0 a1) := by
 intro a0 a1 k
 have ih0 := boarderref03_Has.mono_l k
 unfold boarderref03_Has.f
 repeat' first
  | (with_reducible exact ih0 _ _ _ _)
  | (with_reducible exact LeO.refl _)
  | (with_reducible exact LeO.none _)
  | (with_reducible refine LeO.ite ?_ ?_)
  | (with_reducible refine LeO.bind ?_ (fun _ => ?_))
set_option maxHeartbeats 8000000 in
set_option maxRecDepth 100000 in
theorem boarderref03_Has.calls (k : Nat) (A0 : Option Addr) (c0 : Nat) (l0 : List (S52)) (a1 : Int) (r : Int) (w : World) (hr0 : Kd.C k52 w A0 l0.length l0) (hc0 : l0.length ≤ c0) (h : boarderref03_Has.f k l0 a1 = some r) :
    Calls Tryd.prog 29 #[.slice A0 l0.length c0, .int .i64 a1] w fun e w' => e = .returned (.int .i64 r) ∧ Drawn0 w w' := by
 have HR0 := Aside0.mk hr0
 have HC0 := Aside0.mk hc0
 clear hr0 hc0
 have H : (boarderref03_Has.l0 k l0 a1 0 0) = some r := h
 clear h
 have H' := Aside0.mk H
 clear H
 go_enter Tryd.func29, Tryd.ntmps29
 go_wp2
 go_loopg [5, 6] k (fun kq v5 v6 w' => ∃ (x5_1 : Int) (x6_1 : Int), v5 = .int .i64 x5_1 ∧ v6 = .int .i64 x6_1 ∧ Aside0 (boarderref03_Has.l0 kq l0 a1 x5_1 x6_1 = some r) ∧ Aside0 (kq ≤ k) ∧ Drawn0 w w')
 case atStart => exact ⟨(0), (0), sqI, sqI, H', ⟨Nat.le_refl _⟩, sqD⟩
 clear H'
 try clear c2
 try clear p2
 obtain ⟨x5_1, x6_1, rfl, rfl, HA, HK1, ⟨m1, rfl⟩⟩ := hrel
 cases gk with
 | zero => exact absurd HA.out (by simp [boarderref03_Has.l0])
 | succ k1 => ?_
 have H := HA.out
 clear HA
 simp only [boarderref03_Has.l0] at H
 by_cases c3 : x6_1 < (l0.length : Int)
 rotate_left
 · rw [if_neg c3] at H
   have c3b0 : decide (x6_1 < (l0.length : Int)) = false := decide_eq_false c3
   clear c3
   obtain rfl := Option.some.inj H
   go_wp2
   go_ret
   exact ⟨sqI, sqD⟩
 rw [if_pos c3] at H
 have c3b0 : decide (x6_1 < (l0.length : Int)) = true := decide_eq_true c3
 clear c3
 by_cases c4 : 0 ≤ x6_1
 rotate_left
 · rw [if_neg c4] at H
   exact absurd H (by simp)
 rw [if_pos c4] at H
 have c4b0 : decide (0 ≤ x6_1) = true := decide_eq_true c4
 clear c4
 by_cases c5 : ((rd_T52 l0 x6_1).f0) = a1
 rotate_left
 · rw [if_neg c5] at H
   have c5b0 : (((rd_T52 l0 x6_1).f0) == a1) = false := beq_eq_false_iff_ne.mpr c5
   have c5b1 : (((rd_T52 l0 x6_1).f0) != a1) = true := bne_iff_ne.mpr c5
   have H' := Aside0.mk H
   clear H
   have p182 : 0 ≤ (x6_1 : Int) := of_decide_eq_true sqH
   have q182 : x6_1 < (l0.length : Int) := of_decide_eq_true sqH
   obtain ⟨ad182, A182_1, c182_1, e182, hx182_0, hx182_1, hl182_1, hi182_1⟩ := at_T52 HR0.out x6_1 p182 q182
   cases e182
   have HR182_1 := Aside0.mk hi182_1
   have HC182_1 := Aside0.mk hl182_1
   clear hi182_1 hl182_1
   replace p182 := eq_true p182
   replace q182 := eq_true q182
   go_wp2
   go_roundg k1
   case measure => have := HK1.out; omega
   case rel => exact ⟨(x5_1), (wrap64 (x6_1 + 1)), sqI, sqI, H', ⟨by have := HK1.out; omega⟩, sqD⟩
 rw [if_pos c5] at H
 have c5b0 : (((rd_T52 l0 x6_1).f0) == a1) = true := beq_iff_eq.mpr c5
 have c5b1 : (((rd_T52 l0 x6_1).f0) != a1) = false := bne_eq_false_iff_eq.mpr c5
 clear c5
 have H' := Aside0.mk H
 clear H
 have p182 : 0 ≤ (x6_1 : Int) := of_decide_eq_true sqH
 have q182 : x6_1 < (l0.length : Int) := of_decide_eq_true sqH
 obtain ⟨ad182, A182_1, c182_1, e182, hx182_0, hx182_1, hl182_1, hi182_1⟩ := at_T52 HR0.out x6_1 p182 q182
 cases e182
 have HR182_1 := Aside0.mk hi182_1
 have HC182_1 := Aside0.mk hl182_1
 clear hi182_1 hl182_1
 replace p182 := eq_true p182
 replace q182 := eq_true q182
 go_wp2
 go_roundg k1
 case measure => have := HK1.out; omega
 case rel => exact ⟨(wrap64 (x5_1 + 1)), (wrap64 (x6_1 + 1)), sqI, sqI, H', ⟨by have := HK1.out; omega⟩, sqD⟩

/-! ### boarderref03_Right: function 28 -/
def boarderref03_Right.l0 : Nat → List (S52) → Int → Option (Bool)
  | 0, _, _ => none
  | k + 1, x0, x3 => if x3 < (x0.length : Int) then (if 0 ≤ x3 then (if ((rd_T52 x0 x3).f0) < 1 then (some false) else (if ((rd_T52 x0 x3).f0) > 254 then (some false) else (if (((rd_T52 x0 x3).f1).length : Int) > 600 then (some false) else ((boarderref03_Has.f k x0 ((rd_T52 x0 x3).f0)).bind fun t187 => (if t187 > 1 then (some false) else (boarderref03_Right.l0 k x0 (wrap64 (x3 + 1)))))))) else (none)) else (some true)
def boarderref03_Right.f (k : Nat) (l0 : List (S52)) : Option (Bool) := if (l0.length : Int) > 60 then (some false) else (boarderref03_Right.l0 k l0 0)
theorem boarderref03_Right.mono_l : ∀ k, (∀ y0 y1, LeO (boarderref03_Right.l0 k y0 y1) (boarderref03_Right.l0 (k + 1) y0 y1))
  | 0 => fun _ _ r h => by simp [boarderref03_Right.l0] at h
  | k + 1 => by
    have ih0 := boarderref03_Right.mono_l k
    · intro y0 y1
      unfold boarderref03_Right.l0
      repeat' first
      | (with_reducible exact ih0 _ _)
      | (with_reducible exact boarderref03_Has.mono _ _ _)
      | (with_reducible exact LeO.refl _)
      | (with_reducible exact LeO.none _)
      | (with_reducible refine LeO.ite ?_ ?_)
      | (with_reducible refine LeO.bind ?_ (fun _ => ?_))
theorem boarderref03_Right.mono : ∀ a0 k, LeO (boarderref03_Right.f k a0) (boarderref03_Right.f (k + 1) a0) := by
 intro a0 k
 have ih0 := boarderref03_Right.mono_l k
 unfold boarderref03_Right.f
 repeat' first
  | (with_reducible exact ih0 _ _)
  | (with_reducible exact boarderref03_Has.mono _ _ _)
  | (with_reducible exact LeO.refl _)
  | (with_reducible exact LeO.none _)
  | (with_reducible refine LeO.ite ?_ ?_)
  | (with_reducible refine LeO.bind ?_ (fun _ => ?_))
set_option maxHeartbeats 8000000 in
set_option maxRecDepth 100000 in
theorem boarderref03_Right.calls (k : Nat) (A0 : Option Addr) (c0 : Nat) (l0 : List (S52)) (r : Bool) (w : World) (hr0 : Kd.C k52 w A0 l0.length l0) (hc0 : l0.length ≤ c0) (h : boarderref03_Right.f k l0 = some r) :
    Calls Tryd.prog 28 #[.slice A0 l0.length c0] w fun e w' => e = .returned (.bool r) ∧ Drawn0 w w' := by
 have HR0 := Aside0.mk hr0
 have HC0 := Aside0.mk hc0
 clear hr0 hc0
 have H : (if (l0.length : Int) > 60 then (some false) else (boarderref03_Right.l0 k l0 0)) = some r := h
 clear h
 by_cases c2 : (l0.length : Int) > 60
 · rw [if_pos c2] at H
   have c2b0 : decide (60 < (l0.length : Int)) = true := decide_eq_true c2
   have c2b1 : decide (60 < l0.length) = true := decide_eq_true (by omega)
   clear c2
   obtain rfl := Option.some.inj H
   go_enter Tryd.func28, Tryd.ntmps28
   go_wp2
   go_ret
   exact ⟨sqI, sqD⟩
 rw [if_neg c2] at H
 have c2b0 : decide (60 < (l0.length : Int)) = false := decide_eq_false c2
 have c2b1 : decide (60 < l0.length) = false := decide_eq_false (by omega)
 clear c2
 have H' := Aside0.mk H
 clear H
 go_enter Tryd.func28, Tryd.ntmps28
 go_wp2
 go_loopg [3] k (fun kq v3 w' => ∃ (x3_1 : Int), v3 = .int .i64 x3_1 ∧ Aside0 (boarderref03_Right.l0 kq l0 x3_1 = some r) ∧ Aside0 (kq ≤ k) ∧ Drawn0 w w')
 case atStart => exact ⟨(0), sqI, H', ⟨Nat.le_refl _⟩, sqD⟩
 clear H'
 try clear c2
 try clear c2b0
 try clear c2b1
 try clear p2
 obtain ⟨x3_1, rfl, HA, HK1, ⟨m1, rfl⟩⟩ := hrel
 cases gk with
 | zero => exact absurd HA.out (by simp [boarderref03_Right.l0])
 | succ k1 => ?_
 have H := HA.out
 clear HA
 simp only [boarderref03_Right.l0] at H
 by_cases c3 : x3_1 < (l0.length : Int)
 rotate_left
 · rw [if_neg c3] at H
   have c3b0 : decide (x3_1 < (l0.length : Int)) = false := decide_eq_false c3
   clear c3
   obtain rfl := Option.some.inj H
   go_wp2
   go_ret
   exact ⟨sqI, sqD⟩
 rw [if_pos c3] at H
 have c3b0 : decide (x3_1 < (l0.length : Int)) = true := decide_eq_true c3
 clear c3
 by_cases c4 : 0 ≤ x3_1
 rotate_left
 · rw [if_neg c4] at H
   exact absurd H (by simp)
 rw [if_pos c4] at H
 have c4b0 : decide (0 ≤ x3_1) = true := decide_eq_true c4
 clear c4
 by_cases c5 : ((rd_T52 l0 x3_1).f0) < 1
 · rw [if_pos c5] at H
   have c5b0 : decide (((rd_T52 l0 x3_1).f0) < 1) = true := decide_eq_true c5
   clear c5
   obtain rfl := Option.some.inj H
   have p183 : 0 ≤ (x3_1 : Int) := of_decide_eq_true sqH
   have q183 : x3_1 < (l0.length : Int) := of_decide_eq_true sqH
   obtain ⟨ad183, A183_1, c183_1, e183, hx183_0, hx183_1, hl183_1, hi183_1⟩ := at_T52 HR0.out x3_1 p183 q183
   cases e183
   have HR183_1 := Aside0.mk hi183_1
   have HC183_1 := Aside0.mk hl183_1
   clear hi183_1 hl183_1
   replace p183 := eq_true p183
   replace q183 := eq_true q183
   go_wp2
   go_ret
   exact ⟨sqI, sqD⟩
 rw [if_neg c5] at H
 have c5b0 : decide (((rd_T52 l0 x3_1).f0) < 1) = false := decide_eq_false c5
 clear c5
 by_cases c6 : ((rd_T52 l0 x3_1).f0) > 254
 · rw [if_pos c6] at H
   have c6b0 : decide (254 < ((rd_T52 l0 x3_1).f0)) = true := decide_eq_true c6
   clear c6
   obtain rfl := Option.some.inj H
   have p183 : 0 ≤ (x3_1 : Int) := of_decide_eq_true sqH
   have q183 : x3_1 < (l0.length : Int) := of_decide_eq_true sqH
   obtain ⟨ad183, A183_1, c183_1, e183, hx183_0, hx183_1, hl183_1, hi183_1⟩ := at_T52 HR0.out x3_1 p183 q183
   cases e183
   have HR183_1 := Aside0.mk hi183_1
   have HC183_1 := Aside0.mk hl183_1
   clear hi183_1 hl183_1
   replace p183 := eq_true p183
   replace q183 := eq_true q183
   have p184 : 0 ≤ (x3_1 : Int) := of_decide_eq_true sqH
   have q184 : x3_1 < (l0.length : Int) := of_decide_eq_true sqH
   obtain ⟨ad184, A184_1, c184_1, e184, hx184_0, hx184_1, hl184_1, hi184_1⟩ := at_T52 HR0.out x3_1 p184 q184
   obtain rfl : ad183 = ad184 := (by injection e184)
   have HR184_1 := Aside0.mk hi184_1
   have HC184_1 := Aside0.mk hl184_1
   clear hi184_1 hl184_1
   replace p184 := eq_true p184
   replace q184 := eq_true q184
   have ea_ := Option.some.inj (hx183_1.symm.trans hx184_1)
   injection ea_ with ea_ en_ ec_
   subst ea_
   subst ec_
   clear en_
   go_wp2
   go_ret
   exact ⟨sqI, sqD⟩
 rw [if_neg c6] at H
 have c6b0 : decide (254 < ((rd_T52 l0 x3_1).f0)) = false := decide_eq_false c6
 clear c6
 by_cases c7 : (((rd_T52 l0 x3_1).f1).length : Int) > 600
 · rw [if_pos c7] at H
   have c7b0 : decide (600 < (((rd_T52 l0 x3_1).f1).length : Int)) = true := decide_eq_true c7
   have c7b1 : decide (600 < ((rd_T52 l0 x3_1).f1).length) = true := decide_eq_true (by omega)
   clear c7
   obtain rfl := Option.some.inj H
   have p183 : 0 ≤ (x3_1 : Int) := of_decide_eq_true sqH
   have q183 : x3_1 < (l0.length : Int) := of_decide_eq_true sqH
   obtain ⟨ad183, A183_1, c183_1, e183, hx183_0, hx183_1, hl183_1, hi183_1⟩ := at_T52 HR0.out x3_1 p183 q183
   cases e183
   have HR183_1 := Aside0.mk hi183_1
   have HC183_1 := Aside0.mk hl183_1
   clear hi183_1 hl183_1
   replace p183 := eq_true p183
   replace q183 := eq_true q183
   have p184 : 0 ≤ (x3_1 : Int) := of_decide_eq_true sqH
   have q184 : x3_1 < (l0.length : Int) := of_decide_eq_true sqH
   obtain ⟨ad184, A184_1, c184_1, e184, hx184_0, hx184_1, hl184_1, hi184_1⟩ := at_T52 HR0.out x3_1 p184 q184
   obtain rfl : ad183 = ad184 := (by injection e184)
   have HR184_1 := Aside0.mk hi184_1
   have HC184_1 := Aside0.mk hl184_1
   clear hi184_1 hl184_1
   replace p184 := eq_true p184
   replace q184 := eq_true q184
   have ea_ := Option.some.inj (hx183_1.symm.trans hx184_1)
   injection ea_ with ea_ en_ ec_
   subst ea_
   subst ec_
   clear en_
   have p185 : 0 ≤ (x3_1 : Int) := of_decide_eq_true sqH
   have q185 : x3_1 < (l0.length : Int) := of_decide_eq_true sqH
   obtain ⟨ad185, A185_1, c185_1, e185, hx185_0, hx185_1, hl185_1, hi185_1⟩ := at_T52 HR0.out x3_1 p185 q185
   obtain rfl : ad183 = ad185 := (by injection e185)
   have HR185_1 := Aside0.mk hi185_1
   have HC185_1 := Aside0.mk hl185_1
   clear hi185_1 hl185_1
   replace p185 := eq_true p185
   replace q185 := eq_true q185
   have ea_ := Option.some.inj (hx183_1.symm.trans hx185_1)
   injection ea_ with ea_ en_ ec_
   subst ea_
   subst ec_
   clear en_
   go_wp2
   go_ret
   exact ⟨sqI, sqD⟩
 rw [if_neg c7] at H
 have c7b0 : decide (600 < (((rd_T52 l0 x3_1).f1).length : Int)) = false := decide_eq_false c7
 have c7b1 : decide (600 < ((rd_T52 l0 x3_1).f1).length) = false := decide_eq_false (by omega)
 clear c7
 replace H := Option.bind_eq_some_iff.mp H
 obtain ⟨t187, A80, H⟩ := H
 replace H : (if t187 > 1 then (some false) else (boarderref03_Right.l0 k1 l0 (wrap64 (x3_1 + 1)))) = some r := H
 have A8 := Aside0.mk A80
 clear A80
 by_cases c9 : t187 > 1
 · rw [if_pos c9] at H
   have c9b0 : decide (1 < t187) = true := decide_eq_true c9
   clear c9
   obtain rfl := Option.some.inj H
   have p183 : 0 ≤ (x3_1 : Int) := of_decide_eq_true sqH
   have q183 : x3_1 < (l0.length : Int) := of_decide_eq_true sqH
   obtain ⟨ad183, A183_1, c183_1, e183, hx183_0, hx183_1, hl183_1, hi183_1⟩ := at_T52 HR0.out x3_1 p183 q183
   cases e183
   have HR183_1 := Aside0.mk hi183_1
   have HC183_1 := Aside0.mk hl183_1
   clear hi183_1 hl183_1
   replace p183 := eq_true p183
   replace q183 := eq_true q183
   have p184 : 0 ≤ (x3_1 : Int) := of_decide_eq_true sqH
   have q184 : x3_1 < (l0.length : Int) := of_decide_eq_true sqH
   obtain ⟨ad184, A184_1, c184_1, e184, hx184_0, hx184_1, hl184_1, hi184_1⟩ := at_T52 HR0.out x3_1 p184 q184
   obtain rfl : ad183 = ad184 := (by injection e184)
   have HR184_1 := Aside0.mk hi184_1
   have HC184_1 := Aside0.mk hl184_1
   clear hi184_1 hl184_1
   replace p184 := eq_true p184
   replace q184 := eq_true q184
   have ea_ := Option.some.inj (hx183_1.symm.trans hx184_1)
   injection ea_ with ea_ en_ ec_
   subst ea_
   subst ec_
   clear en_
   have p185 : 0 ≤ (x3_1 : Int) := of_decide_eq_true sqH
   have q185 : x3_1 < (l0.length : Int) := of_decide_eq_true sqH
   obtain ⟨ad185, A185_1, c185_1, e185, hx185_0, hx185_1, hl185_1, hi185_1⟩ := at_T52 HR0.out x3_1 p185 q185
   obtain rfl : ad183 = ad185 := (by injection e185)
   have HR185_1 := Aside0.mk hi185_1
   have HC185_1 := Aside0.mk hl185_1
   clear hi185_1 hl185_1
   replace p185 := eq_true p185
   replace q185 := eq_true q185
   have ea_ := Option.some.inj (hx183_1.symm.trans hx185_1)
   injection ea_ with ea_ en_ ec_
   subst ea_
   subst ec_
   clear en_
   have p186 : 0 ≤ (x3_1 : Int) := of_decide_eq_true sqH
   have q186 : x3_1 < (l0.length : Int) := of_decide_eq_true sqH
   obtain ⟨ad186, A186_1, c186_1, e186, hx186_0, hx186_1, hl186_1, hi186_1⟩ := at_T52 HR0.out x3_1 p186 q186
   obtain rfl : ad183 = ad186 := (by injection e186)
   have HR186_1 := Aside0.mk hi186_1
   have HC186_1 := Aside0.mk hl186_1
   clear hi186_1 hl186_1
   replace p186 := eq_true p186
   replace q186 := eq_true q186
   have ea_ := Option.some.inj (hx183_1.symm.trans hx186_1)
   injection ea_ with ea_ en_ ec_
   subst ea_
   subst ec_
   clear en_
   go_wp2_with (first | (go_at_call 29; (with_reducible refine (boarderref03_Has.calls _ _ _ _ _ _ _ ?side1 ?side2 A8.out).mono ?_); (case side1 => repeat (first | exact HR0.out | (with_reducible refine Kd.C_alloc ?_ _) | (with_reducible refine Kd.C_drewN ?_ _) | (with_reducible refine Kd.C_drew ?_))); (case side2 => exact HC0.out); rintro e w' ⟨rfl, ⟨nd, rfl⟩⟩))
   go_ret
   exact ⟨sqI, sqD⟩
 rw [if_neg c9] at H
 have c9b0 : decide (1 < t187) = false := decide_eq_false c9
 clear c9
 have H' := Aside0.mk H
 clear H
 have p183 : 0 ≤ (x3_1 : Int) := of_decide_eq_true sqH
 have q183 : x3_1 < (l0.length : Int) := of_decide_eq_true sqH
 obtain ⟨ad183, A183_1, c183_1, e183, hx183_0, hx183_1, hl183_1, hi183_1⟩ := at_T52 HR0.out x3_1 p183 q183
 cases e183
 have HR183_1 := Aside0.mk hi183_1
 have HC183_1 := Aside0.mk hl183_1
 clear hi183_1 hl183_1
 replace p183 := eq_true p183
 replace q183 := eq_true q183
 have p184 : 0 ≤ (x3_1 : Int) := of_decide_eq_true sqH
 have q184 : x3_1 < (l0.length : Int) := of_decide_eq_true sqH
 obtain ⟨ad184, A184_1, c184_1, e184, hx184_0, hx184_1, hl184_1, hi184_1⟩ := at_T52 HR0.out x3_1 p184 q184
 obtain rfl : ad183 = ad184 := (by injection e184)
 have HR184_1 := Aside0.mk hi184_1
 have HC184_1 := Aside0.mk hl184_1
 clear hi184_1 hl184_1
 replace p184 := eq_true p184
 replace q184 := eq_true q184
 have ea_ := Option.some.inj (hx183_1.symm.trans hx184_1)
 injection ea_ with ea_ en_ ec_
 subst ea_
 subst ec_
 clear en_
 have p185 : 0 ≤ (x3_1 : Int) := of_decide_eq_true sqH
 have q185 : x3_1 < (l0.length : Int) := of_decide_eq_true sqH
 obtain ⟨ad185, A185_1, c185_1, e185, hx185_0, hx185_1, hl185_1, hi185_1⟩ := at_T52 HR0.out x3_1 p185 q185
 obtain rfl : ad183 = ad185 := (by injection e185)
 have HR185_1 := Aside0.mk hi185_1
 have HC185_1 := Aside0.mk hl185_1
 clear hi185_1 hl185_1
 replace p185 := eq_true p185
 replace q185 := eq_true q185
 have ea_ := Option.some.inj (hx183_1.symm.trans hx185_1)
 injection ea_ with ea_ en_ ec_
 subst ea_
 subst ec_
 clear en_
 have p186 : 0 ≤ (x3_1 : Int) := of_decide_eq_true sqH
 have q186 : x3_1 < (l0.length : Int) := of_decide_eq_true sqH
 obtain ⟨ad186, A186_1, c186_1, e186, hx186_0, hx186_1, hl186_1, hi186_1⟩ := at_T52 HR0.out x3_1 p186 q186
 obtain rfl : ad183 = ad186 := (by injection e186)
 have HR186_1 := Aside0.mk hi186_1
 have HC186_1 := Aside0.mk hl186_1
 clear hi186_1 hl186_1
 replace p186 := eq_true p186
 replace q186 := eq_true q186
 have ea_ := Option.some.inj (hx183_1.symm.trans hx186_1)
 injection ea_ with ea_ en_ ec_
 subst ea_
 subst ec_
 clear en_
 go_wp2_with (first | (go_at_call 29; (with_reducible refine (boarderref03_Has.calls _ _ _ _ _ _ _ ?side1 ?side2 A8.out).mono ?_); (case side1 => repeat (first | exact HR0.out | (with_reducible refine Kd.C_alloc ?_ _) | (with_reducible refine Kd.C_drewN ?_ _) | (with_reducible refine Kd.C_drew ?_))); (case side2 => exact HC0.out); rintro e w' ⟨rfl, ⟨nd, rfl⟩⟩))
 go_roundg k1
 case measure => have := HK1.out; omega
 case rel => exact ⟨(wrap64 (x3_1 + 1)), sqI, H', ⟨by have := HK1.out; omega⟩, sqD⟩

end Go.Proofs.YtkjmfnijagdhpaaDoor.PKey
