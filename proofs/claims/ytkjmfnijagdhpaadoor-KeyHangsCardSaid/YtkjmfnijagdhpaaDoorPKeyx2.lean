/- Lean functions for Go functions of the given program, and proofs that the code computes them, each under its theorem's own conditions. Written by a program of this session. -/
import Derived.Test.YtkjmfnijagdhpaaDoorPKeyx0
import Derived.Test.YtkjmfnijagdhpaaDoorPKeyx1
namespace Go.Proofs.YtkjmfnijagdhpaaDoor.PKey
open Go.RowKit Go.Proofs.YtkjmfnijagdhpaaDoorW.PrintWords Go.Proofs.YtkjmfnijagdhpaaDoorW.PrintLast Go.Proofs.YtkjmfnijagdhpaaDoorW.PrintMore
attribute [local go_sem] max2_int min2_int max_two min_two max_three min_three max_four min_four   -- for this text's walks alone
set_option linter.unusedVariables false
set_option linter.unusedSimpArgs false

/-! ### key_Of: function 10 -/
def key_Of.f (k : Nat) (a0_0 : Int) (a0_1 : Int) (a0_2 : Int) (a0_3 : Int) (a0_4 : Int) (a0_5 : Int) (a0_6 : Int) (a0_7 : Int) (a0_8 : Int) (a0_9 : Int) (a0_10 : Int) (l0_11 : List Int) (l0_12 : List (S52)) : Option (ByteArray × Int) := (msg_Right.f k a0_0 a0_1 a0_2 a0_3 a0_4 a0_5 a0_6 a0_7 a0_8 a0_9 a0_10 l0_11 l0_12).bind fun t135 => (if t135 = true then ((tlv_Find.f k l0_12 61).bind fun bt136 => (if (bt136.1.length : Int) > 255 then (some ((⟨#[]⟩ : ByteArray), 3)) else (if (bt136.1.length : Int) ≥ 2 then (if 1 + (strOfNums bt136.1).size ≤ 9223372036854775807 then (some ((⟨#[105]⟩ : ByteArray) ++ (strOfNums bt136.1), 0)) else (none)) else (if a0_2 > 0 then ((some (([(a0_1) % 256] : List Int) : List Int)).bind fun y140 => (if 0 ≤ a0_2 then (if a0_2 ≤ (l0_11.length : Int) then (if y140.length + (l0_11.take (a0_2 : Int).toNat).length < 140737488355328 then ((some (y140 ++ (l0_11.take (a0_2 : Int).toNat) : List Int)).bind fun y144 => (if 1 + (strOfNums y144).size ≤ 9223372036854775807 then (some ((⟨#[104]⟩ : ByteArray) ++ (strOfNums y144), 0)) else (none))) else (none)) else (none)) else (none))) else (some ((⟨#[]⟩ : ByteArray), 5)))))) else (some ((⟨#[]⟩ : ByteArray), 1)))
theorem key_Of.mono : ∀ a0 a1 a2 a3 a4 a5 a6 a7 a8 a9 a10 a11 a12 k, LeO (key_Of.f k a0 a1 a2 a3 a4 a5 a6 a7 a8 a9 a10 a11 a12) (key_Of.f (k + 1) a0 a1 a2 a3 a4 a5 a6 a7 a8 a9 a10 a11 a12) := by
 intro a0 a1 a2 a3 a4 a5 a6 a7 a8 a9 a10 a11 a12 k
 unfold key_Of.f
 repeat' first
  | (with_reducible exact msg_Right.mono _ _ _ _ _ _ _ _ _ _ _ _ _ _)
  | (with_reducible exact tlv_Find.mono _ _ _)
  | (with_reducible exact LeO.refl _)
  | (with_reducible exact LeO.none _)
  | (with_reducible refine LeO.ite ?_ ?_)
  | (with_reducible refine LeO.bind ?_ (fun _ => ?_))
def key_Of.T9 : Bool × List (List Nat × List Nat) := (true, [([], []), ([0], [0]), ([1], [1]), ([2], [2]), ([], []), ([4], [4]), ([], []), ([6], [6]), ([5, 7], [5, 7]), ([3, 8], [3, 8]), ([9], [9]), ([10], [10]), ([11, 9, 0, 1, 2, 3, 4, 5, 6, 7, 8, 9, 10, 11], [11]), ([12, 0, 1, 2, 3, 4, 5, 6, 7, 8, 9, 10, 11, 12], [])])
def key_Of.B9 : List Nat := [0, 1, 3, 7, 0, 16, 0, 64, 240, 511, 1023, 2047, 4095, 8191]
theorem key_Of.tab9 : rtab .any (opsOf Tryd.f10 9) = key_Of.T9 := by kernel_rfl
theorem key_Of.bits9 : waitsOk key_Of.T9.2 key_Of.B9 = true := by kernel_rfl
set_option maxHeartbeats 8000000 in
set_option maxRecDepth 100000 in
theorem key_Of.calls (k : Nat) (a0_0 : Int) (a0_1 : Int) (a0_2 : Int) (a0_3 : Int) (a0_4 : Int) (a0_5 : Int) (a0_6 : Int) (a0_7 : Int) (a0_8 : Int) (a0_9 : Int) (a0_10 : Int) (A0_11 : Option Addr) (c0_11 : Nat) (l0_11 : List Int) (A0_12 : Option Addr) (c0_12 : Nat) (l0_12 : List (S52)) (r1 : ByteArray) (r2 : Int) (w : World) (hr0_11 : Kd.C (Kd.int .u8) w A0_11 l0_11.length l0_11) (hc0_11 : l0_11.length ≤ c0_11) (hr0_12 : Kd.C k52 w A0_12 l0_12.length l0_12) (hc0_12 : l0_12.length ≤ c0_12) (h : key_Of.f k a0_0 a0_1 a0_2 a0_3 a0_4 a0_5 a0_6 a0_7 a0_8 a0_9 a0_10 l0_11 l0_12 = some (r1, r2)) :
    Calls Tryd.prog 10 #[.agg #[.int .i64 a0_0, .int .i64 a0_1, .int .i64 a0_2, .int .i64 a0_3, .int .i64 a0_4, .int .i64 a0_5, .int .i64 a0_6, .int .i64 a0_7, .int .i64 a0_8, .int .i64 a0_9, .int .i64 a0_10, .slice A0_11 l0_11.length c0_11, .slice A0_12 l0_12.length c0_12]] w fun e w' => e = .returned (.tuple #[.string r1, .int .i64 r2]) ∧ Below w.heap.size w w' := by
 have hu25 := Tryd.underlying25
 have HR0_11 := Aside0.mk hr0_11
 have HC0_11 := Aside0.mk hc0_11
 clear hr0_11 hc0_11
 have HR0_12 := Aside0.mk hr0_12
 have HC0_12 := Aside0.mk hc0_12
 clear hr0_12 hc0_12
 have HB := Aside0.mk (Below.refl w.heap.size w)
 have H : ((msg_Right.f k a0_0 a0_1 a0_2 a0_3 a0_4 a0_5 a0_6 a0_7 a0_8 a0_9 a0_10 l0_11 l0_12).bind fun t135 => (if t135 = true then ((tlv_Find.f k l0_12 61).bind fun bt136 => (if (bt136.1.length : Int) > 255 then (some ((⟨#[]⟩ : ByteArray), 3)) else (if (bt136.1.length : Int) ≥ 2 then (if 1 + (strOfNums bt136.1).size ≤ 9223372036854775807 then (some ((⟨#[105]⟩ : ByteArray) ++ (strOfNums bt136.1), 0)) else (none)) else (if a0_2 > 0 then ((some (([(a0_1) % 256] : List Int) : List Int)).bind fun y140 => (if 0 ≤ a0_2 then (if a0_2 ≤ (l0_11.length : Int) then (if y140.length + (l0_11.take (a0_2 : Int).toNat).length < 140737488355328 then ((some (y140 ++ (l0_11.take (a0_2 : Int).toNat) : List Int)).bind fun y144 => (if 1 + (strOfNums y144).size ≤ 9223372036854775807 then (some ((⟨#[104]⟩ : ByteArray) ++ (strOfNums y144), 0)) else (none))) else (none)) else (none)) else (none))) else (some ((⟨#[]⟩ : ByteArray), 5)))))) else (some ((⟨#[]⟩ : ByteArray), 1)))) = some (r1, r2) := h
 clear h
 replace H := Option.bind_eq_some_iff.mp H
 obtain ⟨t135, A20, H⟩ := H
 replace H : (if t135 = true then ((tlv_Find.f k l0_12 61).bind fun bt136 => (if (bt136.1.length : Int) > 255 then (some ((⟨#[]⟩ : ByteArray), 3)) else (if (bt136.1.length : Int) ≥ 2 then (if 1 + (strOfNums bt136.1).size ≤ 9223372036854775807 then (some ((⟨#[105]⟩ : ByteArray) ++ (strOfNums bt136.1), 0)) else (none)) else (if a0_2 > 0 then ((some (([(a0_1) % 256] : List Int) : List Int)).bind fun y140 => (if 0 ≤ a0_2 then (if a0_2 ≤ (l0_11.length : Int) then (if y140.length + (l0_11.take (a0_2 : Int).toNat).length < 140737488355328 then ((some (y140 ++ (l0_11.take (a0_2 : Int).toNat) : List Int)).bind fun y144 => (if 1 + (strOfNums y144).size ≤ 9223372036854775807 then (some ((⟨#[104]⟩ : ByteArray) ++ (strOfNums y144), 0)) else (none))) else (none)) else (none)) else (none))) else (some ((⟨#[]⟩ : ByteArray), 5)))))) else (some ((⟨#[]⟩ : ByteArray), 1))) = some (r1, r2) := H
 have A2 := Aside0.mk A20
 clear A20
 by_cases c3 : t135 = true
 rotate_left
 · replace c3 := Bool.eq_false_iff.mpr c3
   subst c3
   have H1 : (some ((⟨#[]⟩ : ByteArray), 1)) = some (r1, r2) := by rw [if_neg (show ¬ (false = true) by decide)] at H; exact H
   clear H
   have H := H1
   clear H1
   simp only [Option.some.injEq, Prod.mk.injEq] at H
   obtain ⟨rfl, rfl⟩ := H
   go_enter Tryd.func10, Tryd.ntmps10
   go_wp2_with (first | ((with_reducible refine gate_dst (N := 1) rfl ?_); refine box_event rfl (N := 1) rfl (cs := #[.int .i64 a0_0, .int .i64 a0_1, .int .i64 a0_2, .int .i64 a0_3, .int .i64 a0_4, .int .i64 a0_5, .int .i64 a0_6, .int .i64 a0_7, .int .i64 a0_8, .int .i64 a0_9, .int .i64 a0_10, .slice A0_11 l0_11.length c0_11, .slice A0_12 l0_12.length c0_12]) (t := 25) sqs ?_; intro gb134 hg w47 hbox hb; have BK134 := sqM (hbox); have GW134 := sqM (sqZ hg (sqB HB.out)); have GE134 := sqM (sqZ hg (sqB HB.out)); replace HB := sqM (below_step (sqB HB.out) hb); clear hb hbox hg; have hcz48_0 : w47.cell? ⟨gb134, 0, none⟩ = some (.int .i64 a0_0) := (blk_cell BK134.out 0).trans rfl; have hcz48_1 : w47.cell? ⟨gb134, 1, none⟩ = some (.int .i64 a0_1) := (blk_cell BK134.out 1).trans rfl; have hcz48_2 : w47.cell? ⟨gb134, 2, none⟩ = some (.int .i64 a0_2) := (blk_cell BK134.out 2).trans rfl; have hcz48_3 : w47.cell? ⟨gb134, 3, none⟩ = some (.int .i64 a0_3) := (blk_cell BK134.out 3).trans rfl; have hcz48_4 : w47.cell? ⟨gb134, 4, none⟩ = some (.int .i64 a0_4) := (blk_cell BK134.out 4).trans rfl; have hcz48_5 : w47.cell? ⟨gb134, 5, none⟩ = some (.int .i64 a0_5) := (blk_cell BK134.out 5).trans rfl; have hcz48_6 : w47.cell? ⟨gb134, 6, none⟩ = some (.int .i64 a0_6) := (blk_cell BK134.out 6).trans rfl; have hcz48_7 : w47.cell? ⟨gb134, 7, none⟩ = some (.int .i64 a0_7) := (blk_cell BK134.out 7).trans rfl; have hcz48_8 : w47.cell? ⟨gb134, 8, none⟩ = some (.int .i64 a0_8) := (blk_cell BK134.out 8).trans rfl; have hcz48_9 : w47.cell? ⟨gb134, 9, none⟩ = some (.int .i64 a0_9) := (blk_cell BK134.out 9).trans rfl; have hcz48_10 : w47.cell? ⟨gb134, 10, none⟩ = some (.int .i64 a0_10) := (blk_cell BK134.out 10).trans rfl; have hcz48_11 : w47.cell? ⟨gb134, 11, none⟩ = some (.slice A0_11 l0_11.length c0_11) := (blk_cell BK134.out 11).trans rfl; have hcz48_12 : w47.cell? ⟨gb134, 12, none⟩ = some (.slice A0_12 l0_12.length c0_12) := (blk_cell BK134.out 12).trans rfl; have hfz48_0 := blk_frozen BK134.out 0; have hfz48_1 := blk_frozen BK134.out 1; have hfz48_2 := blk_frozen BK134.out 2; have hfz48_3 := blk_frozen BK134.out 3; have hfz48_4 := blk_frozen BK134.out 4; have hfz48_5 := blk_frozen BK134.out 5; have hfz48_6 := blk_frozen BK134.out 6; have hfz48_7 := blk_frozen BK134.out 7; have hfz48_8 := blk_frozen BK134.out 8; have hfz48_9 := blk_frozen BK134.out 9; have hfz48_10 := blk_frozen BK134.out 10; have hfz48_11 := blk_frozen BK134.out 11; have hfz48_12 := blk_frozen BK134.out 12) | ((with_reducible refine gate_callee (f := 22) rfl ?_); refine goesL_ (some 7) rfl rfl Tryd.func22 (by kernel_rfl) rfl #[.agg #[.int .i64 a0_0, .int .i64 a0_1, .int .i64 a0_2, .int .i64 a0_3, .int .i64 a0_4, .int .i64 a0_5, .int .i64 a0_6, .int .i64 a0_7, .int .i64 a0_8, .int .i64 a0_9, .int .i64 a0_10, .slice A0_11 l0_11.length c0_11, .slice A0_12 l0_12.length c0_12]] rfl sqA ?_; (with_reducible refine (msg_Right.calls _ _ _ _ _ _ _ _ _ _ _ _ _ _ _ _ _ _ _ _ ?side1 ?side2 ?side3 ?side4 A2.out).mono ?_); (case side1 => repeat (first | exact (Kd.C_below HR0_11.out HB.out) | (with_reducible refine Kd.C_alloc ?_ _) | (with_reducible refine Kd.C_drewN ?_ _) | (with_reducible refine Kd.C_drew ?_))); (case side2 => exact HC0_11.out); (case side3 => repeat (first | exact (Kd.C_below HR0_12.out HB.out) | (with_reducible refine Kd.C_alloc ?_ _) | (with_reducible refine Kd.C_drewN ?_ _) | (with_reducible refine Kd.C_drew ?_))); (case side4 => exact HC0_12.out); rintro e w49 ⟨rfl, hb⟩; refine ⟨_, rfl, ?_⟩; replace BK134 := sqM (blk_below (sqK BK134.out) hb); replace HB := sqM (below_step (sqB1 HB.out GE134.out) hb); (try clear hb); (try clear hb2); (try clear hk); (try clear hi)))
   go_ret2
   exact ⟨sqE, sqB1 HB.out GE134.out⟩
 subst c3
 have H1 : ((tlv_Find.f k l0_12 61).bind fun bt136 => (if (bt136.1.length : Int) > 255 then (some ((⟨#[]⟩ : ByteArray), 3)) else (if (bt136.1.length : Int) ≥ 2 then (if 1 + (strOfNums bt136.1).size ≤ 9223372036854775807 then (some ((⟨#[105]⟩ : ByteArray) ++ (strOfNums bt136.1), 0)) else (none)) else (if a0_2 > 0 then ((some (([(a0_1) % 256] : List Int) : List Int)).bind fun y140 => (if 0 ≤ a0_2 then (if a0_2 ≤ (l0_11.length : Int) then (if y140.length + (l0_11.take (a0_2 : Int).toNat).length < 140737488355328 then ((some (y140 ++ (l0_11.take (a0_2 : Int).toNat) : List Int)).bind fun y144 => (if 1 + (strOfNums y144).size ≤ 9223372036854775807 then (some ((⟨#[104]⟩ : ByteArray) ++ (strOfNums y144), 0)) else (none))) else (none)) else (none)) else (none))) else (some ((⟨#[]⟩ : ByteArray), 5)))))) = some (r1, r2) := by rw [if_pos rfl] at H; exact H
 clear H
 have H := H1
 clear H1
 replace H := Option.bind_eq_some_iff.mp H
 obtain ⟨⟨t136, t137⟩, A40, H⟩ := H
 replace H : (if (t136.length : Int) > 255 then (some ((⟨#[]⟩ : ByteArray), 3)) else (if (t136.length : Int) ≥ 2 then (if 1 + (strOfNums t136).size ≤ 9223372036854775807 then (some ((⟨#[105]⟩ : ByteArray) ++ (strOfNums t136), 0)) else (none)) else (if a0_2 > 0 then ((some (([(a0_1) % 256] : List Int) : List Int)).bind fun y140 => (if 0 ≤ a0_2 then (if a0_2 ≤ (l0_11.length : Int) then (if y140.length + (l0_11.take (a0_2 : Int).toNat).length < 140737488355328 then ((some (y140 ++ (l0_11.take (a0_2 : Int).toNat) : List Int)).bind fun y144 => (if 1 + (strOfNums y144).size ≤ 9223372036854775807 then (some ((⟨#[104]⟩ : ByteArray) ++ (strOfNums y144), 0)) else (none))) else (none)) else (none)) else (none))) else (some ((⟨#[]⟩ : ByteArray), 5))))) = some (r1, r2) := H
 have A4 := Aside0.mk A40
 clear A40
 by_cases c5 : (t136.length : Int) > 255
 · rw [if_pos c5] at H
   have c5b0 : decide (255 < (t136.length : Int)) = true := decide_eq_true c5
   have c5b1 : decide (255 < t136.length) = true := decide_eq_true (by omega)
   clear c5
   simp only [Option.some.injEq, Prod.mk.injEq] at H
   obtain ⟨rfl, rfl⟩ := H
   go_enter Tryd.func10, Tryd.ntmps10
   go_wp2_with (first | ((with_reducible refine gate_dst (N := 1) rfl ?_); refine box_event rfl (N := 1) rfl (cs := #[.int .i64 a0_0, .int .i64 a0_1, .int .i64 a0_2, .int .i64 a0_3, .int .i64 a0_4, .int .i64 a0_5, .int .i64 a0_6, .int .i64 a0_7, .int .i64 a0_8, .int .i64 a0_9, .int .i64 a0_10, .slice A0_11 l0_11.length c0_11, .slice A0_12 l0_12.length c0_12]) (t := 25) sqs ?_; intro gb134 hg w6 hbox hb; have BK134 := sqM (hbox); have GW134 := sqM (sqZ hg (sqB HB.out)); have GE134 := sqM (sqZ hg (sqB HB.out)); replace HB := sqM (below_step (sqB HB.out) hb); clear hb hbox hg; have hcz7_0 : w6.cell? ⟨gb134, 0, none⟩ = some (.int .i64 a0_0) := (blk_cell BK134.out 0).trans rfl; have hcz7_1 : w6.cell? ⟨gb134, 1, none⟩ = some (.int .i64 a0_1) := (blk_cell BK134.out 1).trans rfl; have hcz7_2 : w6.cell? ⟨gb134, 2, none⟩ = some (.int .i64 a0_2) := (blk_cell BK134.out 2).trans rfl; have hcz7_3 : w6.cell? ⟨gb134, 3, none⟩ = some (.int .i64 a0_3) := (blk_cell BK134.out 3).trans rfl; have hcz7_4 : w6.cell? ⟨gb134, 4, none⟩ = some (.int .i64 a0_4) := (blk_cell BK134.out 4).trans rfl; have hcz7_5 : w6.cell? ⟨gb134, 5, none⟩ = some (.int .i64 a0_5) := (blk_cell BK134.out 5).trans rfl; have hcz7_6 : w6.cell? ⟨gb134, 6, none⟩ = some (.int .i64 a0_6) := (blk_cell BK134.out 6).trans rfl; have hcz7_7 : w6.cell? ⟨gb134, 7, none⟩ = some (.int .i64 a0_7) := (blk_cell BK134.out 7).trans rfl; have hcz7_8 : w6.cell? ⟨gb134, 8, none⟩ = some (.int .i64 a0_8) := (blk_cell BK134.out 8).trans rfl; have hcz7_9 : w6.cell? ⟨gb134, 9, none⟩ = some (.int .i64 a0_9) := (blk_cell BK134.out 9).trans rfl; have hcz7_10 : w6.cell? ⟨gb134, 10, none⟩ = some (.int .i64 a0_10) := (blk_cell BK134.out 10).trans rfl; have hcz7_11 : w6.cell? ⟨gb134, 11, none⟩ = some (.slice A0_11 l0_11.length c0_11) := (blk_cell BK134.out 11).trans rfl; have hcz7_12 : w6.cell? ⟨gb134, 12, none⟩ = some (.slice A0_12 l0_12.length c0_12) := (blk_cell BK134.out 12).trans rfl; have hfz7_0 := blk_frozen BK134.out 0; have hfz7_1 := blk_frozen BK134.out 1; have hfz7_2 := blk_frozen BK134.out 2; have hfz7_3 := blk_frozen BK134.out 3; have hfz7_4 := blk_frozen BK134.out 4; have hfz7_5 := blk_frozen BK134.out 5; have hfz7_6 := blk_frozen BK134.out 6; have hfz7_7 := blk_frozen BK134.out 7; have hfz7_8 := blk_frozen BK134.out 8; have hfz7_9 := blk_frozen BK134.out 9; have hfz7_10 := blk_frozen BK134.out 10; have hfz7_11 := blk_frozen BK134.out 11; have hfz7_12 := blk_frozen BK134.out 12) | ((with_reducible refine gate_callee (f := 22) rfl ?_); refine goesL_ (some 7) rfl rfl Tryd.func22 (by kernel_rfl) rfl #[.agg #[.int .i64 a0_0, .int .i64 a0_1, .int .i64 a0_2, .int .i64 a0_3, .int .i64 a0_4, .int .i64 a0_5, .int .i64 a0_6, .int .i64 a0_7, .int .i64 a0_8, .int .i64 a0_9, .int .i64 a0_10, .slice A0_11 l0_11.length c0_11, .slice A0_12 l0_12.length c0_12]] rfl sqA ?_; (with_reducible refine (msg_Right.calls _ _ _ _ _ _ _ _ _ _ _ _ _ _ _ _ _ _ _ _ ?side1 ?side2 ?side3 ?side4 A2.out).mono ?_); (case side1 => repeat (first | exact (Kd.C_below HR0_11.out HB.out) | (with_reducible refine Kd.C_alloc ?_ _) | (with_reducible refine Kd.C_drewN ?_ _) | (with_reducible refine Kd.C_drew ?_))); (case side2 => exact HC0_11.out); (case side3 => repeat (first | exact (Kd.C_below HR0_12.out HB.out) | (with_reducible refine Kd.C_alloc ?_ _) | (with_reducible refine Kd.C_drewN ?_ _) | (with_reducible refine Kd.C_drew ?_))); (case side4 => exact HC0_12.out); rintro e w8 ⟨rfl, hb⟩; refine ⟨_, rfl, ?_⟩; replace BK134 := sqM (blk_below (sqK BK134.out) hb); replace HB := sqM (below_step (sqB1 HB.out GE134.out) hb); (try clear hb); (try clear hb2); (try clear hk); (try clear hi); have hcz9_0 : w8.cell? ⟨gb134, 0, none⟩ = some (.int .i64 a0_0) := (blk_cell BK134.out 0).trans rfl; have hcz9_1 : w8.cell? ⟨gb134, 1, none⟩ = some (.int .i64 a0_1) := (blk_cell BK134.out 1).trans rfl; have hcz9_2 : w8.cell? ⟨gb134, 2, none⟩ = some (.int .i64 a0_2) := (blk_cell BK134.out 2).trans rfl; have hcz9_3 : w8.cell? ⟨gb134, 3, none⟩ = some (.int .i64 a0_3) := (blk_cell BK134.out 3).trans rfl; have hcz9_4 : w8.cell? ⟨gb134, 4, none⟩ = some (.int .i64 a0_4) := (blk_cell BK134.out 4).trans rfl; have hcz9_5 : w8.cell? ⟨gb134, 5, none⟩ = some (.int .i64 a0_5) := (blk_cell BK134.out 5).trans rfl; have hcz9_6 : w8.cell? ⟨gb134, 6, none⟩ = some (.int .i64 a0_6) := (blk_cell BK134.out 6).trans rfl; have hcz9_7 : w8.cell? ⟨gb134, 7, none⟩ = some (.int .i64 a0_7) := (blk_cell BK134.out 7).trans rfl; have hcz9_8 : w8.cell? ⟨gb134, 8, none⟩ = some (.int .i64 a0_8) := (blk_cell BK134.out 8).trans rfl; have hcz9_9 : w8.cell? ⟨gb134, 9, none⟩ = some (.int .i64 a0_9) := (blk_cell BK134.out 9).trans rfl; have hcz9_10 : w8.cell? ⟨gb134, 10, none⟩ = some (.int .i64 a0_10) := (blk_cell BK134.out 10).trans rfl; have hcz9_11 : w8.cell? ⟨gb134, 11, none⟩ = some (.slice A0_11 l0_11.length c0_11) := (blk_cell BK134.out 11).trans rfl; have hcz9_12 : w8.cell? ⟨gb134, 12, none⟩ = some (.slice A0_12 l0_12.length c0_12) := (blk_cell BK134.out 12).trans rfl; have hfz9_0 := blk_frozen BK134.out 0; have hfz9_1 := blk_frozen BK134.out 1; have hfz9_2 := blk_frozen BK134.out 2; have hfz9_3 := blk_frozen BK134.out 3; have hfz9_4 := blk_frozen BK134.out 4; have hfz9_5 := blk_frozen BK134.out 5; have hfz9_6 := blk_frozen BK134.out 6; have hfz9_7 := blk_frozen BK134.out 7; have hfz9_8 := blk_frozen BK134.out 8; have hfz9_9 := blk_frozen BK134.out 9; have hfz9_10 := blk_frozen BK134.out 10; have hfz9_11 := blk_frozen BK134.out 11; have hfz9_12 := blk_frozen BK134.out 12) | ((with_reducible refine gate_callee (f := 23) rfl ?_); refine goesL_ (some 12) rfl rfl Tryd.func23 (by kernel_rfl) rfl #[.slice A0_12 l0_12.length c0_12, .int .i64 61] rfl sqA ?_; (with_reducible refine (tlv_Find.calls _ _ _ _ _ _ _ _ ?side1 ?side2 A4.out).mono ?_); (case side1 => repeat (first | exact (Kd.C_below HR0_12.out HB.out) | (with_reducible refine Kd.C_alloc ?_ _) | (with_reducible refine Kd.C_drewN ?_ _) | (with_reducible refine Kd.C_drew ?_))); (case side2 => exact HC0_12.out); rintro e w10 ⟨v138, rfl, ho0, hb⟩; refine ⟨_, rfl, ?_⟩; have HO139 := sqM (Kd.R_lower ho0 (below_size (sqB1 HB.out GE134.out))); replace BK134 := sqM (blk_below (sqK BK134.out) hb); replace HB := sqM (below_step (sqB1 HB.out GE134.out) hb); (try clear hb); (try clear hb2); (try clear hk); (try clear hi); (try clear ho0); obtain ⟨Ao11, co11, eo11⟩ := Kd.R_slice HO139.out; subst eo11))
   go_ret2
   exact ⟨sqE, sqB1 HB.out GE134.out⟩
 rw [if_neg c5] at H
 have c5b0 : decide (255 < (t136.length : Int)) = false := decide_eq_false c5
 have c5b1 : decide (255 < t136.length) = false := decide_eq_false (by omega)
 clear c5
 by_cases c12 : (t136.length : Int) ≥ 2
 · rw [if_pos c12] at H
   have c12b0 : decide (2 ≤ (t136.length : Int)) = true := decide_eq_true c12
   have c12b1 : decide (2 ≤ t136.length) = true := decide_eq_true (by omega)
   clear c12
   by_cases c13 : 1 + (strOfNums t136).size ≤ 9223372036854775807
   rotate_left
   · rw [if_neg c13] at H
     exact absurd H (by simp)
   rw [if_pos c13] at H
   have c13b0 := eq_true c13
   have c13b1 : decide (1 + (strOfNums t136).size ≤ 9223372036854775807) = true := decide_eq_true c13
   try have c13b2 : (9223372036854775807 < 1 + (strOfNums t136).size) = False := eq_false (Nat.not_lt.2 c13)
   (try (have c13q := c13; simp only [ByteArray.size_append, Com.mk_size, List.size_toArray, List.length_cons, List.length_nil, Nat.zero_add] at c13q; have c13b3 := eq_false (Nat.not_lt.2 c13q); have c13b4 := eq_true c13q; clear c13q))
   simp only [Option.some.injEq, Prod.mk.injEq] at H
   obtain ⟨rfl, rfl⟩ := H
   go_enter Tryd.func10, Tryd.ntmps10
   go_wp2_with (first | ((with_reducible refine gate_dst (N := 1) rfl ?_); refine box_event rfl (N := 1) rfl (cs := #[.int .i64 a0_0, .int .i64 a0_1, .int .i64 a0_2, .int .i64 a0_3, .int .i64 a0_4, .int .i64 a0_5, .int .i64 a0_6, .int .i64 a0_7, .int .i64 a0_8, .int .i64 a0_9, .int .i64 a0_10, .slice A0_11 l0_11.length c0_11, .slice A0_12 l0_12.length c0_12]) (t := 25) sqs ?_; intro gb134 hg w14 hbox hb; have BK134 := sqM (hbox); have GW134 := sqM (sqZ hg (sqB HB.out)); have GE134 := sqM (sqZ hg (sqB HB.out)); replace HB := sqM (below_step (sqB HB.out) hb); clear hb hbox hg; have hcz15_0 : w14.cell? ⟨gb134, 0, none⟩ = some (.int .i64 a0_0) := (blk_cell BK134.out 0).trans rfl; have hcz15_1 : w14.cell? ⟨gb134, 1, none⟩ = some (.int .i64 a0_1) := (blk_cell BK134.out 1).trans rfl; have hcz15_2 : w14.cell? ⟨gb134, 2, none⟩ = some (.int .i64 a0_2) := (blk_cell BK134.out 2).trans rfl; have hcz15_3 : w14.cell? ⟨gb134, 3, none⟩ = some (.int .i64 a0_3) := (blk_cell BK134.out 3).trans rfl; have hcz15_4 : w14.cell? ⟨gb134, 4, none⟩ = some (.int .i64 a0_4) := (blk_cell BK134.out 4).trans rfl; have hcz15_5 : w14.cell? ⟨gb134, 5, none⟩ = some (.int .i64 a0_5) := (blk_cell BK134.out 5).trans rfl; have hcz15_6 : w14.cell? ⟨gb134, 6, none⟩ = some (.int .i64 a0_6) := (blk_cell BK134.out 6).trans rfl; have hcz15_7 : w14.cell? ⟨gb134, 7, none⟩ = some (.int .i64 a0_7) := (blk_cell BK134.out 7).trans rfl; have hcz15_8 : w14.cell? ⟨gb134, 8, none⟩ = some (.int .i64 a0_8) := (blk_cell BK134.out 8).trans rfl; have hcz15_9 : w14.cell? ⟨gb134, 9, none⟩ = some (.int .i64 a0_9) := (blk_cell BK134.out 9).trans rfl; have hcz15_10 : w14.cell? ⟨gb134, 10, none⟩ = some (.int .i64 a0_10) := (blk_cell BK134.out 10).trans rfl; have hcz15_11 : w14.cell? ⟨gb134, 11, none⟩ = some (.slice A0_11 l0_11.length c0_11) := (blk_cell BK134.out 11).trans rfl; have hcz15_12 : w14.cell? ⟨gb134, 12, none⟩ = some (.slice A0_12 l0_12.length c0_12) := (blk_cell BK134.out 12).trans rfl; have hfz15_0 := blk_frozen BK134.out 0; have hfz15_1 := blk_frozen BK134.out 1; have hfz15_2 := blk_frozen BK134.out 2; have hfz15_3 := blk_frozen BK134.out 3; have hfz15_4 := blk_frozen BK134.out 4; have hfz15_5 := blk_frozen BK134.out 5; have hfz15_6 := blk_frozen BK134.out 6; have hfz15_7 := blk_frozen BK134.out 7; have hfz15_8 := blk_frozen BK134.out 8; have hfz15_9 := blk_frozen BK134.out 9; have hfz15_10 := blk_frozen BK134.out 10; have hfz15_11 := blk_frozen BK134.out 11; have hfz15_12 := blk_frozen BK134.out 12) | ((with_reducible refine gate_callee (f := 22) rfl ?_); refine goesL_ (some 7) rfl rfl Tryd.func22 (by kernel_rfl) rfl #[.agg #[.int .i64 a0_0, .int .i64 a0_1, .int .i64 a0_2, .int .i64 a0_3, .int .i64 a0_4, .int .i64 a0_5, .int .i64 a0_6, .int .i64 a0_7, .int .i64 a0_8, .int .i64 a0_9, .int .i64 a0_10, .slice A0_11 l0_11.length c0_11, .slice A0_12 l0_12.length c0_12]] rfl sqA ?_; (with_reducible refine (msg_Right.calls _ _ _ _ _ _ _ _ _ _ _ _ _ _ _ _ _ _ _ _ ?side1 ?side2 ?side3 ?side4 A2.out).mono ?_); (case side1 => repeat (first | exact (Kd.C_below HR0_11.out HB.out) | (with_reducible refine Kd.C_alloc ?_ _) | (with_reducible refine Kd.C_drewN ?_ _) | (with_reducible refine Kd.C_drew ?_))); (case side2 => exact HC0_11.out); (case side3 => repeat (first | exact (Kd.C_below HR0_12.out HB.out) | (with_reducible refine Kd.C_alloc ?_ _) | (with_reducible refine Kd.C_drewN ?_ _) | (with_reducible refine Kd.C_drew ?_))); (case side4 => exact HC0_12.out); rintro e w16 ⟨rfl, hb⟩; refine ⟨_, rfl, ?_⟩; replace BK134 := sqM (blk_below (sqK BK134.out) hb); replace HB := sqM (below_step (sqB1 HB.out GE134.out) hb); (try clear hb); (try clear hb2); (try clear hk); (try clear hi); have hcz17_0 : w16.cell? ⟨gb134, 0, none⟩ = some (.int .i64 a0_0) := (blk_cell BK134.out 0).trans rfl; have hcz17_1 : w16.cell? ⟨gb134, 1, none⟩ = some (.int .i64 a0_1) := (blk_cell BK134.out 1).trans rfl; have hcz17_2 : w16.cell? ⟨gb134, 2, none⟩ = some (.int .i64 a0_2) := (blk_cell BK134.out 2).trans rfl; have hcz17_3 : w16.cell? ⟨gb134, 3, none⟩ = some (.int .i64 a0_3) := (blk_cell BK134.out 3).trans rfl; have hcz17_4 : w16.cell? ⟨gb134, 4, none⟩ = some (.int .i64 a0_4) := (blk_cell BK134.out 4).trans rfl; have hcz17_5 : w16.cell? ⟨gb134, 5, none⟩ = some (.int .i64 a0_5) := (blk_cell BK134.out 5).trans rfl; have hcz17_6 : w16.cell? ⟨gb134, 6, none⟩ = some (.int .i64 a0_6) := (blk_cell BK134.out 6).trans rfl; have hcz17_7 : w16.cell? ⟨gb134, 7, none⟩ = some (.int .i64 a0_7) := (blk_cell BK134.out 7).trans rfl; have hcz17_8 : w16.cell? ⟨gb134, 8, none⟩ = some (.int .i64 a0_8) := (blk_cell BK134.out 8).trans rfl; have hcz17_9 : w16.cell? ⟨gb134, 9, none⟩ = some (.int .i64 a0_9) := (blk_cell BK134.out 9).trans rfl; have hcz17_10 : w16.cell? ⟨gb134, 10, none⟩ = some (.int .i64 a0_10) := (blk_cell BK134.out 10).trans rfl; have hcz17_11 : w16.cell? ⟨gb134, 11, none⟩ = some (.slice A0_11 l0_11.length c0_11) := (blk_cell BK134.out 11).trans rfl; have hcz17_12 : w16.cell? ⟨gb134, 12, none⟩ = some (.slice A0_12 l0_12.length c0_12) := (blk_cell BK134.out 12).trans rfl; have hfz17_0 := blk_frozen BK134.out 0; have hfz17_1 := blk_frozen BK134.out 1; have hfz17_2 := blk_frozen BK134.out 2; have hfz17_3 := blk_frozen BK134.out 3; have hfz17_4 := blk_frozen BK134.out 4; have hfz17_5 := blk_frozen BK134.out 5; have hfz17_6 := blk_frozen BK134.out 6; have hfz17_7 := blk_frozen BK134.out 7; have hfz17_8 := blk_frozen BK134.out 8; have hfz17_9 := blk_frozen BK134.out 9; have hfz17_10 := blk_frozen BK134.out 10; have hfz17_11 := blk_frozen BK134.out 11; have hfz17_12 := blk_frozen BK134.out 12) | ((with_reducible refine gate_callee (f := 23) rfl ?_); refine goesL_ (some 12) rfl rfl Tryd.func23 (by kernel_rfl) rfl #[.slice A0_12 l0_12.length c0_12, .int .i64 61] rfl sqA ?_; (with_reducible refine (tlv_Find.calls _ _ _ _ _ _ _ _ ?side1 ?side2 A4.out).mono ?_); (case side1 => repeat (first | exact (Kd.C_below HR0_12.out HB.out) | (with_reducible refine Kd.C_alloc ?_ _) | (with_reducible refine Kd.C_drewN ?_ _) | (with_reducible refine Kd.C_drew ?_))); (case side2 => exact HC0_12.out); rintro e w18 ⟨v138, rfl, ho0, hb⟩; refine ⟨_, rfl, ?_⟩; have HO139 := sqM (Kd.R_lower ho0 (below_size (sqB1 HB.out GE134.out))); replace BK134 := sqM (blk_below (sqK BK134.out) hb); replace HB := sqM (below_step (sqB1 HB.out GE134.out) hb); (try clear hb); (try clear hb2); (try clear hk); (try clear hi); (try clear ho0); obtain ⟨Ao19, co19, eo19⟩ := Kd.R_slice HO139.out; subst eo19; have hcv20 := own_string (P := Tryd.prog) Tryd.underlying22 Tryd.underlying5 Tryd.underlying9 (Kd.own_of_R HO139.out); have hcw21 := fun n_ => own_string (P := Tryd.prog) Tryd.underlying22 Tryd.underlying5 Tryd.underlying9 (Kd.own_of_R (Kd.R_drewN HO139.out n_))))
   go_ret2
   exact ⟨sqE, sqB1 HB.out GE134.out⟩
 rw [if_neg c12] at H
 have c12b0 : decide (2 ≤ (t136.length : Int)) = false := decide_eq_false c12
 have c12b1 : decide (2 ≤ t136.length) = false := decide_eq_false (by omega)
 clear c12
 by_cases c22 : a0_2 > 0
 rotate_left
 · rw [if_neg c22] at H
   have c22b0 : decide (0 < a0_2) = false := decide_eq_false c22
   clear c22
   simp only [Option.some.injEq, Prod.mk.injEq] at H
   obtain ⟨rfl, rfl⟩ := H
   go_enter Tryd.func10, Tryd.ntmps10
   go_wp2_with (first | ((with_reducible refine gate_dst (N := 1) rfl ?_); refine box_event rfl (N := 1) rfl (cs := #[.int .i64 a0_0, .int .i64 a0_1, .int .i64 a0_2, .int .i64 a0_3, .int .i64 a0_4, .int .i64 a0_5, .int .i64 a0_6, .int .i64 a0_7, .int .i64 a0_8, .int .i64 a0_9, .int .i64 a0_10, .slice A0_11 l0_11.length c0_11, .slice A0_12 l0_12.length c0_12]) (t := 25) sqs ?_; intro gb134 hg w40 hbox hb; have BK134 := sqM (hbox); have GW134 := sqM (sqZ hg (sqB HB.out)); have GE134 := sqM (sqZ hg (sqB HB.out)); replace HB := sqM (below_step (sqB HB.out) hb); clear hb hbox hg; have hcz41_0 : w40.cell? ⟨gb134, 0, none⟩ = some (.int .i64 a0_0) := (blk_cell BK134.out 0).trans rfl; have hcz41_1 : w40.cell? ⟨gb134, 1, none⟩ = some (.int .i64 a0_1) := (blk_cell BK134.out 1).trans rfl; have hcz41_2 : w40.cell? ⟨gb134, 2, none⟩ = some (.int .i64 a0_2) := (blk_cell BK134.out 2).trans rfl; have hcz41_3 : w40.cell? ⟨gb134, 3, none⟩ = some (.int .i64 a0_3) := (blk_cell BK134.out 3).trans rfl; have hcz41_4 : w40.cell? ⟨gb134, 4, none⟩ = some (.int .i64 a0_4) := (blk_cell BK134.out 4).trans rfl; have hcz41_5 : w40.cell? ⟨gb134, 5, none⟩ = some (.int .i64 a0_5) := (blk_cell BK134.out 5).trans rfl; have hcz41_6 : w40.cell? ⟨gb134, 6, none⟩ = some (.int .i64 a0_6) := (blk_cell BK134.out 6).trans rfl; have hcz41_7 : w40.cell? ⟨gb134, 7, none⟩ = some (.int .i64 a0_7) := (blk_cell BK134.out 7).trans rfl; have hcz41_8 : w40.cell? ⟨gb134, 8, none⟩ = some (.int .i64 a0_8) := (blk_cell BK134.out 8).trans rfl; have hcz41_9 : w40.cell? ⟨gb134, 9, none⟩ = some (.int .i64 a0_9) := (blk_cell BK134.out 9).trans rfl; have hcz41_10 : w40.cell? ⟨gb134, 10, none⟩ = some (.int .i64 a0_10) := (blk_cell BK134.out 10).trans rfl; have hcz41_11 : w40.cell? ⟨gb134, 11, none⟩ = some (.slice A0_11 l0_11.length c0_11) := (blk_cell BK134.out 11).trans rfl; have hcz41_12 : w40.cell? ⟨gb134, 12, none⟩ = some (.slice A0_12 l0_12.length c0_12) := (blk_cell BK134.out 12).trans rfl; have hfz41_0 := blk_frozen BK134.out 0; have hfz41_1 := blk_frozen BK134.out 1; have hfz41_2 := blk_frozen BK134.out 2; have hfz41_3 := blk_frozen BK134.out 3; have hfz41_4 := blk_frozen BK134.out 4; have hfz41_5 := blk_frozen BK134.out 5; have hfz41_6 := blk_frozen BK134.out 6; have hfz41_7 := blk_frozen BK134.out 7; have hfz41_8 := blk_frozen BK134.out 8; have hfz41_9 := blk_frozen BK134.out 9; have hfz41_10 := blk_frozen BK134.out 10; have hfz41_11 := blk_frozen BK134.out 11; have hfz41_12 := blk_frozen BK134.out 12) | ((with_reducible refine gate_callee (f := 22) rfl ?_); refine goesL_ (some 7) rfl rfl Tryd.func22 (by kernel_rfl) rfl #[.agg #[.int .i64 a0_0, .int .i64 a0_1, .int .i64 a0_2, .int .i64 a0_3, .int .i64 a0_4, .int .i64 a0_5, .int .i64 a0_6, .int .i64 a0_7, .int .i64 a0_8, .int .i64 a0_9, .int .i64 a0_10, .slice A0_11 l0_11.length c0_11, .slice A0_12 l0_12.length c0_12]] rfl sqA ?_; (with_reducible refine (msg_Right.calls _ _ _ _ _ _ _ _ _ _ _ _ _ _ _ _ _ _ _ _ ?side1 ?side2 ?side3 ?side4 A2.out).mono ?_); (case side1 => repeat (first | exact (Kd.C_below HR0_11.out HB.out) | (with_reducible refine Kd.C_alloc ?_ _) | (with_reducible refine Kd.C_drewN ?_ _) | (with_reducible refine Kd.C_drew ?_))); (case side2 => exact HC0_11.out); (case side3 => repeat (first | exact (Kd.C_below HR0_12.out HB.out) | (with_reducible refine Kd.C_alloc ?_ _) | (with_reducible refine Kd.C_drewN ?_ _) | (with_reducible refine Kd.C_drew ?_))); (case side4 => exact HC0_12.out); rintro e w42 ⟨rfl, hb⟩; refine ⟨_, rfl, ?_⟩; replace BK134 := sqM (blk_below (sqK BK134.out) hb); replace HB := sqM (below_step (sqB1 HB.out GE134.out) hb); (try clear hb); (try clear hb2); (try clear hk); (try clear hi); have hcz43_0 : w42.cell? ⟨gb134, 0, none⟩ = some (.int .i64 a0_0) := (blk_cell BK134.out 0).trans rfl; have hcz43_1 : w42.cell? ⟨gb134, 1, none⟩ = some (.int .i64 a0_1) := (blk_cell BK134.out 1).trans rfl; have hcz43_2 : w42.cell? ⟨gb134, 2, none⟩ = some (.int .i64 a0_2) := (blk_cell BK134.out 2).trans rfl; have hcz43_3 : w42.cell? ⟨gb134, 3, none⟩ = some (.int .i64 a0_3) := (blk_cell BK134.out 3).trans rfl; have hcz43_4 : w42.cell? ⟨gb134, 4, none⟩ = some (.int .i64 a0_4) := (blk_cell BK134.out 4).trans rfl; have hcz43_5 : w42.cell? ⟨gb134, 5, none⟩ = some (.int .i64 a0_5) := (blk_cell BK134.out 5).trans rfl; have hcz43_6 : w42.cell? ⟨gb134, 6, none⟩ = some (.int .i64 a0_6) := (blk_cell BK134.out 6).trans rfl; have hcz43_7 : w42.cell? ⟨gb134, 7, none⟩ = some (.int .i64 a0_7) := (blk_cell BK134.out 7).trans rfl; have hcz43_8 : w42.cell? ⟨gb134, 8, none⟩ = some (.int .i64 a0_8) := (blk_cell BK134.out 8).trans rfl; have hcz43_9 : w42.cell? ⟨gb134, 9, none⟩ = some (.int .i64 a0_9) := (blk_cell BK134.out 9).trans rfl; have hcz43_10 : w42.cell? ⟨gb134, 10, none⟩ = some (.int .i64 a0_10) := (blk_cell BK134.out 10).trans rfl; have hcz43_11 : w42.cell? ⟨gb134, 11, none⟩ = some (.slice A0_11 l0_11.length c0_11) := (blk_cell BK134.out 11).trans rfl; have hcz43_12 : w42.cell? ⟨gb134, 12, none⟩ = some (.slice A0_12 l0_12.length c0_12) := (blk_cell BK134.out 12).trans rfl; have hfz43_0 := blk_frozen BK134.out 0; have hfz43_1 := blk_frozen BK134.out 1; have hfz43_2 := blk_frozen BK134.out 2; have hfz43_3 := blk_frozen BK134.out 3; have hfz43_4 := blk_frozen BK134.out 4; have hfz43_5 := blk_frozen BK134.out 5; have hfz43_6 := blk_frozen BK134.out 6; have hfz43_7 := blk_frozen BK134.out 7; have hfz43_8 := blk_frozen BK134.out 8; have hfz43_9 := blk_frozen BK134.out 9; have hfz43_10 := blk_frozen BK134.out 10; have hfz43_11 := blk_frozen BK134.out 11; have hfz43_12 := blk_frozen BK134.out 12) | ((with_reducible refine gate_callee (f := 23) rfl ?_); refine goesL_ (some 12) rfl rfl Tryd.func23 (by kernel_rfl) rfl #[.slice A0_12 l0_12.length c0_12, .int .i64 61] rfl sqA ?_; (with_reducible refine (tlv_Find.calls _ _ _ _ _ _ _ _ ?side1 ?side2 A4.out).mono ?_); (case side1 => repeat (first | exact (Kd.C_below HR0_12.out HB.out) | (with_reducible refine Kd.C_alloc ?_ _) | (with_reducible refine Kd.C_drewN ?_ _) | (with_reducible refine Kd.C_drew ?_))); (case side2 => exact HC0_12.out); rintro e w44 ⟨v138, rfl, ho0, hb⟩; refine ⟨_, rfl, ?_⟩; have HO139 := sqM (Kd.R_lower ho0 (below_size (sqB1 HB.out GE134.out))); replace BK134 := sqM (blk_below (sqK BK134.out) hb); replace HB := sqM (below_step (sqB1 HB.out GE134.out) hb); (try clear hb); (try clear hb2); (try clear hk); (try clear hi); (try clear ho0); obtain ⟨Ao45, co45, eo45⟩ := Kd.R_slice HO139.out; subst eo45; have hcz46_0 : w44.cell? ⟨gb134, 0, none⟩ = some (.int .i64 a0_0) := (blk_cell BK134.out 0).trans rfl; have hcz46_1 : w44.cell? ⟨gb134, 1, none⟩ = some (.int .i64 a0_1) := (blk_cell BK134.out 1).trans rfl; have hcz46_2 : w44.cell? ⟨gb134, 2, none⟩ = some (.int .i64 a0_2) := (blk_cell BK134.out 2).trans rfl; have hcz46_3 : w44.cell? ⟨gb134, 3, none⟩ = some (.int .i64 a0_3) := (blk_cell BK134.out 3).trans rfl; have hcz46_4 : w44.cell? ⟨gb134, 4, none⟩ = some (.int .i64 a0_4) := (blk_cell BK134.out 4).trans rfl; have hcz46_5 : w44.cell? ⟨gb134, 5, none⟩ = some (.int .i64 a0_5) := (blk_cell BK134.out 5).trans rfl; have hcz46_6 : w44.cell? ⟨gb134, 6, none⟩ = some (.int .i64 a0_6) := (blk_cell BK134.out 6).trans rfl; have hcz46_7 : w44.cell? ⟨gb134, 7, none⟩ = some (.int .i64 a0_7) := (blk_cell BK134.out 7).trans rfl; have hcz46_8 : w44.cell? ⟨gb134, 8, none⟩ = some (.int .i64 a0_8) := (blk_cell BK134.out 8).trans rfl; have hcz46_9 : w44.cell? ⟨gb134, 9, none⟩ = some (.int .i64 a0_9) := (blk_cell BK134.out 9).trans rfl; have hcz46_10 : w44.cell? ⟨gb134, 10, none⟩ = some (.int .i64 a0_10) := (blk_cell BK134.out 10).trans rfl; have hcz46_11 : w44.cell? ⟨gb134, 11, none⟩ = some (.slice A0_11 l0_11.length c0_11) := (blk_cell BK134.out 11).trans rfl; have hcz46_12 : w44.cell? ⟨gb134, 12, none⟩ = some (.slice A0_12 l0_12.length c0_12) := (blk_cell BK134.out 12).trans rfl; have hfz46_0 := blk_frozen BK134.out 0; have hfz46_1 := blk_frozen BK134.out 1; have hfz46_2 := blk_frozen BK134.out 2; have hfz46_3 := blk_frozen BK134.out 3; have hfz46_4 := blk_frozen BK134.out 4; have hfz46_5 := blk_frozen BK134.out 5; have hfz46_6 := blk_frozen BK134.out 6; have hfz46_7 := blk_frozen BK134.out 7; have hfz46_8 := blk_frozen BK134.out 8; have hfz46_9 := blk_frozen BK134.out 9; have hfz46_10 := blk_frozen BK134.out 10; have hfz46_11 := blk_frozen BK134.out 11; have hfz46_12 := blk_frozen BK134.out 12))
   go_ret2
   exact ⟨sqE, sqB1 HB.out GE134.out⟩
 rw [if_pos c22] at H
 have c22b0 : decide (0 < a0_2) = true := decide_eq_true c22
 clear c22
 obtain ⟨y140, hy140⟩ : ∃ y_ : List Int, y_ = (([(a0_1) % 256] : List Int)) := ⟨_, rfl⟩
 replace H : (if 0 ≤ a0_2 then (if a0_2 ≤ (l0_11.length : Int) then (if y140.length + (l0_11.take (a0_2 : Int).toNat).length < 140737488355328 then ((some (y140 ++ (l0_11.take (a0_2 : Int).toNat) : List Int)).bind fun y144 => (if 1 + (strOfNums y144).size ≤ 9223372036854775807 then (some ((⟨#[104]⟩ : ByteArray) ++ (strOfNums y144), 0)) else (none))) else (none)) else (none)) else (none)) = some (r1, r2) := by first | (rw [hy140]; with_reducible exact H) | (have H2_ := (Option.bind_some _ _).symm.trans H; rw [hy140]; with_reducible exact H2_) | (have H2_ := (Option.bind_some _ _).symm.trans H; with_reducible exact H2_) | with_reducible exact H | (rw [hy140]; exact H) | exact H
 have Ny140 := Aside0.mk hy140
 clear hy140
 by_cases c23 : 0 ≤ a0_2
 rotate_left
 · rw [if_neg c23] at H
   exact absurd H (by simp)
 rw [if_pos c23] at H
 have c23b0 := eq_true c23
 have c23b1 : decide (0 ≤ a0_2) = true := decide_eq_true c23
 clear c23
 by_cases c24 : a0_2 ≤ (l0_11.length : Int)
 rotate_left
 · rw [if_neg c24] at H
   exact absurd H (by simp)
 rw [if_pos c24] at H
 have c24b0 := eq_true c24
 have c24b1 : decide (a0_2 ≤ (l0_11.length : Int)) = true := decide_eq_true c24
 clear c24
 by_cases c25 : y140.length + (l0_11.take (a0_2 : Int).toNat).length < 140737488355328
 rotate_left
 · rw [if_neg c25] at H
   exact absurd H (by simp)
 rw [if_pos c25] at H
 have LMc25 := Aside0.mk c25
 clear c25
 obtain ⟨y144, hy144⟩ : ∃ y_ : List Int, y_ = (y140 ++ (l0_11.take (a0_2 : Int).toNat)) := ⟨_, rfl⟩
 replace H : (if 1 + (strOfNums y144).size ≤ 9223372036854775807 then (some ((⟨#[104]⟩ : ByteArray) ++ (strOfNums y144), 0)) else (none)) = some (r1, r2) := by first | (rw [hy144]; with_reducible exact H) | (have H2_ := (Option.bind_some _ _).symm.trans H; rw [hy144]; with_reducible exact H2_) | (have H2_ := (Option.bind_some _ _).symm.trans H; with_reducible exact H2_) | with_reducible exact H | (rw [hy144]; exact H) | exact H
 have Ny144 := Aside0.mk hy144
 clear hy144
 by_cases c26 : 1 + (strOfNums y144).size ≤ 9223372036854775807
 rotate_left
 · rw [if_neg c26] at H
   exact absurd H (by simp)
 rw [if_pos c26] at H
 have c26b0 := eq_true c26
 have c26b1 : decide (1 + (strOfNums y144).size ≤ 9223372036854775807) = true := decide_eq_true c26
 try have c26b2 : (9223372036854775807 < 1 + (strOfNums y144).size) = False := eq_false (Nat.not_lt.2 c26)
 (try (have c26q := c26; simp only [ByteArray.size_append, Com.mk_size, List.size_toArray, List.length_cons, List.length_nil, Nat.zero_add] at c26q; have c26b3 := eq_false (Nat.not_lt.2 c26q); have c26b4 := eq_true c26q; clear c26q))
 simp only [Option.some.injEq, Prod.mk.injEq] at H
 obtain ⟨rfl, rfl⟩ := H
 go_enter Tryd.func10, Tryd.ntmps10
 try go_wp2_with (first | ((with_reducible refine gate_dst (N := 1) rfl ?_); refine box_event rfl (N := 1) rfl (cs := #[.int .i64 a0_0, .int .i64 a0_1, .int .i64 a0_2, .int .i64 a0_3, .int .i64 a0_4, .int .i64 a0_5, .int .i64 a0_6, .int .i64 a0_7, .int .i64 a0_8, .int .i64 a0_9, .int .i64 a0_10, .slice A0_11 l0_11.length c0_11, .slice A0_12 l0_12.length c0_12]) (t := 25) sqs ?_; intro gb134 hg w27 hbox hb; have BK134 := sqM (hbox); have GW134 := sqM (sqZ hg (sqB HB.out)); have GE134 := sqM (sqZ hg (sqB HB.out)); replace HB := sqM (below_step (sqB HB.out) hb); clear hb hbox hg; have hcz28_0 : w27.cell? ⟨gb134, 0, none⟩ = some (.int .i64 a0_0) := (blk_cell BK134.out 0).trans rfl; have hcz28_1 : w27.cell? ⟨gb134, 1, none⟩ = some (.int .i64 a0_1) := (blk_cell BK134.out 1).trans rfl; have hcz28_2 : w27.cell? ⟨gb134, 2, none⟩ = some (.int .i64 a0_2) := (blk_cell BK134.out 2).trans rfl; have hcz28_3 : w27.cell? ⟨gb134, 3, none⟩ = some (.int .i64 a0_3) := (blk_cell BK134.out 3).trans rfl; have hcz28_4 : w27.cell? ⟨gb134, 4, none⟩ = some (.int .i64 a0_4) := (blk_cell BK134.out 4).trans rfl; have hcz28_5 : w27.cell? ⟨gb134, 5, none⟩ = some (.int .i64 a0_5) := (blk_cell BK134.out 5).trans rfl; have hcz28_6 : w27.cell? ⟨gb134, 6, none⟩ = some (.int .i64 a0_6) := (blk_cell BK134.out 6).trans rfl; have hcz28_7 : w27.cell? ⟨gb134, 7, none⟩ = some (.int .i64 a0_7) := (blk_cell BK134.out 7).trans rfl; have hcz28_8 : w27.cell? ⟨gb134, 8, none⟩ = some (.int .i64 a0_8) := (blk_cell BK134.out 8).trans rfl; have hcz28_9 : w27.cell? ⟨gb134, 9, none⟩ = some (.int .i64 a0_9) := (blk_cell BK134.out 9).trans rfl; have hcz28_10 : w27.cell? ⟨gb134, 10, none⟩ = some (.int .i64 a0_10) := (blk_cell BK134.out 10).trans rfl; have hcz28_11 : w27.cell? ⟨gb134, 11, none⟩ = some (.slice A0_11 l0_11.length c0_11) := (blk_cell BK134.out 11).trans rfl; have hcz28_12 : w27.cell? ⟨gb134, 12, none⟩ = some (.slice A0_12 l0_12.length c0_12) := (blk_cell BK134.out 12).trans rfl; have hfz28_0 := blk_frozen BK134.out 0; have hfz28_1 := blk_frozen BK134.out 1; have hfz28_2 := blk_frozen BK134.out 2; have hfz28_3 := blk_frozen BK134.out 3; have hfz28_4 := blk_frozen BK134.out 4; have hfz28_5 := blk_frozen BK134.out 5; have hfz28_6 := blk_frozen BK134.out 6; have hfz28_7 := blk_frozen BK134.out 7; have hfz28_8 := blk_frozen BK134.out 8; have hfz28_9 := blk_frozen BK134.out 9; have hfz28_10 := blk_frozen BK134.out 10; have hfz28_11 := blk_frozen BK134.out 11; have hfz28_12 := blk_frozen BK134.out 12) | ((with_reducible refine gate_callee (f := 22) rfl ?_); refine goesL_ (some 7) rfl rfl Tryd.func22 (by kernel_rfl) rfl #[.agg #[.int .i64 a0_0, .int .i64 a0_1, .int .i64 a0_2, .int .i64 a0_3, .int .i64 a0_4, .int .i64 a0_5, .int .i64 a0_6, .int .i64 a0_7, .int .i64 a0_8, .int .i64 a0_9, .int .i64 a0_10, .slice A0_11 l0_11.length c0_11, .slice A0_12 l0_12.length c0_12]] rfl sqA ?_; (with_reducible refine (msg_Right.calls _ _ _ _ _ _ _ _ _ _ _ _ _ _ _ _ _ _ _ _ ?side1 ?side2 ?side3 ?side4 A2.out).mono ?_); (case side1 => repeat (first | exact (Kd.C_below HR0_11.out HB.out) | (with_reducible refine Kd.C_alloc ?_ _) | (with_reducible refine Kd.C_drewN ?_ _) | (with_reducible refine Kd.C_drew ?_))); (case side2 => exact HC0_11.out); (case side3 => repeat (first | exact (Kd.C_below HR0_12.out HB.out) | (with_reducible refine Kd.C_alloc ?_ _) | (with_reducible refine Kd.C_drewN ?_ _) | (with_reducible refine Kd.C_drew ?_))); (case side4 => exact HC0_12.out); rintro e w29 ⟨rfl, hb⟩; refine ⟨_, rfl, ?_⟩; replace BK134 := sqM (blk_below (sqK BK134.out) hb); replace HB := sqM (below_step (sqB1 HB.out GE134.out) hb); (try clear hb); (try clear hb2); (try clear hk); (try clear hi); have hcz30_0 : w29.cell? ⟨gb134, 0, none⟩ = some (.int .i64 a0_0) := (blk_cell BK134.out 0).trans rfl; have hcz30_1 : w29.cell? ⟨gb134, 1, none⟩ = some (.int .i64 a0_1) := (blk_cell BK134.out 1).trans rfl; have hcz30_2 : w29.cell? ⟨gb134, 2, none⟩ = some (.int .i64 a0_2) := (blk_cell BK134.out 2).trans rfl; have hcz30_3 : w29.cell? ⟨gb134, 3, none⟩ = some (.int .i64 a0_3) := (blk_cell BK134.out 3).trans rfl; have hcz30_4 : w29.cell? ⟨gb134, 4, none⟩ = some (.int .i64 a0_4) := (blk_cell BK134.out 4).trans rfl; have hcz30_5 : w29.cell? ⟨gb134, 5, none⟩ = some (.int .i64 a0_5) := (blk_cell BK134.out 5).trans rfl; have hcz30_6 : w29.cell? ⟨gb134, 6, none⟩ = some (.int .i64 a0_6) := (blk_cell BK134.out 6).trans rfl; have hcz30_7 : w29.cell? ⟨gb134, 7, none⟩ = some (.int .i64 a0_7) := (blk_cell BK134.out 7).trans rfl; have hcz30_8 : w29.cell? ⟨gb134, 8, none⟩ = some (.int .i64 a0_8) := (blk_cell BK134.out 8).trans rfl; have hcz30_9 : w29.cell? ⟨gb134, 9, none⟩ = some (.int .i64 a0_9) := (blk_cell BK134.out 9).trans rfl; have hcz30_10 : w29.cell? ⟨gb134, 10, none⟩ = some (.int .i64 a0_10) := (blk_cell BK134.out 10).trans rfl; have hcz30_11 : w29.cell? ⟨gb134, 11, none⟩ = some (.slice A0_11 l0_11.length c0_11) := (blk_cell BK134.out 11).trans rfl; have hcz30_12 : w29.cell? ⟨gb134, 12, none⟩ = some (.slice A0_12 l0_12.length c0_12) := (blk_cell BK134.out 12).trans rfl; have hfz30_0 := blk_frozen BK134.out 0; have hfz30_1 := blk_frozen BK134.out 1; have hfz30_2 := blk_frozen BK134.out 2; have hfz30_3 := blk_frozen BK134.out 3; have hfz30_4 := blk_frozen BK134.out 4; have hfz30_5 := blk_frozen BK134.out 5; have hfz30_6 := blk_frozen BK134.out 6; have hfz30_7 := blk_frozen BK134.out 7; have hfz30_8 := blk_frozen BK134.out 8; have hfz30_9 := blk_frozen BK134.out 9; have hfz30_10 := blk_frozen BK134.out 10; have hfz30_11 := blk_frozen BK134.out 11; have hfz30_12 := blk_frozen BK134.out 12) | ((with_reducible refine gate_callee (f := 23) rfl ?_); refine goesL_ (some 12) rfl rfl Tryd.func23 (by kernel_rfl) rfl #[.slice A0_12 l0_12.length c0_12, .int .i64 61] rfl sqA ?_; (with_reducible refine (tlv_Find.calls _ _ _ _ _ _ _ _ ?side1 ?side2 A4.out).mono ?_); (case side1 => repeat (first | exact (Kd.C_below HR0_12.out HB.out) | (with_reducible refine Kd.C_alloc ?_ _) | (with_reducible refine Kd.C_drewN ?_ _) | (with_reducible refine Kd.C_drew ?_))); (case side2 => exact HC0_12.out); rintro e w31 ⟨v138, rfl, ho0, hb⟩; refine ⟨_, rfl, ?_⟩; have HO139 := sqM (Kd.R_lower ho0 (below_size (sqB1 HB.out GE134.out))); replace BK134 := sqM (blk_below (sqK BK134.out) hb); replace HB := sqM (below_step (sqB1 HB.out GE134.out) hb); (try clear hb); (try clear hb2); (try clear hk); (try clear hi); (try clear ho0); obtain ⟨Ao32, co32, eo32⟩ := Kd.R_slice HO139.out; subst eo32; have hcz33_0 : w31.cell? ⟨gb134, 0, none⟩ = some (.int .i64 a0_0) := (blk_cell BK134.out 0).trans rfl; have hcz33_1 : w31.cell? ⟨gb134, 1, none⟩ = some (.int .i64 a0_1) := (blk_cell BK134.out 1).trans rfl; have hcz33_2 : w31.cell? ⟨gb134, 2, none⟩ = some (.int .i64 a0_2) := (blk_cell BK134.out 2).trans rfl; have hcz33_3 : w31.cell? ⟨gb134, 3, none⟩ = some (.int .i64 a0_3) := (blk_cell BK134.out 3).trans rfl; have hcz33_4 : w31.cell? ⟨gb134, 4, none⟩ = some (.int .i64 a0_4) := (blk_cell BK134.out 4).trans rfl; have hcz33_5 : w31.cell? ⟨gb134, 5, none⟩ = some (.int .i64 a0_5) := (blk_cell BK134.out 5).trans rfl; have hcz33_6 : w31.cell? ⟨gb134, 6, none⟩ = some (.int .i64 a0_6) := (blk_cell BK134.out 6).trans rfl; have hcz33_7 : w31.cell? ⟨gb134, 7, none⟩ = some (.int .i64 a0_7) := (blk_cell BK134.out 7).trans rfl; have hcz33_8 : w31.cell? ⟨gb134, 8, none⟩ = some (.int .i64 a0_8) := (blk_cell BK134.out 8).trans rfl; have hcz33_9 : w31.cell? ⟨gb134, 9, none⟩ = some (.int .i64 a0_9) := (blk_cell BK134.out 9).trans rfl; have hcz33_10 : w31.cell? ⟨gb134, 10, none⟩ = some (.int .i64 a0_10) := (blk_cell BK134.out 10).trans rfl; have hcz33_11 : w31.cell? ⟨gb134, 11, none⟩ = some (.slice A0_11 l0_11.length c0_11) := (blk_cell BK134.out 11).trans rfl; have hcz33_12 : w31.cell? ⟨gb134, 12, none⟩ = some (.slice A0_12 l0_12.length c0_12) := (blk_cell BK134.out 12).trans rfl; have hfz33_0 := blk_frozen BK134.out 0; have hfz33_1 := blk_frozen BK134.out 1; have hfz33_2 := blk_frozen BK134.out 2; have hfz33_3 := blk_frozen BK134.out 3; have hfz33_4 := blk_frozen BK134.out 4; have hfz33_5 := blk_frozen BK134.out 5; have hfz33_6 := blk_frozen BK134.out 6; have hfz33_7 := blk_frozen BK134.out 7; have hfz33_8 := blk_frozen BK134.out 8; have hfz33_9 := blk_frozen BK134.out 9; have hfz33_10 := blk_frozen BK134.out 10; have hfz33_11 := blk_frozen BK134.out 11; have hfz33_12 := blk_frozen BK134.out 12))
 replace HO139 := sqM (Kd.R_drew HO139.out)
 replace BK134 := Aside0.mk (blk_drew BK134.out)
 replace HB := Aside0.mk (below_drew1 HB.out)
 obtain ⟨i035, hi035, _, hsz35, _⟩ := info_parts info5
 obtain ⟨hcut35, hA35, hC35⟩ := print_take_of (P := Tryd.prog) (Value.int .u8) 0 22 5 .i64 Tryd.underlying22 hi035 hsz35 A0_11 c0_11 l0_11 a0_2 (of_decide_eq_true sqH) (of_decide_eq_true sqH) HC0_11.out
 have HR143 := sqM (Kd.C_of_reads (h1 := fun _ => rfl) (hA35 _ (Kd.reads_of_C HR0_11.out)))
 have HC143 := Aside0.mk hC35
 clear hA35 hC35 hi035 hsz35
 refine start_ (n := 14) (S := fun w' => w'.cell? ⟨gb134, 0, none⟩ = some (.int .i64 a0_0) ∧ w'.cell? ⟨gb134, 1, none⟩ = some (.int .i64 a0_1) ∧ w'.cell? ⟨gb134, 2, none⟩ = some (.int .i64 a0_2) ∧ w'.cell? ⟨gb134, 3, none⟩ = some (.int .i64 a0_3) ∧ w'.cell? ⟨gb134, 4, none⟩ = some (.int .i64 a0_4) ∧ w'.cell? ⟨gb134, 5, none⟩ = some (.int .i64 a0_5) ∧ w'.cell? ⟨gb134, 6, none⟩ = some (.int .i64 a0_6) ∧ w'.cell? ⟨gb134, 7, none⟩ = some (.int .i64 a0_7) ∧ w'.cell? ⟨gb134, 8, none⟩ = some (.int .i64 a0_8) ∧ w'.cell? ⟨gb134, 9, none⟩ = some (.int .i64 a0_9) ∧ w'.cell? ⟨gb134, 10, none⟩ = some (.int .i64 a0_10) ∧ w'.cell? ⟨gb134, 11, none⟩ = some (.slice A0_11 l0_11.length c0_11) ∧ w'.cell? ⟨gb134, 12, none⟩ = some (.slice A0_12 l0_12.length c0_12)) (ds := []) #[false, false, false, false, false, false, false, false, false, false, false, false, false, false] (by kernel_rfl) rfl rfl ⟨(blk_cell BK134.out 0).trans rfl, (blk_cell BK134.out 1).trans rfl, (blk_cell BK134.out 2).trans rfl, (blk_cell BK134.out 3).trans rfl, (blk_cell BK134.out 4).trans rfl, (blk_cell BK134.out 5).trans rfl, (blk_cell BK134.out 6).trans rfl, (blk_cell BK134.out 7).trans rfl, (blk_cell BK134.out 8).trans rfl, (blk_cell BK134.out 9).trans rfl, (blk_cell BK134.out 10).trans rfl, (blk_cell BK134.out 11).trans rfl, (blk_cell BK134.out 12).trans rfl⟩ (fun hHeld => ?_); refine with_tabW key_Of.tab9 key_Of.bits9 (fun HT_ HW_ => ?_)
 generalize w31.drew = w34 at HO139 BK134 HB HR143 hHeld ⊢
 refine pure_ (i := 0) (N := some 30) (v := ?_) (a' := ?_) #[true, false, false, false, false, false, false, false, false, false, false, false, false, false] rfl rfl (any_of HT_.out (by kernel_rfl)) (fun _ _ _ h => h) (Or.inl ⟨by rfl, ?_⟩) ?_ ?_
 rotate_left
 · intro w'
   go_simp
   with_reducible rfl
 rotate_left
 · simp only [Act.put, List.setIfInBounds_toArray, List.set_cons_zero, List.set_cons_succ, i64_w, i32_w]
   rfl
 refine pure_ (i := 4) (N := some 34) (v := ?_) (a' := ?_) #[true, false, false, false, true, false, false, false, false, false, false, false, false, false] rfl rfl (any_of HT_.out (by kernel_rfl)) (fun _ _ _ h => h) (Or.inl ⟨by rfl, ?_⟩) ?_ ?_
 rotate_left
 · intro w'
   go_simp
   with_reducible rfl
 rotate_left
 · simp only [Act.put, List.setIfInBounds_toArray, List.set_cons_zero, List.set_cons_succ, i64_w, i32_w]
   rfl
 refine pure_ (i := 6) (N := some 36) (v := ?_) (a' := ?_) #[true, false, false, false, true, false, true, false, false, false, false, false, false, false] rfl rfl (any_of HT_.out (by kernel_rfl)) (fun _ _ _ h => h) (Or.inl ⟨by rfl, ?_⟩) ?_ ?_
 rotate_left
 · intro w'
   go_simp
   with_reducible rfl
 rotate_left
 · simp only [Act.put, List.setIfInBounds_toArray, List.set_cons_zero, List.set_cons_succ, i64_w, i32_w]
   rfl
 refine take_ (i := 1) (N := some 31) (v := ?_) (a' := ?_) #[true, true, false, false, true, false, true, false, false, false, false, false, false, false] rfl rfl (take_ofW HT_.out HW_.out (by kernel_rfl)) (fun _ _ _ h => h) (Or.inl ⟨by rfl, ?_⟩) hHeld ?_ ?_
 rotate_left
 · rintro w' ⟨s0, s1, s2, s3, s4, s5, s6, s7, s8, s9, s10, s11, s12⟩
   go_simp
   with_reducible rfl
 rotate_left
 · simp only [Act.put, List.setIfInBounds_toArray, List.set_cons_zero, List.set_cons_succ, i64_w, i32_w]
   rfl
 refine pure_ (i := 2) (N := some 32) (v := ?_) (a' := ?_) #[true, true, true, false, true, false, true, false, false, false, false, false, false, false] rfl rfl (any_of HT_.out (by kernel_rfl)) (fun _ _ _ h => h) (Or.inl ⟨by rfl, ?_⟩) ?_ ?_
 rotate_left
 · intro w'
   go_simp
   with_reducible rfl
 rotate_left
 · simp only [Act.put, List.setIfInBounds_toArray, List.set_cons_zero, List.set_cons_succ, i64_w, i32_w]
   rfl
 refine take_ (i := 5) (N := some 35) (v := ?_) (a' := ?_) #[true, true, true, false, true, true, true, false, false, false, false, false, false, false] rfl rfl (take_ofW HT_.out HW_.out (by kernel_rfl)) (fun _ _ _ h => h) (Or.inl ⟨by rfl, ?_⟩) hHeld ?_ ?_
 rotate_left
 · rintro w' ⟨s0, s1, s2, s3, s4, s5, s6, s7, s8, s9, s10, s11, s12⟩
   go_simp
   with_reducible rfl
 rotate_left
 · simp only [Act.put, List.setIfInBounds_toArray, List.set_cons_zero, List.set_cons_succ, i64_w, i32_w]
   rfl
 refine take_ (i := 7) (N := some 37) (v := ?_) (a' := ?_) #[true, true, true, false, true, true, true, true, false, false, false, false, false, false] rfl rfl (take_ofW HT_.out HW_.out (by kernel_rfl)) (fun _ _ _ h => h) (Or.inl ⟨by rfl, ?_⟩) hHeld ?_ ?_
 rotate_left
 · rintro w' ⟨s0, s1, s2, s3, s4, s5, s6, s7, s8, s9, s10, s11, s12⟩
   go_simp
   with_reducible rfl
 rotate_left
 · simp only [Act.put, List.setIfInBounds_toArray, List.set_cons_zero, List.set_cons_succ, i64_w, i32_w]
   rfl
 refine pure_ (i := 8) (N := some 38) (v := ?_) (a' := ?_) #[true, true, true, false, true, true, true, true, true, false, false, false, false, false] rfl rfl (any_of HT_.out (by kernel_rfl)) (fun _ _ _ h => h) (Or.inl ⟨by rfl, ?_⟩) ?_ ?_
 rotate_left
 · intro w'
   go_simp
   with_reducible rfl
 rotate_left
 · simp only [Act.put, List.setIfInBounds_toArray, List.set_cons_zero, List.set_cons_succ, i64_w, i32_w]
   rfl
 refine one_ (i := 3) (N := some 33) #[true, true, true, true, true, true, true, true, true, false, false, false, false, false] rfl rfl (one_of HT_.out (by kernel_rfl)) (by decide) (fun K hK => ?_)
 refine Kd.R_lit_step (Kd.int .u8) _ 5 ?hg (N := 33) ?hd (xs := ([(a0_1) % 256] : List Int)) (inner := [.int .u8 ((a0_1) % 256)]) (ok := fun _ => True) (okp := fun _ => True) ?hr ?hp (fun _ hk => hk) trivial (Below.refl _ _) (Nat.le_refl _) (by simp) ?_; (case hd => rfl); (case hg => rfl); (case hr => first | (go_simp; done) | (go_simp; rfl)); (case hp => exact (Reps.one (show Kd.M (Kd.int .u8) _ _ _ ((a0_1) % 256) [.int .u8 ((a0_1) % 256)] from rfl) (Reps.none _ _)))
 intro v141 w36 ho37 hb hg_ hnew_
 clear hg_ hnew_
 (first | rw [← Ny140.out] at ho37 | (simp only [Int.reduceToNat] at ho37; rw [← Ny140.out] at ho37))
 have HO142 := sqM (Kd.R_lower (Kd.R_new' ho37 (Kd.R_lt (sqR HO139.out))) (below_size (sqB1 HB.out GE134.out)))
 replace HO139 := sqM (Kd.R_elder' (sqR HO139.out) (Kd.R_base ho37) hb)
 replace BK134 := sqM (blk_below (sqK BK134.out) hb)
 replace HB := sqM (below_step (sqB1 HB.out GE134.out) hb)
 clear hb ho37
 refine hK.out _ _ ⟨(blk_cell BK134.out 0).trans rfl, (blk_cell BK134.out 1).trans rfl, (blk_cell BK134.out 2).trans rfl, (blk_cell BK134.out 3).trans rfl, (blk_cell BK134.out 4).trans rfl, (blk_cell BK134.out 5).trans rfl, (blk_cell BK134.out 6).trans rfl, (blk_cell BK134.out 7).trans rfl, (blk_cell BK134.out 8).trans rfl, (blk_cell BK134.out 9).trans rfl, (blk_cell BK134.out 10).trans rfl, (blk_cell BK134.out 11).trans rfl, (blk_cell BK134.out 12).trans rfl⟩ (fun hHeld => ?_)
 clear hK K
 refine norm_ (a' := ?_) ?_ ?_
 rotate_left
 · show Act.put _ (some 33) _ = _
   simp only [Act.put, List.setIfInBounds_toArray, List.set_cons_zero, List.set_cons_succ, i64_w, i32_w]
   rfl
 refine one_ (i := 9) (N := some 39) #[true, true, true, true, true, true, true, true, true, true, false, false, false, false] rfl rfl (one_of HT_.out (by kernel_rfl)) (by decide) (fun K hK => ?_)
 refine Kd.R_append_rows_step (Kd.int .u8) (w0 := w) w.heap.size (by rfl) (.tmp 33) (.tmp 38) 22 5 (.int .u8 0) 1 rfl Tryd.underlying22 info5 rfl (by decide) (by omega) v141 y140 (l0_11.take (a0_2 : Int).toNat) _ _ _ (fun k_ => some k_ ≠ (.slice Ao32 t136.length co32 : Value).ownBlock) (fun _ => False) rfl rfl ?aO ?aR (fun _ _ h => h) (fun _ h => h.elim) ?aF ?aB ?aS ?aL ?_
 (case aR => first | (refine Eq.mp (congrArg (fun n_ => ReadsRow _ _ _ _ n_ _) (show (l0_11.take (a0_2 : Int).toNat).length = a0_2.toNat from (by rw [List.length_take]; have h_ : (a0_2 : Int) ≤ (l0_11.length : Int) := of_decide_eq_true sqH; omega))) ?_; (repeat (first | exact (Kd.C_below HR143.out HB.out) | (with_reducible refine Kd.C_alloc ?_ _) | (with_reducible refine Kd.C_drewN ?_ _) | (with_reducible refine Kd.C_drew ?_))); done) | (repeat (first | exact (Kd.C_below HR143.out HB.out) | (with_reducible refine Kd.C_alloc ?_ _) | (with_reducible refine Kd.C_drewN ?_ _) | (with_reducible refine Kd.C_drew ?_))))
 (case aB => exact (sqB1 HB.out GE134.out))
 (case aF => exact (fun k_ hk => Kd.fresh' (Kd.R_lt (sqR HO139.out)) k_ hk))
 (case aO => exact (by refine sqR ?_; exact Kd.R_mono HO142.out (fun _ hk => hk.2)))
 (case aS => exact (below_size (sqB1 HB.out GE134.out)))
 (case aL => have := LMc25.out; have hlx_ := (show (l0_11.take (a0_2 : Int).toNat).length = a0_2.toNat from (by rw [List.length_take]; have h_ : (a0_2 : Int) ≤ (l0_11.length : Int) := of_decide_eq_true sqH; omega)); omega)
 intro v145 w38 ho hb hg hat
 rw [← Ny144.out] at ho
 have HO146 := Aside0.mk (ho)
 replace BK134 := sqM (blk_grown (g := gb134) (o := .cells #[.int .i64 a0_0, .int .i64 a0_1, .int .i64 a0_2, .int .i64 a0_3, .int .i64 a0_4, .int .i64 a0_5, .int .i64 a0_6, .int .i64 a0_7, .int .i64 a0_8, .int .i64 a0_9, .int .i64 a0_10, .slice A0_11 l0_11.length c0_11, .slice A0_12 l0_12.length c0_12] 25 (0, 0)) (sqK BK134.out) hg (Kd.R_ne HO142.out BK134.out (by decide)))
 replace HO139 := sqM (Kd.R_after (ok := (fun _ => True)) (sqR HO139.out) hg hat)
 replace HB := Aside0.mk (hb)
 clear HO142
 clear ho hb hg hat
 refine hK.out _ _ ⟨(blk_cell BK134.out 0).trans rfl, (blk_cell BK134.out 1).trans rfl, (blk_cell BK134.out 2).trans rfl, (blk_cell BK134.out 3).trans rfl, (blk_cell BK134.out 4).trans rfl, (blk_cell BK134.out 5).trans rfl, (blk_cell BK134.out 6).trans rfl, (blk_cell BK134.out 7).trans rfl, (blk_cell BK134.out 8).trans rfl, (blk_cell BK134.out 9).trans rfl, (blk_cell BK134.out 10).trans rfl, (blk_cell BK134.out 11).trans rfl, (blk_cell BK134.out 12).trans rfl⟩ (fun hHeld => ?_)
 clear hK K
 refine norm_ (a' := ?_) ?_ ?_
 rotate_left
 · show Act.put _ (some 39) _ = _
   simp only [Act.put, List.setIfInBounds_toArray, List.set_cons_zero, List.set_cons_succ, i64_w, i32_w]
   rfl
 refine one_ (i := 10) (N := some 40) #[true, true, true, true, true, true, true, true, true, true, true, false, false, false] rfl rfl (one_of HT_.out (by kernel_rfl)) (by decide) (fun K hK => ?_)
 have hcv39 := own_string (P := Tryd.prog) Tryd.underlying22 Tryd.underlying5 Tryd.underlying9 (Kd.own_of_R HO146.out)
 refine value_ (w1 := ?_) (v := ?_) (by rfl) rfl ?_ ?_
 rotate_left 2
 · go_simp
   constructor
   · rfl
   rfl
 clear hcv39
 refine hK.out _ _ ⟨(blk_cell BK134.out 0).trans rfl, (blk_cell BK134.out 1).trans rfl, (blk_cell BK134.out 2).trans rfl, (blk_cell BK134.out 3).trans rfl, (blk_cell BK134.out 4).trans rfl, (blk_cell BK134.out 5).trans rfl, (blk_cell BK134.out 6).trans rfl, (blk_cell BK134.out 7).trans rfl, (blk_cell BK134.out 8).trans rfl, (blk_cell BK134.out 9).trans rfl, (blk_cell BK134.out 10).trans rfl, (blk_cell BK134.out 11).trans rfl, (blk_cell BK134.out 12).trans rfl⟩ (fun hHeld => ?_)
 clear hK K
 refine norm_ (a' := ?_) ?_ ?_
 rotate_left
 · show Act.put _ (some 40) _ = _
   simp only [Act.put, List.setIfInBounds_toArray, List.set_cons_zero, List.set_cons_succ, i64_w, i32_w]
   rfl
 refine pure_ (i := 11) (N := some 41) (v := ?_) (a' := ?_) #[true, true, true, true, true, true, true, true, true, true, true, true, false, false] rfl rfl (any_of HT_.out (by kernel_rfl)) (fun _ _ _ h => h) (Or.inl ⟨by rfl, ?_⟩) ?_ ?_
 rotate_left
 · intro w'
   go_simp
   with_reducible rfl
 rotate_left
 · simp only [Act.put, List.setIfInBounds_toArray, List.set_cons_zero, List.set_cons_succ, i64_w, i32_w]
   rfl
 refine pure_ (i := 12) (N := some 2) (v := ?_) (a' := ?_) #[true, true, true, true, true, true, true, true, true, true, true, true, true, false] rfl rfl (any_of HT_.out (by kernel_rfl)) (fun _ _ _ h => h) (Or.inl ⟨by rfl, ?_⟩) ?_ ?_
 rotate_left
 · intro w'
   go_simp
   with_reducible rfl
 rotate_left
 · simp only [Act.put, List.setIfInBounds_toArray, List.set_cons_zero, List.set_cons_succ, i64_w, i32_w]
   rfl
 refine pure_ (i := 13) (N := some 3) (v := ?_) (a' := ?_) #[true, true, true, true, true, true, true, true, true, true, true, true, true, true] rfl rfl (any_of HT_.out (by kernel_rfl)) (fun _ _ _ h => h) (Or.inl ⟨by rfl, ?_⟩) ?_ ?_
 rotate_left
 · intro w'
   go_simp
   with_reducible rfl
 rotate_left
 · simp only [Act.put, List.setIfInBounds_toArray, List.set_cons_zero, List.set_cons_succ, i64_w, i32_w]
   rfl
 refine done_ (done_of HT_.out (by kernel_rfl)) ?_
 try go_wp2
 go_ret2
 exact ⟨sqE, sqB1 HB.out GE134.out⟩

/-! ### key_Right: function 13 -/
def key_Right.f (a0 : ByteArray) : Option (Bool) := if (a0.size : Int) = 0 then (some false) else (if 0 < (a0.size : Int) then (if (bt a0 0) = 105 then (if (wrap64 ((a0.size : Int) - 1)) ≥ 2 then (some (decide ((wrap64 ((a0.size : Int) - 1)) ≤ 255))) else (some false)) else (if (bt a0 0) = 104 then (if (wrap64 ((a0.size : Int) - 1)) ≥ 2 then (some (decide ((wrap64 ((a0.size : Int) - 1)) ≤ 17))) else (some false)) else (some false))) else (none))
set_option maxHeartbeats 8000000 in
set_option maxRecDepth 100000 in
theorem key_Right.calls (a0 : ByteArray) (r : Bool) (w : World) (h : key_Right.f a0 = some r) :
    Calls Tryd.prog 13 #[.string a0] w fun e w' => e = .returned (.bool r) ∧ Drawn0 w w' := by
 have H : (if (a0.size : Int) = 0 then (some false) else (if 0 < (a0.size : Int) then (if (bt a0 0) = 105 then (if (wrap64 ((a0.size : Int) - 1)) ≥ 2 then (some (decide ((wrap64 ((a0.size : Int) - 1)) ≤ 255))) else (some false)) else (if (bt a0 0) = 104 then (if (wrap64 ((a0.size : Int) - 1)) ≥ 2 then (some (decide ((wrap64 ((a0.size : Int) - 1)) ≤ 17))) else (some false)) else (some false))) else (none))) = some r := h
 clear h
 by_cases c2 : (a0.size : Int) = 0
 · rw [if_pos c2] at H
   have c2b0 : ((a0.size : Int) == 0) = true := beq_iff_eq.mpr c2
   have c2b1 : ((a0.size : Int) != 0) = false := bne_eq_false_iff_eq.mpr c2
   clear c2
   obtain rfl := Option.some.inj H
   go_enter Tryd.func13, Tryd.ntmps13
   go_wp2
   go_ret
   exact ⟨sqI, sqD⟩
 rw [if_neg c2] at H
 have c2b0 : ((a0.size : Int) == 0) = false := beq_eq_false_iff_ne.mpr c2
 have c2b1 : ((a0.size : Int) != 0) = true := bne_iff_ne.mpr c2
 by_cases c3 : 0 < (a0.size : Int)
 rotate_left
 · rw [if_neg c3] at H
   exact absurd H (by simp)
 rw [if_pos c3] at H
 have c3b0 : decide (0 < (a0.size : Int)) = true := decide_eq_true c3
 have c3b1 : decide (0 < a0.size) = true := decide_eq_true (by omega)
 clear c3
 by_cases c5 : (bt a0 0) = 105
 · rw [if_pos c5] at H
   have c5b0 : ((bt a0 0) == 105) = true := beq_iff_eq.mpr c5
   have c5b1 : ((bt a0 0) != 105) = false := bne_eq_false_iff_eq.mpr c5
   clear c5
   by_cases c6 : (wrap64 ((a0.size : Int) - 1)) ≥ 2
   · rw [if_pos c6] at H
     have c6b0 : decide (2 ≤ (wrap64 ((a0.size : Int) - 1))) = true := decide_eq_true c6
     clear c6
     obtain rfl := Option.some.inj H
     have p4 : 0 ≤ (0 : Int) := (by omega)
     have q4 : 0 < a0.size := (by have : (0 : Int) < (a0.size : Int) := of_decide_eq_true sqH; omega)
     have hx4 : ∀ h : 0 < a0.size, ((a0[0]'h).toNat : Int) = bt a0 0 := bt_at a0 0
     clear p4
     have qi4 : (0 < (a0.size : Int)) = True := eq_true (of_decide_eq_true sqH)
     replace q4 := eq_true q4
     go_enter Tryd.func13, Tryd.ntmps13
     go_wp2
     go_ret
     exact ⟨sqI, sqD⟩
   rw [if_neg c6] at H
   have c6b0 : decide (2 ≤ (wrap64 ((a0.size : Int) - 1))) = false := decide_eq_false c6
   clear c6
   obtain rfl := Option.some.inj H
   have p4 : 0 ≤ (0 : Int) := (by omega)
   have q4 : 0 < a0.size := (by have : (0 : Int) < (a0.size : Int) := of_decide_eq_true sqH; omega)
   have hx4 : ∀ h : 0 < a0.size, ((a0[0]'h).toNat : Int) = bt a0 0 := bt_at a0 0
   clear p4
   have qi4 : (0 < (a0.size : Int)) = True := eq_true (of_decide_eq_true sqH)
   replace q4 := eq_true q4
   go_enter Tryd.func13, Tryd.ntmps13
   go_wp2
   go_ret
   exact ⟨sqI, sqD⟩
 rw [if_neg c5] at H
 have c5b0 : ((bt a0 0) == 105) = false := beq_eq_false_iff_ne.mpr c5
 have c5b1 : ((bt a0 0) != 105) = true := bne_iff_ne.mpr c5
 by_cases c7 : (bt a0 0) = 104
 rotate_left
 · rw [if_neg c7] at H
   have c7b0 : ((bt a0 0) == 104) = false := beq_eq_false_iff_ne.mpr c7
   have c7b1 : ((bt a0 0) != 104) = true := bne_iff_ne.mpr c7
   obtain rfl := Option.some.inj H
   have p4 : 0 ≤ (0 : Int) := (by omega)
   have q4 : 0 < a0.size := (by have : (0 : Int) < (a0.size : Int) := of_decide_eq_true sqH; omega)
   have hx4 : ∀ h : 0 < a0.size, ((a0[0]'h).toNat : Int) = bt a0 0 := bt_at a0 0
   clear p4
   have qi4 : (0 < (a0.size : Int)) = True := eq_true (of_decide_eq_true sqH)
   replace q4 := eq_true q4
   go_enter Tryd.func13, Tryd.ntmps13
   go_wp2
   go_ret
   exact ⟨sqI, sqD⟩
 rw [if_pos c7] at H
 have c7b0 : ((bt a0 0) == 104) = true := beq_iff_eq.mpr c7
 have c7b1 : ((bt a0 0) != 104) = false := bne_eq_false_iff_eq.mpr c7
 clear c7
 by_cases c8 : (wrap64 ((a0.size : Int) - 1)) ≥ 2
 · rw [if_pos c8] at H
   have c8b0 : decide (2 ≤ (wrap64 ((a0.size : Int) - 1))) = true := decide_eq_true c8
   clear c8
   obtain rfl := Option.some.inj H
   have p4 : 0 ≤ (0 : Int) := (by omega)
   have q4 : 0 < a0.size := (by have : (0 : Int) < (a0.size : Int) := of_decide_eq_true sqH; omega)
   have hx4 : ∀ h : 0 < a0.size, ((a0[0]'h).toNat : Int) = bt a0 0 := bt_at a0 0
   clear p4
   have qi4 : (0 < (a0.size : Int)) = True := eq_true (of_decide_eq_true sqH)
   replace q4 := eq_true q4
   go_enter Tryd.func13, Tryd.ntmps13
   go_wp2
   go_ret
   exact ⟨sqI, sqD⟩
 rw [if_neg c8] at H
 have c8b0 : decide (2 ≤ (wrap64 ((a0.size : Int) - 1))) = false := decide_eq_false c8
 clear c8
 obtain rfl := Option.some.inj H
 have p4 : 0 ≤ (0 : Int) := (by omega)
 have q4 : 0 < a0.size := (by have : (0 : Int) < (a0.size : Int) := of_decide_eq_true sqH; omega)
 have hx4 : ∀ h : 0 < a0.size, ((a0[0]'h).toNat : Int) = bt a0 0 := bt_at a0 0
 clear p4
 have qi4 : (0 < (a0.size : Int)) = True := eq_true (of_decide_eq_true sqH)
 replace q4 := eq_true q4
 go_enter Tryd.func13, Tryd.ntmps13
 go_wp2
 go_ret
 exact ⟨sqI, sqD⟩

/-! ### key_Text: function 14 -/
def key_Text.l0 : Nat → List Int → List Int → Int → Int → Option (ByteArray × Int)
  | 0, _, _, _, _ => none
  | k + 1, x4, x15, x16, x17 => if x17 < x16 then (if 0 ≤ x17 then (if x17 < (x15.length : Int) then (if 0 ≤ ((Int.tdiv (rd x15 x17) 16) % 256) then (if ((Int.tdiv (rd x15 x17) 16) % 256) < 16 then (if 0 ≤ (Int.tmod (rd x15 x17) 16) then (if (Int.tmod (rd x15 x17) 16) < 16 then ((some (([rd tab0 ((Int.tdiv (rd x15 x17) 16) % 256), rd tab0 (Int.tmod (rd x15 x17) 16)] : List Int) : List Int)).bind fun y157 => (if x4.length + y157.length < 140737488355328 then (key_Text.l0 k (x4 ++ y157) x15 x16 (wrap64 (x17 + 1))) else (none))) else (none)) else (none)) else (none)) else (none)) else (none)) else (none)) else (some (strOfNums x4, 0))
def key_Text.f (k : Nat) (a0 : ByteArray) : Option (ByteArray × Int) := (key_Right.f a0).bind fun t147 => (if t147 = true then (if 0 < (a0.size : Int) then (if 1 ≤ (a0.size : Int) then (if ((a0.extract 1 a0.size).size : Int) ≤ 281474976710656 then ((some (bytesOf (a0.extract 1 a0.size) : List Int)).bind fun y151 => (key_Text.l0 k (([bt a0 0, 45] : List Int)) y151 (y151.length : Int) 0)) else (none)) else (none)) else (none)) else (some ((⟨#[]⟩ : ByteArray), 1)))
theorem key_Text.mono_l : ∀ k, (∀ y0 y1 y2 y3, LeO (key_Text.l0 k y0 y1 y2 y3) (key_Text.l0 (k + 1) y0 y1 y2 y3))
  | 0 => fun _ _ _ _ r h => by simp [key_Text.l0] at h
  | k + 1 => by
    have ih0 := key_Text.mono_l k
    · intro y0 y1 y2 y3
      unfold key_Text.l0
      repeat' first
      | (with_reducible exact ih0 _ _ _ _)
      | (with_reducible exact LeO.refl _)
      | (with_reducible exact LeO.none _)
      | (with_reducible refine LeO.ite ?_ ?_)
      | (with_reducible refine LeO.bind ?_ (fun _ => ?_))
theorem key_Text.mono : ∀ a0 k, LeO (key_Text.f k a0) (key_Text.f (k + 1) a0) := by
 intro a0 k
 have ih0 := key_Text.mono_l k
 unfold key_Text.f
 repeat' first
  | (with_reducible exact ih0 _ _ _ _)
  | (with_reducible exact LeO.refl _)
  | (with_reducible exact LeO.none _)
  | (with_reducible refine LeO.ite ?_ ?_)
  | (with_reducible refine LeO.bind ?_ (fun _ => ?_))
def key_Text.T7 : Bool × List (List Nat × List Nat) := (true, [([], []), ([], []), ([1], [1]), ([2], [2]), ([3], [3]), ([], []), ([5], [5]), ([6], [6]), ([7], [7]), ([4, 8], [4, 8]), ([0, 9], [0, 9]), ([10, 10, 0, 1, 2, 3, 4, 5, 6, 7, 8, 9, 10], [0, 10])])
def key_Text.B7 : List Nat := [0, 0, 2, 6, 14, 0, 32, 96, 224, 510, 1023, 2047]
theorem key_Text.tab7 : rtab .any (opsOf Tryd.f14 7) = key_Text.T7 := by kernel_rfl
theorem key_Text.bits7 : waitsOk key_Text.T7.2 key_Text.B7 = true := by kernel_rfl
set_option maxHeartbeats 8000000 in
set_option maxRecDepth 100000 in
theorem key_Text.calls (k : Nat) (a0 : ByteArray) (r1 : ByteArray) (r2 : Int) (w : World) (hT : TabW w) (h : key_Text.f k a0 = some (r1, r2)) :
    Calls Tryd.prog 14 #[.string a0] w fun e w' => e = .returned (.tuple #[.string r1, .int .i64 r2]) ∧ Below w.heap.size w w' := by
 have HT := Aside0.mk hT
 clear hT
 have HRT0 := Aside0.mk HT.out.t0
 have HB := Aside0.mk (Below.refl w.heap.size w)
 have H : ((key_Right.f a0).bind fun t147 => (if t147 = true then (if 0 < (a0.size : Int) then (if 1 ≤ (a0.size : Int) then (if ((a0.extract 1 a0.size).size : Int) ≤ 281474976710656 then ((some (bytesOf (a0.extract 1 a0.size) : List Int)).bind fun y151 => (key_Text.l0 k (([bt a0 0, 45] : List Int)) y151 (y151.length : Int) 0)) else (none)) else (none)) else (none)) else (some ((⟨#[]⟩ : ByteArray), 1)))) = some (r1, r2) := h
 clear h
 replace H := Option.bind_eq_some_iff.mp H
 obtain ⟨t147, A20, H⟩ := H
 replace H : (if t147 = true then (if 0 < (a0.size : Int) then (if 1 ≤ (a0.size : Int) then (if ((a0.extract 1 a0.size).size : Int) ≤ 281474976710656 then ((some (bytesOf (a0.extract 1 a0.size) : List Int)).bind fun y151 => (key_Text.l0 k (([bt a0 0, 45] : List Int)) y151 (y151.length : Int) 0)) else (none)) else (none)) else (none)) else (some ((⟨#[]⟩ : ByteArray), 1))) = some (r1, r2) := H
 have A2 := Aside0.mk A20
 clear A20
 by_cases c3 : t147 = true
 rotate_left
 · replace c3 := Bool.eq_false_iff.mpr c3
   subst c3
   have H1 : (some ((⟨#[]⟩ : ByteArray), 1)) = some (r1, r2) := by rw [if_neg (show ¬ (false = true) by decide)] at H; exact H
   clear H
   have H := H1
   clear H1
   simp only [Option.some.injEq, Prod.mk.injEq] at H
   obtain ⟨rfl, rfl⟩ := H
   go_enter Tryd.func14, Tryd.ntmps14
   go_wp2_with (first | ((with_reducible refine gate_callee (f := 13) rfl ?_); refine goesL_ (some 8) rfl rfl Tryd.func13 (by kernel_rfl) rfl #[.string a0] rfl sqA ?_; (with_reducible refine (key_Right.calls _ _ _ A2.out).mono ?_); rintro e w' ⟨rfl, ⟨nd, rfl⟩⟩; refine ⟨_, rfl, ?_⟩))
   go_ret2
   exact ⟨sqE, sqB HB.out⟩
 subst c3
 have H1 : (if 0 < (a0.size : Int) then (if 1 ≤ (a0.size : Int) then (if ((a0.extract 1 a0.size).size : Int) ≤ 281474976710656 then ((some (bytesOf (a0.extract 1 a0.size) : List Int)).bind fun y151 => (key_Text.l0 k (([bt a0 0, 45] : List Int)) y151 (y151.length : Int) 0)) else (none)) else (none)) else (none)) = some (r1, r2) := by rw [if_pos rfl] at H; exact H
 clear H
 have H := H1
 clear H1
 by_cases c4 : 0 < (a0.size : Int)
 rotate_left
 · rw [if_neg c4] at H
   exact absurd H (by simp)
 rw [if_pos c4] at H
 have c4b0 : decide (0 < (a0.size : Int)) = true := decide_eq_true c4
 have c4b1 : decide (0 < a0.size) = true := decide_eq_true (by omega)
 clear c4
 obtain ⟨y148, hy148⟩ : ∃ y_ : List Int, y_ = (([bt a0 0, 45] : List Int)) := ⟨_, rfl⟩
 replace H : (if 1 ≤ (a0.size : Int) then (if ((a0.extract 1 a0.size).size : Int) ≤ 281474976710656 then ((some (bytesOf (a0.extract 1 a0.size) : List Int)).bind fun y151 => (key_Text.l0 k y148 y151 (y151.length : Int) 0)) else (none)) else (none)) = some (r1, r2) := by first | (rw [hy148]; with_reducible exact H) | (have H2_ := (Option.bind_some _ _).symm.trans H; rw [hy148]; with_reducible exact H2_) | (have H2_ := (Option.bind_some _ _).symm.trans H; with_reducible exact H2_) | with_reducible exact H | (rw [hy148]; exact H) | exact H
 have Ny148 := Aside0.mk hy148
 clear hy148
 by_cases c6 : 1 ≤ (a0.size : Int)
 rotate_left
 · rw [if_neg c6] at H
   exact absurd H (by simp)
 rw [if_pos c6] at H
 have c6b0 := eq_true c6
 have c6b1 : decide (1 ≤ (a0.size : Int)) = true := decide_eq_true c6
 clear c6
 by_cases c7 : ((a0.extract 1 a0.size).size : Int) ≤ 281474976710656
 rotate_left
 · rw [if_neg c7] at H
   exact absurd H (by simp)
 rw [if_pos c7] at H
 have c7b0 := eq_true c7
 have c7b1 : decide (((a0.extract 1 a0.size).size : Int) ≤ 281474976710656) = true := decide_eq_true c7
 clear c7
 obtain ⟨y151, hy151⟩ : ∃ y_ : List Int, y_ = (bytesOf (a0.extract 1 a0.size)) := ⟨_, rfl⟩
 replace H : (key_Text.l0 k y148 y151 (y151.length : Int) 0) = some (r1, r2) := by first | (rw [hy151]; with_reducible exact H) | (have H2_ := (Option.bind_some _ _).symm.trans H; rw [hy151]; with_reducible exact H2_) | (have H2_ := (Option.bind_some _ _).symm.trans H; with_reducible exact H2_) | with_reducible exact H | (rw [hy151]; exact H) | exact H
 have Ny151 := Aside0.mk hy151
 clear hy151
 have H' := Aside0.mk H
 clear H
 go_enter Tryd.func14, Tryd.ntmps14
 go_wp2_with (first | ((with_reducible refine gate_callee (f := 13) rfl ?_); refine goesL_ (some 8) rfl rfl Tryd.func13 (by kernel_rfl) rfl #[.string a0] rfl sqA ?_; (with_reducible refine (key_Right.calls _ _ _ A2.out).mono ?_); rintro e w' ⟨rfl, ⟨nd, rfl⟩⟩; refine ⟨_, rfl, ?_⟩; have p5 : 0 ≤ (0 : Int) := (by omega); have q5 : 0 < a0.size := (by have : (0 : Int) < (a0.size : Int) := of_decide_eq_true sqH; omega); have hx5 : ∀ h : 0 < a0.size, ((a0[0]'h).toNat : Int) = bt a0 0 := bt_at a0 0; clear p5; have qi5 : (0 < (a0.size : Int)) = True := eq_true (of_decide_eq_true sqH); replace q5 := eq_true q5) | ((with_reducible refine gate_dst (N := 12) rfl ?_); refine Kd.R_lit (Kd.int .u8) _ 5 ?hg (N := 12) ?hd (xs := ([bt a0 0, 45] : List Int)) (inner := [.int .u8 (bt a0 0), .int .u8 45]) (ok := fun _ => True) (okp := fun _ => True) ?hr ?hp (fun _ hk => hk) trivial (Below.refl _ _) (Nat.le_refl _) (by simp) ?_; (case hd => rfl); (case hg => rfl); (case hr => first | (go_simp; done) | (go_simp; rfl)); (case hp => exact (Reps.one (show Kd.M (Kd.int .u8) _ _ _ (bt a0 0) [.int .u8 (bt a0 0)] from rfl) (Reps.one (show Kd.M (Kd.int .u8) _ _ _ 45 [.int .u8 45] from rfl) (Reps.none _ _)))); intro v149 w8 ho9 hb hg_ hnew_; clear hg_ hnew_; (first | rw [← Ny148.out] at ho9 | (simp only [Int.reduceToNat] at ho9; rw [← Ny148.out] at ho9)); have HO150 := sqM (Kd.R_lower ho9 (below_size (sqB HB.out))); replace HB := sqM (below_step (sqB HB.out) hb); clear hb ho9) | ((with_reducible refine gate_dst (N := 15) rfl ?_); refine Kd.V_bytes _ 5 rfl (N := 15) rfl 9 22 _ rfl Tryd.underlying9 Tryd.underlying22 Tryd.underlying5 (a0.extract 1 a0.size) rfl (by have h_ : ((a0.extract 1 a0.size).size : Int) ≤ (281474976710656 : Int) := of_decide_eq_true sqH; omega) (ok := (fun k_ => some k_ ≠ (v149 : Value).ownBlock)) (okp := (fun k_ => some k_ ≠ (v149 : Value).ownBlock)) (fun _ hk => hk) ((show ∀ k_, w8.heap.size ≤ k_ → (fun k_ => some k_ ≠ (v149 : Value).ownBlock) k_ from fun k_ hk => Kd.fresh' (Kd.R_lt (sqR HO150.out)) k_ hk) _ (Nat.le_refl _)) (Below.refl _ _) (Nat.le_refl _) ?_; intro v152 w10 ho11 hb hg_ hnew_; clear hg_ hnew_; (first | rw [← Ny151.out] at ho11 | (simp only [Int.reduceToNat] at ho11; rw [← Ny151.out] at ho11)); have HO153 := sqM (Kd.V_lower ho11 (below_size (sqB HB.out))); replace HO150 := sqM (Kd.R_below (sqR HO150.out) hb); replace HB := sqM (below_step (sqB HB.out) hb); clear hb ho11; obtain ⟨Ao12, co12, eo12⟩ := Kd.V_slice HO153.out; subst eo12))
 go_loopg [4, 17] k (fun kq v4 v17 w' => ∃ (x4_1 : List Int) (x17_1 : Int), v17 = .int .i64 x17_1 ∧ Aside0 (key_Text.l0 kq x4_1 y151 (y151.length : Int) x17_1 = some (r1, r2)) ∧ Aside0 (kq ≤ k) ∧ Aside0 (Kd.R (Kd.int .u8) 5 w' w.heap.size (fun _ => True) v4 x4_1) ∧ Aside0 (Kd.V (Kd.int .u8) 5 w' w.heap.size (fun k_ => some k_ ≠ (v4 : Value).ownBlock) (.slice Ao12 y151.length co12) y151) ∧ Aside0 (Below w.heap.size w w'))
 case atStart => exact ⟨(y148), (0), sqI, H', ⟨Nat.le_refl _⟩, ⟨sqR HO150.out⟩, ⟨sqV HO153.out⟩, ⟨sqB HB.out⟩⟩
 clear H'
 try clear c1
 try clear p2
 try clear c3
 try clear c4
 try clear c4b0
 try clear c4b1
 try clear p5
 try clear q5
 try clear hx5
 try clear qi5
 try clear c6
 try clear c6b0
 try clear c6b1
 try clear c7
 try clear c7b0
 try clear c7b1
 try clear p5
 try clear q5
 obtain ⟨x4_1, x17_1, rfl, HA, HK1, HO_4, HO_15, HB⟩ := hrel
 cases gk with
 | zero => exact absurd HA.out (by simp [key_Text.l0])
 | succ k1 => ?_
 have H := HA.out
 clear HA
 simp only [key_Text.l0] at H
 by_cases c13 : x17_1 < (y151.length : Int)
 rotate_left
 · rw [if_neg c13] at H
   have c13b0 : decide (x17_1 < (y151.length : Int)) = false := decide_eq_false c13
   clear c13
   simp only [Option.some.injEq, Prod.mk.injEq] at H
   obtain ⟨rfl, rfl⟩ := H
   have hcv28 := own_string (P := Tryd.prog) Tryd.underlying22 Tryd.underlying5 Tryd.underlying9 (Kd.own_of_R HO_4.out)
   have hcw29 := fun n_ => own_string (P := Tryd.prog) Tryd.underlying22 Tryd.underlying5 Tryd.underlying9 (Kd.own_of_R (Kd.R_drewN HO_4.out n_))
   go_wp2
   go_ret2
   exact ⟨sqE, sqB HB.out⟩
 rw [if_pos c13] at H
 have c13b0 : decide (x17_1 < (y151.length : Int)) = true := decide_eq_true c13
 clear c13
 by_cases c14 : 0 ≤ x17_1
 rotate_left
 · rw [if_neg c14] at H
   exact absurd H (by simp)
 rw [if_pos c14] at H
 have c14b0 : decide (0 ≤ x17_1) = true := decide_eq_true c14
 clear c14
 by_cases c15 : x17_1 < (y151.length : Int)
 rotate_left
 · rw [if_neg c15] at H
   exact absurd H (by simp)
 rw [if_pos c15] at H
 have c15b0 : decide (x17_1 < (y151.length : Int)) = true := decide_eq_true c15
 clear c15
 obtain ⟨ji16, hji16⟩ : ∃ j_ : Int, ((Int.tdiv (rd y151 x17_1) 16) % 256) = j_ := ⟨_, rfl⟩
 have hw_ji16 : IntKind.u8.wrap ((Int.tdiv (rd y151 x17_1) 16)) = ji16 := (IntKind.wrap_u8 _).trans hji16
 replace H : (if 0 ≤ (ji16) then (if (ji16) < 16 then (if 0 ≤ (Int.tmod (rd y151 x17_1) 16) then (if (Int.tmod (rd y151 x17_1) 16) < 16 then ((some (([rd tab0 (ji16), rd tab0 (Int.tmod (rd y151 x17_1) 16)] : List Int) : List Int)).bind fun y157 => (if x4_1.length + y157.length < 140737488355328 then (key_Text.l0 k1 (x4_1 ++ y157) y151 (y151.length : Int) (wrap64 (x17_1 + 1))) else (none))) else (none)) else (none)) else (none)) else (none)) = some (r1, r2) := by first | (rw [hji16] at H; exact H) | (simp only [hji16] at H ⊢; exact H)
 by_cases c17 : 0 ≤ (ji16)
 rotate_left
 · rw [if_neg c17] at H
   exact absurd H (by simp)
 rw [if_pos c17] at H
 have c17b0 : decide (0 ≤ (ji16)) = true := decide_eq_true c17
 clear c17
 by_cases c18 : (ji16) < 16
 rotate_left
 · rw [if_neg c18] at H
   exact absurd H (by simp)
 rw [if_pos c18] at H
 have c18b0 : decide ((ji16) < 16) = true := decide_eq_true c18
 clear c18
 obtain ⟨ji19, hji19⟩ : ∃ j_ : Int, (Int.tmod (rd y151 x17_1) 16) = j_ := ⟨_, rfl⟩
 replace H : (if 0 ≤ (ji19) then (if (ji19) < 16 then ((some (([rd tab0 (ji16), rd tab0 (ji19)] : List Int) : List Int)).bind fun y157 => (if x4_1.length + y157.length < 140737488355328 then (key_Text.l0 k1 (x4_1 ++ y157) y151 (y151.length : Int) (wrap64 (x17_1 + 1))) else (none))) else (none)) else (none)) = some (r1, r2) := by first | (rw [hji19] at H; exact H) | (simp only [hji19] at H ⊢; exact H)
 by_cases c20 : 0 ≤ (ji19)
 rotate_left
 · rw [if_neg c20] at H
   exact absurd H (by simp)
 rw [if_pos c20] at H
 have c20b0 : decide (0 ≤ (ji19)) = true := decide_eq_true c20
 clear c20
 by_cases c21 : (ji19) < 16
 rotate_left
 · rw [if_neg c21] at H
   exact absurd H (by simp)
 rw [if_pos c21] at H
 have c21b0 : decide ((ji19) < 16) = true := decide_eq_true c21
 clear c21
 obtain ⟨y157, hy157⟩ : ∃ y_ : List Int, y_ = (([rd tab0 (ji16), rd tab0 (ji19)] : List Int)) := ⟨_, rfl⟩
 replace H : (if x4_1.length + y157.length < 140737488355328 then (key_Text.l0 k1 (x4_1 ++ y157) y151 (y151.length : Int) (wrap64 (x17_1 + 1))) else (none)) = some (r1, r2) := by first | (rw [hy157]; with_reducible exact H) | (have H2_ := (Option.bind_some _ _).symm.trans H; rw [hy157]; with_reducible exact H2_) | (have H2_ := (Option.bind_some _ _).symm.trans H; with_reducible exact H2_) | with_reducible exact H | (rw [hy157]; exact H) | exact H
 have Ny157 := Aside0.mk hy157
 clear hy157
 by_cases c22 : x4_1.length + y157.length < 140737488355328
 rotate_left
 · rw [if_neg c22] at H
   exact absurd H (by simp)
 rw [if_pos c22] at H
 have LMc22 := Aside0.mk c22
 clear c22
 obtain ⟨y160, hy160⟩ : ∃ y_ : List Int, y_ = (x4_1 ++ y157) := ⟨_, rfl⟩
 replace H : (key_Text.l0 k1 y160 y151 (y151.length : Int) (wrap64 (x17_1 + 1))) = some (r1, r2) := by first | (rw [hy160]; with_reducible exact H) | (have H2_ := (Option.bind_some _ _).symm.trans H; rw [hy160]; with_reducible exact H2_) | (have H2_ := (Option.bind_some _ _).symm.trans H; with_reducible exact H2_) | with_reducible exact H | (rw [hy160]; exact H) | exact H
 have Ny160 := Aside0.mk hy160
 clear hy160
 have H' := Aside0.mk H
 clear H
 have p154 : 0 ≤ (x17_1 : Int) := of_decide_eq_true sqH
 have q154 : x17_1 < (y151.length : Int) := of_decide_eq_true sqH
 obtain ⟨ad154, e154, hx154_0⟩ := Kd.at_int (Kd.V_reads' HO_15.out).2.2 x17_1 p154 q154
 cases e154
 replace p154 := eq_true p154
 replace q154 := eq_true q154
 try go_wp2
 replace HO_4 := sqM (Kd.R_drew HO_4.out)
 replace HO_15 := sqM (Kd.V_drew HO_15.out)
 replace HB := sqM (below_drew1 HB.out)
 have p155 : 0 ≤ ((ji16) : Int) := of_decide_eq_true sqH
 have qt155 : (((ji16) : Int) < (16 : Int)) = True := eq_true (of_decide_eq_true sqH)
 have q155 : (ji16) < (tab0.length : Int) := (show (ji16) < (16 : Int) from of_decide_eq_true sqH)
 obtain ⟨ad155, e155, hx155_0⟩ := Kd.at_int HRT0.out (ji16) p155 q155
 have hw155_0 := hx155_0
 obtain rfl : (⟨0, 0, none⟩ : Addr) = ad155 := (by injection e155)
 (first | simp only [add_plain] at hx155_0 | simp only [add_at] at hx155_0 | simp only [Addr.add, Nat.zero_add] at hx155_0 | skip)
 replace hx155_0 := sqx HB.out hx155_0
 replace p155 := eq_true p155
 replace q155 := eq_true q155
 simp only [add_plain] at hw155_0
 have p156 : 0 ≤ ((ji19) : Int) := of_decide_eq_true sqH
 have qt156 : (((ji19) : Int) < (16 : Int)) = True := eq_true (of_decide_eq_true sqH)
 have q156 : (ji19) < (tab0.length : Int) := (show (ji19) < (16 : Int) from of_decide_eq_true sqH)
 obtain ⟨ad156, e156, hx156_0⟩ := Kd.at_int HRT0.out (ji19) p156 q156
 have hw156_0 := hx156_0
 obtain rfl : (⟨0, 0, none⟩ : Addr) = ad156 := (by injection e156)
 (first | simp only [add_plain] at hx156_0 | simp only [add_at] at hx156_0 | simp only [Addr.add, Nat.zero_add] at hx156_0 | skip)
 replace hx156_0 := sqx HB.out hx156_0
 replace p156 := eq_true p156
 replace q156 := eq_true q156
 simp only [add_plain] at hw156_0
 refine start_ (n := 12) (S := fun w' => w'.cell? ⟨0, ((ji16)).toNat, none⟩ = some (.int .u8 (rd tab0 (ji16))) ∧ w'.cell? ⟨0, ((ji19)).toNat, none⟩ = some (.int .u8 (rd tab0 (ji19)))) (ds := []) #[false, false, false, false, false, false, false, false, false, false, false, false] (by kernel_rfl) rfl rfl ⟨((HB.out.cell (World.block_lt_of_cell? w _ hw155_0)).trans hw155_0), ((HB.out.cell (World.block_lt_of_cell? w _ hw156_0)).trans hw156_0)⟩ (fun hHeld => ?_); refine with_tabW key_Text.tab7 key_Text.bits7 (fun HT_ HW_ => ?_)
 generalize wr.drew = w23 at HO_4 HO_15 HB hx155_0 hx156_0 hHeld ⊢
 refine pure_ (i := 0) (N := some 21) (v := ?_) (a' := ?_) #[true, false, false, false, false, false, false, false, false, false, false, false] rfl rfl (any_of HT_.out (by kernel_rfl)) (fun _ _ _ h => h) (Or.inl ⟨by rfl, ?_⟩) ?_ ?_
 rotate_left
 · intro w'
   go_simp
   with_reducible rfl
 rotate_left
 · simp only [Act.put, List.setIfInBounds_toArray, List.set_cons_zero, List.set_cons_succ, i64_w, i32_w]
   rfl
 refine pure_ (i := 1) (N := some 22) (v := ?_) (a' := ?_) #[true, true, false, false, false, false, false, false, false, false, false, false] rfl rfl (any_of HT_.out (by kernel_rfl)) (fun _ _ _ h => h) (Or.inl ⟨by rfl, ?_⟩) ?_ ?_
 rotate_left
 · intro w'
   go_simp
   with_reducible rfl
 rotate_left
 · simp only [Act.put, List.setIfInBounds_toArray, List.set_cons_zero, List.set_cons_succ, i64_w, i32_w]
   rfl
 refine pure_ (i := 2) (N := some 23) (v := ?_) (a' := ?_) #[true, true, true, false, false, false, false, false, false, false, false, false] rfl rfl (any_of HT_.out (by kernel_rfl)) (fun _ _ _ h => h) (Or.inl ⟨by rfl, ?_⟩) ?_ ?_
 rotate_left
 · intro w'
   go_simp
   with_reducible rfl
 rotate_left
 · simp only [Act.put, List.setIfInBounds_toArray, List.set_cons_zero, List.set_cons_succ, i64_w, i32_w]
   rfl
 refine pure_ (i := 3) (N := some 24) (v := ?_) (a' := ?_) #[true, true, true, true, false, false, false, false, false, false, false, false] rfl rfl (any_of HT_.out (by kernel_rfl)) (fun _ _ _ h => h) (Or.inl ⟨by rfl, ?_⟩) ?_ ?_
 rotate_left
 · intro w'
   go_simp
   with_reducible rfl
 rotate_left
 · simp only [Act.put, List.setIfInBounds_toArray, List.set_cons_zero, List.set_cons_succ, i64_w, i32_w]
   rfl
 refine pure_ (i := 5) (N := some 26) (v := ?_) (a' := ?_) #[true, true, true, true, false, true, false, false, false, false, false, false] rfl rfl (any_of HT_.out (by kernel_rfl)) (fun _ _ _ h => h) (Or.inl ⟨by rfl, ?_⟩) ?_ ?_
 rotate_left
 · intro w'
   go_simp
   with_reducible rfl
 rotate_left
 · simp only [Act.put, List.setIfInBounds_toArray, List.set_cons_zero, List.set_cons_succ, i64_w, i32_w]
   rfl
 refine pure_ (i := 6) (N := some 27) (v := ?_) (a' := ?_) #[true, true, true, true, false, true, true, false, false, false, false, false] rfl rfl (any_of HT_.out (by kernel_rfl)) (fun _ _ _ h => h) (Or.inl ⟨by rfl, ?_⟩) ?_ ?_
 rotate_left
 · intro w'
   go_simp
   with_reducible rfl
 rotate_left
 · simp only [Act.put, List.setIfInBounds_toArray, List.set_cons_zero, List.set_cons_succ, i64_w, i32_w]
   rfl
 refine pure_ (i := 7) (N := some 28) (v := ?_) (a' := ?_) #[true, true, true, true, false, true, true, true, false, false, false, false] rfl rfl (any_of HT_.out (by kernel_rfl)) (fun _ _ _ h => h) (Or.inl ⟨by rfl, ?_⟩) ?_ ?_
 rotate_left
 · intro w'
   go_simp
   with_reducible rfl
 rotate_left
 · simp only [Act.put, List.setIfInBounds_toArray, List.set_cons_zero, List.set_cons_succ, i64_w, i32_w]
   rfl
 refine take_ (i := 4) (N := some 25) (v := ?_) (a' := ?_) #[true, true, true, true, true, true, true, true, false, false, false, false] rfl rfl (take_ofW HT_.out HW_.out (by kernel_rfl)) (fun _ _ _ h => h) (Or.inl ⟨by rfl, ?_⟩) hHeld ?_ ?_
 rotate_left
 · rintro w' ⟨s0, s1⟩
   go_simp
   with_reducible rfl
 rotate_left
 · simp only [Act.put, List.setIfInBounds_toArray, List.set_cons_zero, List.set_cons_succ, i64_w, i32_w]
   rfl
 refine take_ (i := 8) (N := some 29) (v := ?_) (a' := ?_) #[true, true, true, true, true, true, true, true, true, false, false, false] rfl rfl (take_ofW HT_.out HW_.out (by kernel_rfl)) (fun _ _ _ h => h) (Or.inl ⟨by rfl, ?_⟩) hHeld ?_ ?_
 rotate_left
 · rintro w' ⟨s0, s1⟩
   go_simp
   with_reducible rfl
 rotate_left
 · simp only [Act.put, List.setIfInBounds_toArray, List.set_cons_zero, List.set_cons_succ, i64_w, i32_w]
   rfl
 refine one_ (i := 9) (N := some 30) #[true, true, true, true, true, true, true, true, true, true, false, false] rfl rfl (one_of HT_.out (by kernel_rfl)) (by decide) (fun K hK => ?_)
 refine Kd.R_lit_step (Kd.int .u8) _ 5 ?hg (N := 30) ?hd (xs := ([rd tab0 (ji16), rd tab0 (ji19)] : List Int)) (inner := [.int .u8 (rd tab0 (ji16)), .int .u8 (rd tab0 (ji19))]) (ok := fun _ => True) (okp := fun _ => True) ?hr ?hp (fun _ hk => hk) trivial (Below.refl _ _) (Nat.le_refl _) (by simp) ?_; (case hd => rfl); (case hg => rfl); (case hr => first | (go_simp; done) | (go_simp; rfl)); (case hp => exact (Reps.one (show Kd.M (Kd.int .u8) _ _ _ (rd tab0 (ji16)) [.int .u8 (rd tab0 (ji16))] from rfl) (Reps.one (show Kd.M (Kd.int .u8) _ _ _ (rd tab0 (ji19)) [.int .u8 (rd tab0 (ji19))] from rfl) (Reps.none _ _))))
 intro v158 w24 ho25 hb hg_ hnew_
 clear hg_ hnew_
 (first | rw [← Ny157.out] at ho25 | (simp only [Int.reduceToNat] at ho25; rw [← Ny157.out] at ho25))
 have HO159 := sqM (Kd.R_lower (Kd.R_new' ho25 (Kd.R_lt (sqR HO_4.out))) (below_size (sqB HB.out)))
 replace HO_4 := sqM (Kd.R_elder' (sqR HO_4.out) (Kd.R_base ho25) hb)
 replace HO_15 := sqM (Kd.V_elder' (sqV HO_15.out) (Kd.R_base ho25) hb)
 replace HB := sqM (below_step (sqB HB.out) hb)
 clear hb ho25
 obtain ⟨Ao27, co27, eo27⟩ := Kd.R_slice HO159.out
 (first | subst eo27 | (injection eo27 with f1_ f2_ f3_; have f4_ := f1_.symm; have f5_ := f3_.symm; clear f1_ f2_ f3_; subst f4_; subst f5_))
 refine hK.out _ _ ⟨((HB.out.cell (World.block_lt_of_cell? w _ hw155_0)).trans hw155_0), ((HB.out.cell (World.block_lt_of_cell? w _ hw156_0)).trans hw156_0)⟩ (fun hHeld => ?_)
 clear hK K
 refine norm_ (a' := ?_) ?_ ?_
 rotate_left
 · show Act.put _ (some 30) _ = _
   simp only [Act.put, List.setIfInBounds_toArray, List.set_cons_zero, List.set_cons_succ, i64_w, i32_w]
   rfl
 refine one_ (i := 10) (N := some 31) #[true, true, true, true, true, true, true, true, true, true, true, false] rfl rfl (one_of HT_.out (by kernel_rfl)) (by decide) (fun K hK => ?_)
 refine Kd.R_append_rows_step (Kd.int .u8) (w0 := w) w.heap.size (by rfl) (.tmp 21) (.tmp 30) 22 5 (.int .u8 0) 1 rfl Tryd.underlying22 info5 rfl (by decide) (by omega) u4 x4_1 y157 _ _ _ (fun k_ => some k_ ≠ (.slice Ao27 y157.length co27 : Value).ownBlock) (fun _ => False) rfl rfl ?aO ?aR (fun _ _ h => h) (fun _ h => h.elim) ?aF ?aB ?aS ?aL ?_
 (case aR => repeat (first | exact (Kd.R_reads' HO159.out).2.2 | (with_reducible refine Kd.C_alloc ?_ _) | (with_reducible refine Kd.C_drewN ?_ _) | (with_reducible refine Kd.C_drew ?_)))
 (case aB => exact (sqB HB.out))
 (case aF => exact (fun k_ hk => Kd.fresh' (Kd.R_lt (sqR HO159.out)) k_ hk))
 (case aO => exact (by refine sqR ?_; exact Kd.R_mono HO_4.out (fun _ hk => hk.2)))
 (case aS => exact (below_size (sqB HB.out)))
 (case aL => have := LMc22.out; omega)
 intro v161 w26 ho hb hg hat
 rw [← Ny160.out] at ho
 have HO162 := Aside0.mk (ho)
 replace HO_15 := sqM (Kd.V_afterv (ok := (fun k_ => some k_ ≠ (.slice Ao27 y157.length co27 : Value).ownBlock)) (by refine sqV ?_; exact Kd.V_mono HO_15.out (fun _ hk => ⟨hk.2, hk.1⟩)) hg hat)
 replace HO159 := sqM (Kd.R_after (ok := (fun _ => True)) (sqR HO159.out) hg hat)
 replace HB := Aside0.mk (hb)
 clear HO_4
 clear ho hb hg hat
 refine hK.out _ _ ⟨((HB.out.cell (World.block_lt_of_cell? w _ hw155_0)).trans hw155_0), ((HB.out.cell (World.block_lt_of_cell? w _ hw156_0)).trans hw156_0)⟩ (fun hHeld => ?_)
 clear hK K
 refine norm_ (a' := ?_) ?_ ?_
 rotate_left
 · show Act.put _ (some 31) _ = _
   simp only [Act.put, List.setIfInBounds_toArray, List.set_cons_zero, List.set_cons_succ, i64_w, i32_w]
   rfl
 refine pure_ (i := 11) (N := some 4) (v := ?_) (a' := ?_) #[true, true, true, true, true, true, true, true, true, true, true, true] rfl rfl (any_of HT_.out (by kernel_rfl)) (fun _ _ _ h => h) (Or.inl ⟨by rfl, ?_⟩) ?_ ?_
 rotate_left
 · intro w'
   go_simp
   with_reducible rfl
 rotate_left
 · simp only [Act.put, List.setIfInBounds_toArray, List.set_cons_zero, List.set_cons_succ, i64_w, i32_w]
   rfl
 refine done_ (done_of HT_.out (by kernel_rfl)) ?_
 try go_wp2
 go_roundg k1
 case measure => have := HK1.out; omega
 case rel => exact ⟨(y160), (wrap64 (x17_1 + 1)), sqI, H', ⟨by have := HK1.out; omega⟩, ⟨by refine sqR ?_; exact Kd.R_mono HO162.out (fun _ hk => trivial)⟩, ⟨by refine sqV ?_; exact Kd.V_mono HO_15.out (fun _ hk => hk.2)⟩, ⟨sqB HB.out⟩⟩

/-! ### key_digit: function 25 -/
/-- What a digit stands for; 16: it is none. -/
def key_digit.f (a0 : Int) : Option Int := some ((tab0.findIdx (fun d => d == a0) : Nat) : Int)
theorem key_digit.cells {w : World} (h : TabW w) : w.cell? ⟨0, 0, none⟩ = some (.int .u8 48) ∧ w.cell? ⟨0, 1, none⟩ = some (.int .u8 49) ∧ w.cell? ⟨0, 2, none⟩ = some (.int .u8 50) ∧ w.cell? ⟨0, 3, none⟩ = some (.int .u8 51) ∧ w.cell? ⟨0, 4, none⟩ = some (.int .u8 52) ∧ w.cell? ⟨0, 5, none⟩ = some (.int .u8 53) ∧ w.cell? ⟨0, 6, none⟩ = some (.int .u8 54) ∧ w.cell? ⟨0, 7, none⟩ = some (.int .u8 55) ∧ w.cell? ⟨0, 8, none⟩ = some (.int .u8 56) ∧ w.cell? ⟨0, 9, none⟩ = some (.int .u8 57) ∧ w.cell? ⟨0, 10, none⟩ = some (.int .u8 97) ∧ w.cell? ⟨0, 11, none⟩ = some (.int .u8 98) ∧ w.cell? ⟨0, 12, none⟩ = some (.int .u8 99) ∧ w.cell? ⟨0, 13, none⟩ = some (.int .u8 100) ∧ w.cell? ⟨0, 14, none⟩ = some (.int .u8 101) ∧ w.cell? ⟨0, 15, none⟩ = some (.int .u8 102) := by
 have c : ∀ i : Nat, i < 16 → w.cell? ⟨0, i, none⟩ = some (.int .u8 (tab0.getD i 0)) := fun i hi => by
  obtain ⟨ad, e, hx⟩ := Kd.at_int h.t0 (i : Int) (by omega) (by show (i : Int) < 16; omega)
  obtain rfl : (⟨0, 0, none⟩ : Addr) = ad := by injection e
  rw [add_plain] at hx
  simpa [rd, Int.toNat_natCast] using hx
 exact ⟨c 0 (by decide), c 1 (by decide), c 2 (by decide), c 3 (by decide), c 4 (by decide), c 5 (by decide), c 6 (by decide), c 7 (by decide), c 8 (by decide), c 9 (by decide), c 10 (by decide), c 11 (by decide), c 12 (by decide), c 13 (by decide), c 14 (by decide), c 15 (by decide)⟩
theorem key_digit.skip (a0 : Int) (i : Nat) (hi : i < 16) (h : ∀ j < i, tab0.getD j 0 ≠ a0) (he : tab0.getD i 0 = a0) : tab0.findIdx (fun d => d == a0) = i := by
 have hl : tab0.length = 16 := rfl
 rw [List.findIdx_eq (by omega)]
 refine ⟨by rw [← he, List.getD_eq_getElem?_getD, List.getElem?_eq_getElem (by omega)]; simp, fun j hj => ?_⟩
 have := h j hj
 rw [List.getD_eq_getElem?_getD, List.getElem?_eq_getElem (by omega)] at this
 simpa using this
theorem key_digit.none_ (a0 : Int) (h : ∀ j < 16, tab0.getD j 0 ≠ a0) : tab0.findIdx (fun d => d == a0) = 16 := by
 have hl : tab0.length = 16 := rfl
 rw [← hl, List.findIdx_eq_length]
 intro x hx
 obtain ⟨j, hj, rfl⟩ := List.mem_iff_getElem.1 hx
 have := h j (by omega)
 rw [List.getD_eq_getElem?_getD, List.getElem?_eq_getElem hj] at this
 simpa using this
set_option maxHeartbeats 8000000 in
set_option maxRecDepth 100000 in
theorem key_digit.calls (a0 : Int) (r : Int) (w : World) (hT : TabW w) (h : key_digit.f a0 = some r) :
    Calls Tryd.prog 25 #[.int .u8 a0] w fun e w' => e = .returned (.int .i64 r) ∧ Drawn0 w w' := by
 have hu46 := Tryd.underlying46
 obtain ⟨t0, t1, t2, t3, t4, t5, t6, t7, t8, t9, t10, t11, t12, t13, t14, t15⟩ := key_digit.cells hT
 clear hT
 have HR := Aside0.mk (Option.some.inj h)
 clear h
 go_enter Tryd.func25, Tryd.ntmps25
 go_wp2
 go_loopg [6] 16 (fun kq v6 w' => ∃ i : Nat, v6 = .int .i64 (i : Int) ∧ Aside0 (kq + i = 16 ∧ ∀ j < i, tab0.getD j 0 ≠ a0) ∧ Drawn0 w w')
 case atStart => exact ⟨0, (by first | rfl | (simp; done)), ⟨by omega, fun j hj => absurd hj (Nat.not_lt_zero j)⟩, sqD⟩
 obtain ⟨i, rfl, HA, ⟨m1, rfl⟩⟩ := hrel
 have hle := HA.out.1
 have hi : i = 0 ∨ i = 1 ∨ i = 2 ∨ i = 3 ∨ i = 4 ∨ i = 5 ∨ i = 6 ∨ i = 7 ∨ i = 8 ∨ i = 9 ∨ i = 10 ∨ i = 11 ∨ i = 12 ∨ i = 13 ∨ i = 14 ∨ i = 15 ∨ (i = 16 ∧ gk = 0) := by omega
 rcases hi with rfl | rfl | rfl | rfl | rfl | rfl | rfl | rfl | rfl | rfl | rfl | rfl | rfl | rfl | rfl | rfl | ⟨rfl, rfl⟩
 · obtain rfl : gk = 16 := by omega
   have hix : ∀ W : World, (Instr.index 46 (.agg #[.int .u8 48, .int .u8 49, .int .u8 50, .int .u8 51, .int .u8 52, .int .u8 53, .int .u8 54, .int .u8 55, .int .u8 56, .int .u8 57, .int .u8 97, .int .u8 98, .int .u8 99, .int .u8 100, .int .u8 101, .int .u8 102]) (.int .i64 0)).run Tryd.prog W = .ok (.int .u8 48) W := fun W => rfl
   by_cases c : a0 = 48
   · subst c
     obtain rfl := HR.out
     go_wp2
     go_ret
     exact ⟨by first | rfl | (simp; done), sqD⟩
   have c0 : (a0 == 48) = false := beq_eq_false_iff_ne.mpr c
   have HN := sqM (show 15 + 1 = 16 ∧ ∀ j < 1, tab0.getD j 0 ≠ a0 from ⟨by omega, fun j hj => by rcases Nat.lt_succ_iff_lt_or_eq.1 hj with h | rfl; exact HA.out.2 j h; exact fun e => c e.symm⟩)
   clear HA c
   go_wp2
   go_roundg 15
   case measure => omega
   case rel => exact ⟨1, by first | rfl | (simp; done), ⟨rfl, HN.out.2⟩, sqD⟩
 · obtain rfl : gk = 15 := by omega
   have hix : ∀ W : World, (Instr.index 46 (.agg #[.int .u8 48, .int .u8 49, .int .u8 50, .int .u8 51, .int .u8 52, .int .u8 53, .int .u8 54, .int .u8 55, .int .u8 56, .int .u8 57, .int .u8 97, .int .u8 98, .int .u8 99, .int .u8 100, .int .u8 101, .int .u8 102]) (.int .i64 1)).run Tryd.prog W = .ok (.int .u8 49) W := fun W => rfl
   by_cases c : a0 = 49
   · subst c
     obtain rfl := HR.out
     go_wp2
     go_ret
     exact ⟨by first | rfl | (simp; done), sqD⟩
   have c0 : (a0 == 49) = false := beq_eq_false_iff_ne.mpr c
   have HN := sqM (show 14 + 2 = 16 ∧ ∀ j < 2, tab0.getD j 0 ≠ a0 from ⟨by omega, fun j hj => by rcases Nat.lt_succ_iff_lt_or_eq.1 hj with h | rfl; exact HA.out.2 j h; exact fun e => c e.symm⟩)
   clear HA c
   go_wp2
   go_roundg 14
   case measure => omega
   case rel => exact ⟨2, by first | rfl | (simp; done), ⟨rfl, HN.out.2⟩, sqD⟩
 · obtain rfl : gk = 14 := by omega
   have hix : ∀ W : World, (Instr.index 46 (.agg #[.int .u8 48, .int .u8 49, .int .u8 50, .int .u8 51, .int .u8 52, .int .u8 53, .int .u8 54, .int .u8 55, .int .u8 56, .int .u8 57, .int .u8 97, .int .u8 98, .int .u8 99, .int .u8 100, .int .u8 101, .int .u8 102]) (.int .i64 2)).run Tryd.prog W = .ok (.int .u8 50) W := fun W => rfl
   by_cases c : a0 = 50
   · subst c
     obtain rfl := HR.out
     go_wp2
     go_ret
     exact ⟨by first | rfl | (simp; done), sqD⟩
   have c0 : (a0 == 50) = false := beq_eq_false_iff_ne.mpr c
   have HN := sqM (show 13 + 3 = 16 ∧ ∀ j < 3, tab0.getD j 0 ≠ a0 from ⟨by omega, fun j hj => by rcases Nat.lt_succ_iff_lt_or_eq.1 hj with h | rfl; exact HA.out.2 j h; exact fun e => c e.symm⟩)
   clear HA c
   go_wp2
   go_roundg 13
   case measure => omega
   case rel => exact ⟨3, by first | rfl | (simp; done), ⟨rfl, HN.out.2⟩, sqD⟩
 · obtain rfl : gk = 13 := by omega
   have hix : ∀ W : World, (Instr.index 46 (.agg #[.int .u8 48, .int .u8 49, .int .u8 50, .int .u8 51, .int .u8 52, .int .u8 53, .int .u8 54, .int .u8 55, .int .u8 56, .int .u8 57, .int .u8 97, .int .u8 98, .int .u8 99, .int .u8 100, .int .u8 101, .int .u8 102]) (.int .i64 3)).run Tryd.prog W = .ok (.int .u8 51) W := fun W => rfl
   by_cases c : a0 = 51
   · subst c
     obtain rfl := HR.out
     go_wp2
     go_ret
     exact ⟨by first | rfl | (simp; done), sqD⟩
   have c0 : (a0 == 51) = false := beq_eq_false_iff_ne.mpr c
   have HN := sqM (show 12 + 4 = 16 ∧ ∀ j < 4, tab0.getD j 0 ≠ a0 from ⟨by omega, fun j hj => by rcases Nat.lt_succ_iff_lt_or_eq.1 hj with h | rfl; exact HA.out.2 j h; exact fun e => c e.symm⟩)
   clear HA c
   go_wp2
   go_roundg 12
   case measure => omega
   case rel => exact ⟨4, by first | rfl | (simp; done), ⟨rfl, HN.out.2⟩, sqD⟩
 · obtain rfl : gk = 12 := by omega
   have hix : ∀ W : World, (Instr.index 46 (.agg #[.int .u8 48, .int .u8 49, .int .u8 50, .int .u8 51, .int .u8 52, .int .u8 53, .int .u8 54, .int .u8 55, .int .u8 56, .int .u8 57, .int .u8 97, .int .u8 98, .int .u8 99, .int .u8 100, .int .u8 101, .int .u8 102]) (.int .i64 4)).run Tryd.prog W = .ok (.int .u8 52) W := fun W => rfl
   by_cases c : a0 = 52
   · subst c
     obtain rfl := HR.out
     go_wp2
     go_ret
     exact ⟨by first | rfl | (simp; done), sqD⟩
   have c0 : (a0 == 52) = false := beq_eq_false_iff_ne.mpr c
   have HN := sqM (show 11 + 5 = 16 ∧ ∀ j < 5, tab0.getD j 0 ≠ a0 from ⟨by omega, fun j hj => by rcases Nat.lt_succ_iff_lt_or_eq.1 hj with h | rfl; exact HA.out.2 j h; exact fun e => c e.symm⟩)
   clear HA c
   go_wp2
   go_roundg 11
   case measure => omega
   case rel => exact ⟨5, by first | rfl | (simp; done), ⟨rfl, HN.out.2⟩, sqD⟩
 · obtain rfl : gk = 11 := by omega
   have hix : ∀ W : World, (Instr.index 46 (.agg #[.int .u8 48, .int .u8 49, .int .u8 50, .int .u8 51, .int .u8 52, .int .u8 53, .int .u8 54, .int .u8 55, .int .u8 56, .int .u8 57, .int .u8 97, .int .u8 98, .int .u8 99, .int .u8 100, .int .u8 101, .int .u8 102]) (.int .i64 5)).run Tryd.prog W = .ok (.int .u8 53) W := fun W => rfl
   by_cases c : a0 = 53
   · subst c
     obtain rfl := HR.out
     go_wp2
     go_ret
     exact ⟨by first | rfl | (simp; done), sqD⟩
   have c0 : (a0 == 53) = false := beq_eq_false_iff_ne.mpr c
   have HN := sqM (show 10 + 6 = 16 ∧ ∀ j < 6, tab0.getD j 0 ≠ a0 from ⟨by omega, fun j hj => by rcases Nat.lt_succ_iff_lt_or_eq.1 hj with h | rfl; exact HA.out.2 j h; exact fun e => c e.symm⟩)
   clear HA c
   go_wp2
   go_roundg 10
   case measure => omega
   case rel => exact ⟨6, by first | rfl | (simp; done), ⟨rfl, HN.out.2⟩, sqD⟩
 · obtain rfl : gk = 10 := by omega
   have hix : ∀ W : World, (Instr.index 46 (.agg #[.int .u8 48, .int .u8 49, .int .u8 50, .int .u8 51, .int .u8 52, .int .u8 53, .int .u8 54, .int .u8 55, .int .u8 56, .int .u8 57, .int .u8 97, .int .u8 98, .int .u8 99, .int .u8 100, .int .u8 101, .int .u8 102]) (.int .i64 6)).run Tryd.prog W = .ok (.int .u8 54) W := fun W => rfl
   by_cases c : a0 = 54
   · subst c
     obtain rfl := HR.out
     go_wp2
     go_ret
     exact ⟨by first | rfl | (simp; done), sqD⟩
   have c0 : (a0 == 54) = false := beq_eq_false_iff_ne.mpr c
   have HN := sqM (show 9 + 7 = 16 ∧ ∀ j < 7, tab0.getD j 0 ≠ a0 from ⟨by omega, fun j hj => by rcases Nat.lt_succ_iff_lt_or_eq.1 hj with h | rfl; exact HA.out.2 j h; exact fun e => c e.symm⟩)
   clear HA c
   go_wp2
   go_roundg 9
   case measure => omega
   case rel => exact ⟨7, by first | rfl | (simp; done), ⟨rfl, HN.out.2⟩, sqD⟩
 · obtain rfl : gk = 9 := by omega
   have hix : ∀ W : World, (Instr.index 46 (.agg #[.int .u8 48, .int .u8 49, .int .u8 50, .int .u8 51, .int .u8 52, .int .u8 53, .int .u8 54, .int .u8 55, .int .u8 56, .int .u8 57, .int .u8 97, .int .u8 98, .int .u8 99, .int .u8 100, .int .u8 101, .int .u8 102]) (.int .i64 7)).run Tryd.prog W = .ok (.int .u8 55) W := fun W => rfl
   by_cases c : a0 = 55
   · subst c
     obtain rfl := HR.out
     go_wp2
     go_ret
     exact ⟨by first | rfl | (simp; done), sqD⟩
   have c0 : (a0 == 55) = false := beq_eq_false_iff_ne.mpr c
   have HN := sqM (show 8 + 8 = 16 ∧ ∀ j < 8, tab0.getD j 0 ≠ a0 from ⟨by omega, fun j hj => by rcases Nat.lt_succ_iff_lt_or_eq.1 hj with h | rfl; exact HA.out.2 j h; exact fun e => c e.symm⟩)
   clear HA c
   go_wp2
   go_roundg 8
   case measure => omega
   case rel => exact ⟨8, by first | rfl | (simp; done), ⟨rfl, HN.out.2⟩, sqD⟩
 · obtain rfl : gk = 8 := by omega
   have hix : ∀ W : World, (Instr.index 46 (.agg #[.int .u8 48, .int .u8 49, .int .u8 50, .int .u8 51, .int .u8 52, .int .u8 53, .int .u8 54, .int .u8 55, .int .u8 56, .int .u8 57, .int .u8 97, .int .u8 98, .int .u8 99, .int .u8 100, .int .u8 101, .int .u8 102]) (.int .i64 8)).run Tryd.prog W = .ok (.int .u8 56) W := fun W => rfl
   by_cases c : a0 = 56
   · subst c
     obtain rfl := HR.out
     go_wp2
     go_ret
     exact ⟨by first | rfl | (simp; done), sqD⟩
   have c0 : (a0 == 56) = false := beq_eq_false_iff_ne.mpr c
   have HN := sqM (show 7 + 9 = 16 ∧ ∀ j < 9, tab0.getD j 0 ≠ a0 from ⟨by omega, fun j hj => by rcases Nat.lt_succ_iff_lt_or_eq.1 hj with h | rfl; exact HA.out.2 j h; exact fun e => c e.symm⟩)
   clear HA c
   go_wp2
   go_roundg 7
   case measure => omega
   case rel => exact ⟨9, by first | rfl | (simp; done), ⟨rfl, HN.out.2⟩, sqD⟩
 · obtain rfl : gk = 7 := by omega
   have hix : ∀ W : World, (Instr.index 46 (.agg #[.int .u8 48, .int .u8 49, .int .u8 50, .int .u8 51, .int .u8 52, .int .u8 53, .int .u8 54, .int .u8 55, .int .u8 56, .int .u8 57, .int .u8 97, .int .u8 98, .int .u8 99, .int .u8 100, .int .u8 101, .int .u8 102]) (.int .i64 9)).run Tryd.prog W = .ok (.int .u8 57) W := fun W => rfl
   by_cases c : a0 = 57
   · subst c
     obtain rfl := HR.out
     go_wp2
     go_ret
     exact ⟨by first | rfl | (simp; done), sqD⟩
   have c0 : (a0 == 57) = false := beq_eq_false_iff_ne.mpr c
   have HN := sqM (show 6 + 10 = 16 ∧ ∀ j < 10, tab0.getD j 0 ≠ a0 from ⟨by omega, fun j hj => by rcases Nat.lt_succ_iff_lt_or_eq.1 hj with h | rfl; exact HA.out.2 j h; exact fun e => c e.symm⟩)
   clear HA c
   go_wp2
   go_roundg 6
   case measure => omega
   case rel => exact ⟨10, by first | rfl | (simp; done), ⟨rfl, HN.out.2⟩, sqD⟩
 · obtain rfl : gk = 6 := by omega
   have hix : ∀ W : World, (Instr.index 46 (.agg #[.int .u8 48, .int .u8 49, .int .u8 50, .int .u8 51, .int .u8 52, .int .u8 53, .int .u8 54, .int .u8 55, .int .u8 56, .int .u8 57, .int .u8 97, .int .u8 98, .int .u8 99, .int .u8 100, .int .u8 101, .int .u8 102]) (.int .i64 10)).run Tryd.prog W = .ok (.int .u8 97) W := fun W => rfl
   by_cases c : a0 = 97
   · subst c
     obtain rfl := HR.out
     go_wp2
     go_ret
     exact ⟨by first | rfl | (simp; done), sqD⟩
   have c0 : (a0 == 97) = false := beq_eq_false_iff_ne.mpr c
   have HN := sqM (show 5 + 11 = 16 ∧ ∀ j < 11, tab0.getD j 0 ≠ a0 from ⟨by omega, fun j hj => by rcases Nat.lt_succ_iff_lt_or_eq.1 hj with h | rfl; exact HA.out.2 j h; exact fun e => c e.symm⟩)
   clear HA c
   go_wp2
   go_roundg 5
   case measure => omega
   case rel => exact ⟨11, by first | rfl | (simp; done), ⟨rfl, HN.out.2⟩, sqD⟩
 · obtain rfl : gk = 5 := by omega
   have hix : ∀ W : World, (Instr.index 46 (.agg #[.int .u8 48, .int .u8 49, .int .u8 50, .int .u8 51, .int .u8 52, .int .u8 53, .int .u8 54, .int .u8 55, .int .u8 56, .int .u8 57, .int .u8 97, .int .u8 98, .int .u8 99, .int .u8 100, .int .u8 101, .int .u8 102]) (.int .i64 11)).run Tryd.prog W = .ok (.int .u8 98) W := fun W => rfl
   by_cases c : a0 = 98
   · subst c
     obtain rfl := HR.out
     go_wp2
     go_ret
     exact ⟨by first | rfl | (simp; done), sqD⟩
   have c0 : (a0 == 98) = false := beq_eq_false_iff_ne.mpr c
   have HN := sqM (show 4 + 12 = 16 ∧ ∀ j < 12, tab0.getD j 0 ≠ a0 from ⟨by omega, fun j hj => by rcases Nat.lt_succ_iff_lt_or_eq.1 hj with h | rfl; exact HA.out.2 j h; exact fun e => c e.symm⟩)
   clear HA c
   go_wp2
   go_roundg 4
   case measure => omega
   case rel => exact ⟨12, by first | rfl | (simp; done), ⟨rfl, HN.out.2⟩, sqD⟩
 · obtain rfl : gk = 4 := by omega
   have hix : ∀ W : World, (Instr.index 46 (.agg #[.int .u8 48, .int .u8 49, .int .u8 50, .int .u8 51, .int .u8 52, .int .u8 53, .int .u8 54, .int .u8 55, .int .u8 56, .int .u8 57, .int .u8 97, .int .u8 98, .int .u8 99, .int .u8 100, .int .u8 101, .int .u8 102]) (.int .i64 12)).run Tryd.prog W = .ok (.int .u8 99) W := fun W => rfl
   by_cases c : a0 = 99
   · subst c
     obtain rfl := HR.out
     go_wp2
     go_ret
     exact ⟨by first | rfl | (simp; done), sqD⟩
   have c0 : (a0 == 99) = false := beq_eq_false_iff_ne.mpr c
   have HN := sqM (show 3 + 13 = 16 ∧ ∀ j < 13, tab0.getD j 0 ≠ a0 from ⟨by omega, fun j hj => by rcases Nat.lt_succ_iff_lt_or_eq.1 hj with h | rfl; exact HA.out.2 j h; exact fun e => c e.symm⟩)
   clear HA c
   go_wp2
   go_roundg 3
   case measure => omega
   case rel => exact ⟨13, by first | rfl | (simp; done), ⟨rfl, HN.out.2⟩, sqD⟩
 · obtain rfl : gk = 3 := by omega
   have hix : ∀ W : World, (Instr.index 46 (.agg #[.int .u8 48, .int .u8 49, .int .u8 50, .int .u8 51, .int .u8 52, .int .u8 53, .int .u8 54, .int .u8 55, .int .u8 56, .int .u8 57, .int .u8 97, .int .u8 98, .int .u8 99, .int .u8 100, .int .u8 101, .int .u8 102]) (.int .i64 13)).run Tryd.prog W = .ok (.int .u8 100) W := fun W => rfl
   by_cases c : a0 = 100
   · subst c
     obtain rfl := HR.out
     go_wp2
     go_ret
     exact ⟨by first | rfl | (simp; done), sqD⟩
   have c0 : (a0 == 100) = false := beq_eq_false_iff_ne.mpr c
   have HN := sqM (show 2 + 14 = 16 ∧ ∀ j < 14, tab0.getD j 0 ≠ a0 from ⟨by omega, fun j hj => by rcases Nat.lt_succ_iff_lt_or_eq.1 hj with h | rfl; exact HA.out.2 j h; exact fun e => c e.symm⟩)
   clear HA c
   go_wp2
   go_roundg 2
   case measure => omega
   case rel => exact ⟨14, by first | rfl | (simp; done), ⟨rfl, HN.out.2⟩, sqD⟩
 · obtain rfl : gk = 2 := by omega
   have hix : ∀ W : World, (Instr.index 46 (.agg #[.int .u8 48, .int .u8 49, .int .u8 50, .int .u8 51, .int .u8 52, .int .u8 53, .int .u8 54, .int .u8 55, .int .u8 56, .int .u8 57, .int .u8 97, .int .u8 98, .int .u8 99, .int .u8 100, .int .u8 101, .int .u8 102]) (.int .i64 14)).run Tryd.prog W = .ok (.int .u8 101) W := fun W => rfl
   by_cases c : a0 = 101
   · subst c
     obtain rfl := HR.out
     go_wp2
     go_ret
     exact ⟨by first | rfl | (simp; done), sqD⟩
   have c0 : (a0 == 101) = false := beq_eq_false_iff_ne.mpr c
   have HN := sqM (show 1 + 15 = 16 ∧ ∀ j < 15, tab0.getD j 0 ≠ a0 from ⟨by omega, fun j hj => by rcases Nat.lt_succ_iff_lt_or_eq.1 hj with h | rfl; exact HA.out.2 j h; exact fun e => c e.symm⟩)
   clear HA c
   go_wp2
   go_roundg 1
   case measure => omega
   case rel => exact ⟨15, by first | rfl | (simp; done), ⟨rfl, HN.out.2⟩, sqD⟩
 · obtain rfl : gk = 1 := by omega
   have hix : ∀ W : World, (Instr.index 46 (.agg #[.int .u8 48, .int .u8 49, .int .u8 50, .int .u8 51, .int .u8 52, .int .u8 53, .int .u8 54, .int .u8 55, .int .u8 56, .int .u8 57, .int .u8 97, .int .u8 98, .int .u8 99, .int .u8 100, .int .u8 101, .int .u8 102]) (.int .i64 15)).run Tryd.prog W = .ok (.int .u8 102) W := fun W => rfl
   by_cases c : a0 = 102
   · subst c
     obtain rfl := HR.out
     go_wp2
     go_ret
     exact ⟨by first | rfl | (simp; done), sqD⟩
   have c0 : (a0 == 102) = false := beq_eq_false_iff_ne.mpr c
   have HN := sqM (show 0 + 16 = 16 ∧ ∀ j < 16, tab0.getD j 0 ≠ a0 from ⟨by omega, fun j hj => by rcases Nat.lt_succ_iff_lt_or_eq.1 hj with h | rfl; exact HA.out.2 j h; exact fun e => c e.symm⟩)
   clear HA c
   go_wp2
   go_roundg 0
   case measure => omega
   case rel => exact ⟨16, by first | rfl | (simp; done), ⟨rfl, HN.out.2⟩, sqD⟩
 obtain rfl := (show (16 : Int) = r from by rw [← HR.out, key_digit.none_ a0 HA.out.2]; rfl)
 go_wp2
 go_ret
 exact ⟨by first | rfl | (simp; done), sqD⟩

end Go.Proofs.YtkjmfnijagdhpaaDoor.PKey
