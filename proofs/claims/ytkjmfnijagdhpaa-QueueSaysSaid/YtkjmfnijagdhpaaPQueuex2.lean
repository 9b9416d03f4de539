/- Lean functions for Go functions of the given program, and proofs that the code computes them, each under its theorem's own conditions. Written by a program of this session. -/
import Derived.Test.YtkjmfnijagdhpaaPQueuex0
namespace Go.Proofs.Ytkjmfnijagdhpaa.PQueue
open Go.RowKit Go.Proofs.YtkjmfnijagdhpaaW.PrintWords Go.Proofs.YtkjmfnijagdhpaaW.PrintLast Go.Proofs.YtkjmfnijagdhpaaW.PrintMore
attribute [local go_sem] max2_int min2_int max_two min_two max_three min_three max_four min_four   -- for this text's walks alone
set_option linter.unusedVariables false
set_option linter.unusedSimpArgs false

/-! ### boarderlaw12_Great: function 8 -/
def boarderlaw12_Great.l0 : Nat → List (S34) → Int → Option (Bool)
  | 0, _, _ => none
  | k + 1, x0, x3 => if x3 < (x0.length : Int) then (if 0 ≤ x3 then (if (((rd_T34 x0 x3).f3).size : Int) > 1000 then (some true) else (boarderlaw12_Great.l0 k x0 (wrap64 (x3 + 1)))) else (none)) else (some (decide ((x0.length : Int) > 200)))
def boarderlaw12_Great.f (k : Nat) (l0 : List (S34)) : Option (Bool) := boarderlaw12_Great.l0 k l0 0
theorem boarderlaw12_Great.mono_l : ∀ k, (∀ y0 y1, LeO (boarderlaw12_Great.l0 k y0 y1) (boarderlaw12_Great.l0 (k + 1) y0 y1))
  | 0 => fun _ _ r h => by simp [boarderlaw12_Great.l0] at h
  | k + 1 => by
    have ih0 := boarderlaw12_Great.mono_l k
    · intro y0 y1
      unfold boarderlaw12_Great.l0
      repeat' first
      | (with_reducible exact ih0 _ _)
      | (with_reducible exact LeO.refl _)
      | (with_reducible exact LeO.none _)
      | (with_reducible refine LeO.ite ?_ ?_)
      | (with_reducible refine LeO.bind ?_ (fun _ => ?_))
      | exact ih0 _ _
      | exact LeO.none _
      | refine LeO.ite ?_ ?_
      | refine LeO.bind ?_ (fun _ => ?_)
theorem boarderlaw12_Great.mono : ∀ a0 k, LeO (boarderlaw12_Great.f k a0) (boarderlaw12_Great.f (k + 1) a0) := by
 intro a0 k
 have ih0 := boarderlaw12_Great.mono_l k
 unfold boarderlaw12_Great.f
 repeat' first
  | (with_reducible exact ih0 _ _)
  | (with_reducible exact LeO.refl _)
  | (with_reducible exact LeO.none _)
  | (with_reducible refine LeO.ite ?_ ?_)
  | (with_reducible refine LeO.bind ?_ (fun _ => ?_))
  | exact ih0 _ _
  | exact LeO.none _
  | refine LeO.ite ?_ ?_
  | refine LeO.bind ?_ (fun _ => ?_)
set_option maxHeartbeats 8000000 in
set_option maxRecDepth 100000 in
theorem boarderlaw12_Great.calls (k : Nat) (A0 : Option Addr) (c0 : Nat) (l0 : List (S34)) (r : Bool) (w : World) (hr0 : Kd.C k34 w A0 l0.length l0) (hc0 : l0.length ≤ c0) (h : boarderlaw12_Great.f k l0 = some r) :
    Calls Try.prog 8 #[.slice A0 l0.length c0] w fun e w' => e = .returned (.bool r) ∧ Drawn0 w w' := by
 have HR0 := Aside0.mk hr0
 have HC0 := Aside0.mk hc0
 clear hr0 hc0
 have H : (boarderlaw12_Great.l0 k l0 0) = some r := h
 clear h
 have H' := Aside0.mk H
 clear H
 go_enter Try.func8, Try.ntmps8
 go_wp2
 go_loopg [3] k (fun kq v3 w' => ∃ (x3_1 : Int), v3 = .int .i64 x3_1 ∧ Aside0 (boarderlaw12_Great.l0 kq l0 x3_1 = some r) ∧ Aside0 (kq ≤ k) ∧ Drawn0 w w')
 case atStart => exact ⟨(0), sqI, H', ⟨Nat.le_refl _⟩, sqD⟩
 clear H'
 obtain ⟨x3_1, rfl, HA, HK1, ⟨m1, rfl⟩⟩ := hrel
 cases gk with
 | zero => exact absurd HA.out (by simp [boarderlaw12_Great.l0])
 | succ k1 => ?_
 have H := HA.out
 clear HA
 simp only [boarderlaw12_Great.l0] at H
 by_cases c2 : x3_1 < (l0.length : Int)
 rotate_left
 · rw [if_neg c2] at H
   have c2b0 : decide (x3_1 < (l0.length : Int)) = false := decide_eq_false c2
   clear c2
   obtain rfl := Option.some.inj H
   go_wp2
   go_ret
   exact ⟨sqI, sqD⟩
 rw [if_pos c2] at H
 have c2b0 : decide (x3_1 < (l0.length : Int)) = true := decide_eq_true c2
 clear c2
 by_cases c3 : 0 ≤ x3_1
 rotate_left
 · rw [if_neg c3] at H
   exact absurd H (by simp)
 rw [if_pos c3] at H
 have c3b0 : decide (0 ≤ x3_1) = true := decide_eq_true c3
 clear c3
 by_cases c4 : (((rd_T34 l0 x3_1).f3).size : Int) > 1000
 · rw [if_pos c4] at H
   have c4b0 : decide (1000 < (((rd_T34 l0 x3_1).f3).size : Int)) = true := decide_eq_true c4
   have c4b1 : decide (1000 < ((rd_T34 l0 x3_1).f3).size) = true := decide_eq_true (by omega)
   clear c4
   obtain rfl := Option.some.inj H
   have p101 : 0 ≤ (x3_1 : Int) := of_decide_eq_true sqH
   have q101 : x3_1 < (l0.length : Int) := of_decide_eq_true sqH
   obtain ⟨ad101, e101, hx101_0, hx101_1, hx101_2, hx101_3⟩ := at_T34 HR0.out x3_1 p101 q101
   cases e101
   replace p101 := eq_true p101
   replace q101 := eq_true q101
   go_wp2
   go_ret
   exact ⟨sqI, sqD⟩
 rw [if_neg c4] at H
 have c4b0 : decide (1000 < (((rd_T34 l0 x3_1).f3).size : Int)) = false := decide_eq_false c4
 have c4b1 : decide (1000 < ((rd_T34 l0 x3_1).f3).size) = false := decide_eq_false (by omega)
 clear c4
 have H' := Aside0.mk H
 clear H
 have p101 : 0 ≤ (x3_1 : Int) := of_decide_eq_true sqH
 have q101 : x3_1 < (l0.length : Int) := of_decide_eq_true sqH
 obtain ⟨ad101, e101, hx101_0, hx101_1, hx101_2, hx101_3⟩ := at_T34 HR0.out x3_1 p101 q101
 cases e101
 replace p101 := eq_true p101
 replace q101 := eq_true q101
 go_wp2
 go_roundg k1
 case measure => have := HK1.out; omega
 case rel => exact ⟨(wrap64 (x3_1 + 1)), sqI, H', ⟨by have := HK1.out; omega⟩, sqD⟩

/-! ### queue_ByEnd_1: function 24 -/
def queue_ByEnd_1.f (a0_0 : Int) (a0_1 : Int) (a0_2 : Int) (a0_3 : ByteArray) : Option (Bool) := some (a0_1 != 2)
set_option maxHeartbeats 8000000 in
set_option maxRecDepth 100000 in
theorem queue_ByEnd_1.calls (a0_0 : Int) (a0_1 : Int) (a0_2 : Int) (a0_3 : ByteArray) (r : Bool) (w : World) (h : queue_ByEnd_1.f a0_0 a0_1 a0_2 a0_3 = some r) :
    Calls Try.prog 24 #[.agg #[.int .i64 a0_0, .int .i64 a0_1, .int .i64 a0_2, .string a0_3]] w fun e w' => e = .returned (.bool r) ∧ Below w.heap.size w w' := by
 have hu34 := Try.underlying34
 have HB := Aside0.mk (Below.refl w.heap.size w)
 have H : (some (a0_1 != 2)) = some r := h
 clear h
 obtain rfl := Option.some.inj H
 go_enter Try.func24, Try.ntmps24
 go_wp2_with (first | ((with_reducible refine gate_dst (N := 1) rfl ?_); refine box_event rfl (N := 1) rfl (cs := #[.int .i64 a0_0, .int .i64 a0_1, .int .i64 a0_2, .string a0_3]) (t := 34) sqs ?_; intro gb102 hg w2 hbox hb; have BK102 := sqM (hbox); have GW102 := sqM (sqZ hg (sqB HB.out)); have GE102 := sqM (sqZ hg (sqB HB.out)); replace HB := sqM (below_step (sqB HB.out) hb); clear hb hbox hg; obtain ⟨hcz3_0, hcz3_1, hcz3_2, hcz3_3, hfz3_0, hfz3_1, hfz3_2, hfz3_3⟩ := sqF4 BK102.out))
 go_ret
 exact ⟨sqE, sqB1 HB.out GE102.out⟩

/-! ### queue_byEnd_1: function 34 -/
def queue_byEnd_1.f (a0_0 : Int) (a0_1 : Int) (a0_2 : Int) (a0_3 : ByteArray) (a1_0 : Int) (a1_1 : Int) (a1_2 : Int) (a1_3 : ByteArray) : Option (Bool) := if a0_2 < a1_2 then (some true) else (if a0_2 = a1_2 then (some (decide (a0_0 < a1_0))) else (some false))
set_option maxHeartbeats 8000000 in
set_option maxRecDepth 100000 in
theorem queue_byEnd_1.calls (a0_0 : Int) (a0_1 : Int) (a0_2 : Int) (a0_3 : ByteArray) (a1_0 : Int) (a1_1 : Int) (a1_2 : Int) (a1_3 : ByteArray) (r : Bool) (w : World) (h : queue_byEnd_1.f a0_0 a0_1 a0_2 a0_3 a1_0 a1_1 a1_2 a1_3 = some r) :
    Calls Try.prog 34 #[.agg #[.int .i64 a0_0, .int .i64 a0_1, .int .i64 a0_2, .string a0_3], .agg #[.int .i64 a1_0, .int .i64 a1_1, .int .i64 a1_2, .string a1_3]] w fun e w' => e = .returned (.bool r) ∧ Below w.heap.size w w' := by
 have hu34 := Try.underlying34
 have HB := Aside0.mk (Below.refl w.heap.size w)
 have H : (if a0_2 < a1_2 then (some true) else (if a0_2 = a1_2 then (some (decide (a0_0 < a1_0))) else (some false))) = some r := h
 clear h
 by_cases c3 : a0_2 < a1_2
 · rw [if_pos c3] at H
   have c3b0 : decide (a0_2 < a1_2) = true := decide_eq_true c3
   clear c3
   obtain rfl := Option.some.inj H
   go_enter Try.func34, Try.ntmps34
   go_wp2_with (first | ((with_reducible refine gate_dst (N := 2) rfl ?_); refine box_event rfl (N := 2) rfl (cs := #[.int .i64 a0_0, .int .i64 a0_1, .int .i64 a0_2, .string a0_3]) (t := 34) sqs ?_; intro gb103 hg w4 hbox hb; have BK103 := sqM (hbox); have GW103 := sqM (sqZ hg (sqB HB.out)); have GE103 := sqM (sqZ hg (sqB HB.out)); replace HB := sqM (below_step (sqB HB.out) hb); clear hb hbox hg) | ((with_reducible refine gate_dst (N := 3) rfl ?_); refine box_event rfl (N := 3) rfl (cs := #[.int .i64 a1_0, .int .i64 a1_1, .int .i64 a1_2, .string a1_3]) (t := 34) sqs ?_; intro gb104 hg w5 hbox hb; have BK104 := sqM (hbox); have GW104 := sqM (sqZ hg (sqB1 HB.out GE103.out)); have GE104 := sqM (sqZ hg (sqB1 HB.out GE103.out)); have NB103_104 := sqM (sqL hg (sqK BK103.out)); have NB104_103 := sqM (sqG hg (sqK BK103.out)); replace BK103 := sqM (blk_below (sqK BK103.out) hb); replace HB := sqM (below_step (sqB1 HB.out GE103.out) hb); clear hb hbox hg; have hnb6 := NB103_104.out; have hnc6 := NB104_103.out; obtain ⟨hcz7_0, hcz7_1, hcz7_2, hcz7_3, hfz7_0, hfz7_1, hfz7_2, hfz7_3⟩ := sqF4 BK103.out; obtain ⟨hcz8_0, hcz8_1, hcz8_2, hcz8_3, hfz8_0, hfz8_1, hfz8_2, hfz8_3⟩ := sqF4 BK104.out))
   go_ret
   exact ⟨sqE, sqB2 HB.out GE103.out GE104.out⟩
 rw [if_neg c3] at H
 have c3b0 : decide (a0_2 < a1_2) = false := decide_eq_false c3
 clear c3
 by_cases c9 : a0_2 = a1_2
 rotate_left
 · rw [if_neg c9] at H
   have c9b0 : (a0_2 == a1_2) = false := beq_eq_false_iff_ne.mpr c9
   have c9b1 : (a0_2 != a1_2) = true := bne_iff_ne.mpr c9
   obtain rfl := Option.some.inj H
   go_enter Try.func34, Try.ntmps34
   go_wp2_with (first | ((with_reducible refine gate_dst (N := 2) rfl ?_); refine box_event rfl (N := 2) rfl (cs := #[.int .i64 a0_0, .int .i64 a0_1, .int .i64 a0_2, .string a0_3]) (t := 34) sqs ?_; intro gb103 hg w15 hbox hb; have BK103 := sqM (hbox); have GW103 := sqM (sqZ hg (sqB HB.out)); have GE103 := sqM (sqZ hg (sqB HB.out)); replace HB := sqM (below_step (sqB HB.out) hb); clear hb hbox hg) | ((with_reducible refine gate_dst (N := 3) rfl ?_); refine box_event rfl (N := 3) rfl (cs := #[.int .i64 a1_0, .int .i64 a1_1, .int .i64 a1_2, .string a1_3]) (t := 34) sqs ?_; intro gb104 hg w16 hbox hb; have BK104 := sqM (hbox); have GW104 := sqM (sqZ hg (sqB1 HB.out GE103.out)); have GE104 := sqM (sqZ hg (sqB1 HB.out GE103.out)); have NB103_104 := sqM (sqL hg (sqK BK103.out)); have NB104_103 := sqM (sqG hg (sqK BK103.out)); replace BK103 := sqM (blk_below (sqK BK103.out) hb); replace HB := sqM (below_step (sqB1 HB.out GE103.out) hb); clear hb hbox hg; have hnb17 := NB103_104.out; have hnc17 := NB104_103.out; obtain ⟨hcz18_0, hcz18_1, hcz18_2, hcz18_3, hfz18_0, hfz18_1, hfz18_2, hfz18_3⟩ := sqF4 BK103.out; obtain ⟨hcz19_0, hcz19_1, hcz19_2, hcz19_3, hfz19_0, hfz19_1, hfz19_2, hfz19_3⟩ := sqF4 BK104.out))
   go_ret
   exact ⟨sqE, sqB2 HB.out GE103.out GE104.out⟩
 rw [if_pos c9] at H
 have c9b0 : (a0_2 == a1_2) = true := beq_iff_eq.mpr c9
 have c9b1 : (a0_2 != a1_2) = false := bne_eq_false_iff_eq.mpr c9
 clear c9
 obtain rfl := Option.some.inj H
 go_enter Try.func34, Try.ntmps34
 go_wp2_with (first | ((with_reducible refine gate_dst (N := 2) rfl ?_); refine box_event rfl (N := 2) rfl (cs := #[.int .i64 a0_0, .int .i64 a0_1, .int .i64 a0_2, .string a0_3]) (t := 34) sqs ?_; intro gb103 hg w10 hbox hb; have BK103 := sqM (hbox); have GW103 := sqM (sqZ hg (sqB HB.out)); have GE103 := sqM (sqZ hg (sqB HB.out)); replace HB := sqM (below_step (sqB HB.out) hb); clear hb hbox hg) | ((with_reducible refine gate_dst (N := 3) rfl ?_); refine box_event rfl (N := 3) rfl (cs := #[.int .i64 a1_0, .int .i64 a1_1, .int .i64 a1_2, .string a1_3]) (t := 34) sqs ?_; intro gb104 hg w11 hbox hb; have BK104 := sqM (hbox); have GW104 := sqM (sqZ hg (sqB1 HB.out GE103.out)); have GE104 := sqM (sqZ hg (sqB1 HB.out GE103.out)); have NB103_104 := sqM (sqL hg (sqK BK103.out)); have NB104_103 := sqM (sqG hg (sqK BK103.out)); replace BK103 := sqM (blk_below (sqK BK103.out) hb); replace HB := sqM (below_step (sqB1 HB.out GE103.out) hb); clear hb hbox hg; have hnb12 := NB103_104.out; have hnc12 := NB104_103.out; obtain ⟨hcz13_0, hcz13_1, hcz13_2, hcz13_3, hfz13_0, hfz13_1, hfz13_2, hfz13_3⟩ := sqF4 BK103.out; obtain ⟨hcz14_0, hcz14_1, hcz14_2, hcz14_3, hfz14_0, hfz14_1, hfz14_2, hfz14_3⟩ := sqF4 BK104.out))
 go_ret
 exact ⟨sqE, sqB2 HB.out GE103.out GE104.out⟩

/-! ### queue_byEnd: function 21 -/
/-- What sorts by ends: always the same function. -/
def queue_byEnd.f : Option (Unit) := some ()
set_option maxHeartbeats 4000000 in
set_option maxRecDepth 100000 in
theorem queue_byEnd.calls (r : Unit) (w : World) (h : queue_byEnd.f = some r) :
    Calls Try.prog 21 #[] w fun (e : Ending) (w' : World) => e = .returned (.agg #[.func (.func 34) #[] #[]]) ∧ Below w.heap.size w w' := by
 go_enter Try.func21, Try.ntmps21
 go_wp2_with (first | ((with_reducible refine gate_dst (N := 0) rfl ?_); refine box_event rfl (N := 0) rfl (cs := #[.nilFunc]) (t := 40) sqs ?_; intro gb hg w1 hbox hb; have BK := sqM hbox; have HB := sqM hb; have hG := sqM hg; have hcz : w1.cell? ⟨gb, 0, none⟩ = some .nilFunc := (blk_cell hbox 0).trans rfl; have hfz := blk_frozen hbox 0; clear hbox hb hg))
 refine bodyPost_ret (results_cell_row rfl _ _ gb 40 #[.func (.func 34) #[] #[]] (0, 0) _ rfl (by refine blk_put (cs := #[.nilFunc]) ?_ 0 _ rfl; exact BK.out) Try.underlying40 rfl (by kernel_rfl)) rfl ?_
 exact ⟨rfl, below_set HB.out (by rw [hG.out]; exact Nat.le_refl _)⟩

/-! ### queue_sorter_sorted: function 22 -/
mutual
def queue_sorter_sorted.l0 : Nat → List (S34) → List (S34) → Int → Int → Option ((List (S34)))
  | 0, _, _, _, _ => none
  | k + 1, x5, x11, x12, x13 => if x13 < x12 then (if 0 ≤ x13 then (if x13 < (x11.length : Int) then (queue_sorter_sorted.l1 k x5 x11 x12 x13 (x5.length : Int) 0 ((rd_T34 x11 x13).f0) ((rd_T34 x11 x13).f1) ((rd_T34 x11 x13).f2) ((rd_T34 x11 x13).f3)) else (none)) else (none)) else (some x5)
def queue_sorter_sorted.l1 : Nat → List (S34) → List (S34) → Int → Int → Int → Int → Int → Int → Int → ByteArray → Option ((List (S34)))
  | 0, _, _, _, _, _, _, _, _, _, _ => none
  | k + 1, x5, x11, x12, x13, x18, x19, x108000, x108001, x108002, x108003 => if x19 < x18 then (if 0 ≤ x19 then (if x19 < (x5.length : Int) then ((queue_byEnd_1.f x108000 x108001 x108002 x108003 ((rd_T34 x5 x19).f0) ((rd_T34 x5 x19).f1) ((rd_T34 x5 x19).f2) ((rd_T34 x5 x19).f3)).bind fun t110 => (if t110 = true then ((some (([] : List (S34)) : List (S34))).bind fun y111 => (if x19 ≤ (x5.length : Int) then ((some (x5.drop (x19 : Int).toNat : List (S34))).bind fun y114 => (if y111.length + y114.length < 3518437208883 then ((some (y111 ++ y114 : List (S34))).bind fun y118 => ((some (x5.take (x19 : Int).toNat : List (S34))).bind fun y121 => (if y121.length < 3518437208883 then ((some (y121 ++ [(⟨x108000, x108001, x108002, x108003⟩ : S34)] : List (S34))).bind fun y125 => (if y125.length + y118.length < 3518437208883 then (queue_sorter_sorted.l0 k (y125 ++ y118) x11 x12 (wrap64 (x13 + 1))) else (none))) else (none)))) else (none))) else (none))) else (queue_sorter_sorted.l1 k x5 x11 x12 x13 x18 (wrap64 (x19 + 1)) x108000 x108001 x108002 x108003))) else (none)) else (none)) else (if x5.length < 3518437208883 then (queue_sorter_sorted.l0 k (x5 ++ [(⟨x108000, x108001, x108002, x108003⟩ : S34)]) x11 x12 (wrap64 (x13 + 1))) else (none))
end
def queue_sorter_sorted.f (k : Nat) (a0_0 : Unit) (l1 : List (S34)) : Option ((List (S34))) := queue_sorter_sorted.l0 k ([] : List (S34)) l1 (l1.length : Int) 0
theorem queue_sorter_sorted.mono_l : ∀ k, (∀ y0 y1 y2 y3, LeO (queue_sorter_sorted.l0 k y0 y1 y2 y3) (queue_sorter_sorted.l0 (k + 1) y0 y1 y2 y3)) ∧ (∀ y0 y1 y2 y3 y4 y5 y6 y7 y8 y9, LeO (queue_sorter_sorted.l1 k y0 y1 y2 y3 y4 y5 y6 y7 y8 y9) (queue_sorter_sorted.l1 (k + 1) y0 y1 y2 y3 y4 y5 y6 y7 y8 y9))
  | 0 => ⟨fun _ _ _ _ r h => by simp [queue_sorter_sorted.l0] at h, fun _ _ _ _ _ _ _ _ _ _ r h => by simp [queue_sorter_sorted.l1] at h⟩
  | k + 1 => by
    obtain ⟨ih0, ih1⟩ := queue_sorter_sorted.mono_l k
    refine ⟨?_, ?_⟩
    · intro y0 y1 y2 y3
      unfold queue_sorter_sorted.l0
      repeat' first
      | (with_reducible exact ih0 _ _ _ _)
      | (with_reducible exact ih1 _ _ _ _ _ _ _ _ _ _)
      | (with_reducible exact LeO.refl _)
      | (with_reducible exact LeO.none _)
      | (with_reducible refine LeO.ite ?_ ?_)
      | (with_reducible refine LeO.bind ?_ (fun _ => ?_))
      | exact ih0 _ _ _ _
      | exact ih1 _ _ _ _ _ _ _ _ _ _
      | exact LeO.none _
      | refine LeO.ite ?_ ?_
      | refine LeO.bind ?_ (fun _ => ?_)
    · intro y0 y1 y2 y3 y4 y5 y6 y7 y8 y9
      unfold queue_sorter_sorted.l1
      repeat' first
      | (with_reducible exact ih0 _ _ _ _)
      | (with_reducible exact ih1 _ _ _ _ _ _ _ _ _ _)
      | (with_reducible exact LeO.refl _)
      | (with_reducible exact LeO.none _)
      | (with_reducible refine LeO.ite ?_ ?_)
      | (with_reducible refine LeO.bind ?_ (fun _ => ?_))
      | exact ih0 _ _ _ _
      | exact ih1 _ _ _ _ _ _ _ _ _ _
      | exact LeO.none _
      | refine LeO.ite ?_ ?_
      | refine LeO.bind ?_ (fun _ => ?_)
theorem queue_sorter_sorted.mono : ∀ a0 a1 k, LeO (queue_sorter_sorted.f k a0 a1) (queue_sorter_sorted.f (k + 1) a0 a1) := by
 intro a0 a1 k
 obtain ⟨ih0, ih1⟩ := queue_sorter_sorted.mono_l k
 unfold queue_sorter_sorted.f
 repeat' first
  | (with_reducible exact ih0 _ _ _ _)
  | (with_reducible exact ih1 _ _ _ _ _ _ _ _ _ _)
  | (with_reducible exact LeO.refl _)
  | (with_reducible exact LeO.none _)
  | (with_reducible refine LeO.ite ?_ ?_)
  | (with_reducible refine LeO.bind ?_ (fun _ => ?_))
  | exact ih0 _ _ _ _
  | exact ih1 _ _ _ _ _ _ _ _ _ _
  | exact LeO.none _
  | refine LeO.ite ?_ ?_
  | refine LeO.bind ?_ (fun _ => ?_)
def queue_sorter_sorted.T10 : Bool × List (List Nat × List Nat) := (true, [([], []), ([], []), ([], []), ([0, 1, 2], [0, 1, 2]), ([], []), ([4], [4]), ([3, 5], [3, 5]), ([], []), ([6, 7, 6], [6, 7]), ([8, 8, 0, 1, 2, 3, 4, 5, 6, 7, 8], [0, 8])])
def queue_sorter_sorted.B10 : List Nat := [0, 0, 0, 7, 0, 16, 63, 0, 255, 511]
theorem queue_sorter_sorted.tab10 : rtab .any (opsOf Try.f22 10) = queue_sorter_sorted.T10 := by kernel_rfl
theorem queue_sorter_sorted.bits10 : waitsOk queue_sorter_sorted.T10.2 queue_sorter_sorted.B10 = true := by kernel_rfl
set_option maxHeartbeats 8000000 in
set_option maxRecDepth 100000 in
theorem queue_sorter_sorted.calls (k : Nat) (a0_0 : Unit) (A1 : Option Addr) (c1 : Nat) (l1 : List (S34)) (r : List (S34)) (w : World) (hr1 : Kd.C k34 w A1 l1.length l1) (hc1 : l1.length ≤ c1) (h : queue_sorter_sorted.f k a0_0 l1 = some r) :
    Calls Try.prog 22 #[.agg #[.func (.func 34) #[] #[]], .slice A1 l1.length c1] w fun e w' => ∃ v0_ : Value, e = .returned (v0_) ∧ Kd.R k34 34 w' w.heap.size (fun _ => True) v0_ r ∧ Below w.heap.size w w' := by
 have hu40 := Try.underlying40
 have hu34 := Try.underlying34
 have HR1 := Aside0.mk hr1
 have HC1 := Aside0.mk hc1
 clear hr1 hc1
 have HB := Aside0.mk (Below.refl w.heap.size w)
 have H : (queue_sorter_sorted.l0 k ([] : List (S34)) l1 (l1.length : Int) 0) = some r := h
 clear h
 have H' := Aside0.mk H
 clear H
 go_enter Try.func22, Try.ntmps22
 (try go_wp2_with (first | ((with_reducible refine gate_dst (N := 2) rfl ?_); refine box_event rfl (N := 2) rfl (cs := #[.func (.func 34) #[] #[]]) (t := 40) sqs ?_; intro gb105 hg w3 hbox hb; have BK105 := sqM (hbox); have GW105 := sqM (sqZ hg (sqB HB.out)); have GE105 := sqM (sqZ hg (sqB HB.out)); replace HB := sqM (below_step (sqB HB.out) hb); clear hb hbox hg)))
 go_step3
 (try go_wp2_with (first | ((with_reducible refine gate_dst (N := 2) rfl ?_); refine box_event rfl (N := 2) rfl (cs := #[.func (.func 34) #[] #[]]) (t := 40) sqs ?_; intro gb105 hg w3 hbox hb; have BK105 := sqM (hbox); have GW105 := sqM (sqZ hg (sqB HB.out)); have GE105 := sqM (sqZ hg (sqB HB.out)); replace HB := sqM (below_step (sqB HB.out) hb); clear hb hbox hg)))
 (try go_step3)
 (try go_wp2_with (first | ((with_reducible refine gate_dst (N := 2) rfl ?_); refine box_event rfl (N := 2) rfl (cs := #[.func (.func 34) #[] #[]]) (t := 40) sqs ?_; intro gb105 hg w3 hbox hb; have BK105 := sqM (hbox); have GW105 := sqM (sqZ hg (sqB HB.out)); have GE105 := sqM (sqZ hg (sqB HB.out)); replace HB := sqM (below_step (sqB HB.out) hb); clear hb hbox hg)))
 go_loopg [5, 13] k (fun kq v5 v13 w' => ∃ (x5_1 : List (S34)) (x13_1 : Int), v13 = .int .i64 x13_1 ∧ Aside0 (queue_sorter_sorted.l0 kq x5_1 l1 (l1.length : Int) x13_1 = some r) ∧ Aside0 (kq ≤ k) ∧ Aside0 (Kd.R k34 34 w' w.heap.size (fun _ => True) v5 x5_1) ∧ Aside0 (w'.heap[gb105]? = some (.cells #[.func (.func 34) #[] #[]] 40 (0, 0))) ∧ Aside0 (Below w.heap.size w w'))
 case atStart => exact ⟨(([] : List (S34))), (0), sqI, H', ⟨Nat.le_refl _⟩, ⟨by first | exact Kd.R_nil _ _ _ _ _ | exact Kd.N_nil _ _ _ _ _ | exact Kd.V_nil _ _ _ _ _ | exact Kd.Q_nil _ _ _ _ _ | exact Kd.S_nil _ _ _ _ _⟩, ⟨sqK BK105.out⟩, ⟨sqB1 HB.out GE105.out⟩⟩
 clear H'
 try clear c1
 try clear c2
 try clear p2
 obtain ⟨x5_1, x13_1, rfl, HA, HK1, HO_5, BK105, HB⟩ := hrel
 cases gk with
 | zero => exact absurd HA.out (by simp [queue_sorter_sorted.l0])
 | succ k1 => ?_
 have H := HA.out
 clear HA
 simp only [queue_sorter_sorted.l0] at H
 by_cases c4 : x13_1 < (l1.length : Int)
 rotate_left
 · rw [if_neg c4] at H
   have c4b0 : decide (x13_1 < (l1.length : Int)) = false := decide_eq_false c4
   clear c4
   obtain rfl := Option.some.inj H
   go_wp2
   (try rw [Exit.noGoto_ret])
   go_ret
   exact ⟨_, sqE, by refine sqR ?_; exact HO_5.out, sqB1 HB.out GE105.out⟩
 rw [if_pos c4] at H
 have c4b0 : decide (x13_1 < (l1.length : Int)) = true := decide_eq_true c4
 clear c4
 by_cases c5 : 0 ≤ x13_1
 rotate_left
 · rw [if_neg c5] at H
   exact absurd H (by simp)
 rw [if_pos c5] at H
 have c5b0 : decide (0 ≤ x13_1) = true := decide_eq_true c5
 clear c5
 by_cases c6 : x13_1 < (l1.length : Int)
 rotate_left
 · rw [if_neg c6] at H
   exact absurd H (by simp)
 rw [if_pos c6] at H
 have c6b0 : decide (x13_1 < (l1.length : Int)) = true := decide_eq_true c6
 clear c6
 have H' := Aside0.mk H
 clear H
 have p106 : 0 ≤ (x13_1 : Int) := of_decide_eq_true sqH
 have q106 : x13_1 < (l1.length : Int) := of_decide_eq_true sqH
 obtain ⟨ad106, e106, hx106_0, hx106_1, hx106_2, hx106_3⟩ := at_T34 HR1.out x13_1 p106 q106
 cases e106
 replace hx106_0 := sqx HB.out hx106_0
 replace hx106_1 := sqx HB.out hx106_1
 replace hx106_2 := sqx HB.out hx106_2
 replace hx106_3 := sqx HB.out hx106_3
 replace p106 := eq_true p106
 replace q106 := eq_true q106
 go_wp2_with (first | ((with_reducible refine gate_dst (N := 7) rfl ?_); refine box_event rfl (N := 7) rfl (cs := #[.int .i64 0, .int .i64 0, .int .i64 0, .string (⟨#[]⟩ : ByteArray)]) (t := 34) sqs ?_; intro gb107 hg w7 hbox hb; have BK107 := sqM (hbox); have GW107 := sqM (sqZ hg (sqB1 HB.out GE105.out)); have GE107 := sqM (sqZ hg (sqB1 HB.out GE105.out)); have NB105_107 := sqM (sqL hg (sqK BK105.out)); have NB107_105 := sqM (sqG hg (sqK BK105.out)); replace HO_5 := sqM (sqRe (sqR HO_5.out) hg hb); replace BK105 := sqM (blk_below (sqK BK105.out) hb); replace HB := sqM (below_step (sqB1 HB.out GE105.out) hb); clear hb hbox hg; have hnb8 := NB107_105.out; have hnc8 := NB105_107.out; obtain ⟨hcz9_0, hcz9_1, hcz9_2, hcz9_3, hfz9_0, hfz9_1, hfz9_2, hfz9_3⟩ := sqF4 BK107.out; obtain ⟨Ao10, co10, eo10⟩ := Kd.R_slice HO_5.out; subst eo10))
 go_loopg [5, 19] k1 (fun kq v5 v19 w' => ∃ (x19_2 : Int), v19 = .int .i64 x19_2 ∧ v5 = .slice Ao10 x5_1.length co10 ∧ Aside0 (queue_sorter_sorted.l1 kq x5_1 l1 (l1.length : Int) x13_1 (x5_1.length : Int) x19_2 ((rd_T34 l1 x13_1).f0) ((rd_T34 l1 x13_1).f1) ((rd_T34 l1 x13_1).f2) ((rd_T34 l1 x13_1).f3) = some r) ∧ Aside0 (kq ≤ k1) ∧ Aside0 (Kd.R k34 34 w' w.heap.size (fun k_ => k_ ≠ gb107) (.slice Ao10 x5_1.length co10) x5_1) ∧ Aside0 (w'.heap[gb105]? = some (.cells #[.func (.func 34) #[] #[]] 40 (0, 0))) ∧ Aside0 (w'.heap[gb107]? = some (.cells #[.int .i64 ((rd_T34 l1 x13_1).f0), .int .i64 ((rd_T34 l1 x13_1).f1), .int .i64 ((rd_T34 l1 x13_1).f2), .string ((rd_T34 l1 x13_1).f3)] 34 (0, 0))) ∧ Aside0 (Below w.heap.size w w'))
 case atStart => exact ⟨(0), sqI, sqI, H', ⟨Nat.le_refl _⟩, ⟨by refine sqR ?_; exact Kd.R_mono (sqR4 (Kd.R_mono HO_5.out (fun k_ hk => (⟨hk, hk.2⟩ : _ ∧ k_ ≠ gb107))) (fun _ hk => hk.2)) (fun _ hk => hk.1.2)⟩, ⟨by exact (sqX4 BK105.out NB105_107.out)⟩, ⟨by exact (sqP4 BK107.out)⟩, ⟨sqB2 HB.out GE105.out GE107.out⟩⟩
 clear H'
 try clear c1
 try clear p1
 try clear q1
 try clear hx1
 try clear c2
 try clear p2
 try clear c4
 try clear c4b0
 try clear c5
 try clear c5b0
 try clear c6
 try clear c6b0
 try clear c8
 try clear p10
 try clear q10
 try clear hx10
 try clear hcz9_0 hcz9_1 hcz9_2 hcz9_3 hfz9_0 hfz9_1 hfz9_2 hfz9_3
 try clear hx106_0 hx106_1 hx106_2 hx106_3
 try clear p106
 try clear p2
 try clear q106
 obtain ⟨x19_2, rfl, rfl, HA, HK2, HO_5, BK105, BK107, HB⟩ := hrel
 cases gk with
 | zero => exact absurd HA.out (by simp [queue_sorter_sorted.l1])
 | succ k2 => ?_
 have H := HA.out
 clear HA
 simp only [queue_sorter_sorted.l1] at H
 by_cases c11 : x19_2 < (x5_1.length : Int)
 rotate_left
 · rw [if_neg c11] at H
   have c11b0 : decide (x19_2 < (x5_1.length : Int)) = false := decide_eq_false c11
   clear c11
   by_cases c48 : x5_1.length < 3518437208883
   rotate_left
   · rw [if_neg c48] at H
     exact absurd H (by simp)
   rw [if_pos c48] at H
   have LMc48 := Aside0.mk c48
   clear c48
   obtain ⟨y131, hy131⟩ : ∃ y_ : List (S34), y_ = (x5_1 ++ [(⟨((rd_T34 l1 x13_1).f0), ((rd_T34 l1 x13_1).f1), ((rd_T34 l1 x13_1).f2), ((rd_T34 l1 x13_1).f3)⟩ : S34)]) := ⟨_, rfl⟩
   replace H : (queue_sorter_sorted.l0 k2 y131 l1 (l1.length : Int) (wrap64 (x13_1 + 1))) = some r := by first | (rw [hy131]; with_reducible exact H) | (have H2_ := (Option.bind_some _ _).symm.trans H; rw [hy131]; with_reducible exact H2_) | (have H2_ := (Option.bind_some _ _).symm.trans H; with_reducible exact H2_) | with_reducible exact H | (rw [hy131]; exact H) | exact H
   have Ny131 := Aside0.mk hy131
   clear hy131
   have H' := Aside0.mk H
   clear H
   have hnb49 := NB107_105.out
   have hnc49 := NB105_107.out
   obtain ⟨hcz50_0, hcz50_1, hcz50_2, hcz50_3, hfz50_0, hfz50_1, hfz50_2, hfz50_3⟩ := sqF4 BK107.out
   go_wp2_with (first | ((with_reducible refine gate_builtin (b := .append) (xs := #[.tmp 44, .tmp 46]) rfl ?_); at_builtin; refine Kd.R_append k34 (w0 := w) w.heap.size rfl (.tmp 44) (.tmp 46) 22 34 (.agg #[(.int .i64 0), (.int .i64 0), (.int .i64 0), (.string ⟨#[]⟩)]) 40 rfl Try.underlying22 info34 rfl (by decide) (by omega) (.slice Ao10 x5_1.length co10) x5_1 (⟨((rd_T34 l1 x13_1).f0), ((rd_T34 l1 x13_1).f1), ((rd_T34 l1 x13_1).f2), ((rd_T34 l1 x13_1).f3)⟩ : S34) [.int .i64 ((rd_T34 l1 x13_1).f0), .int .i64 ((rd_T34 l1 x13_1).f1), .int .i64 ((rd_T34 l1 x13_1).f2), .string ((rd_T34 l1 x13_1).f3)] (fun k_ => k_ ≠ gb107) (fun _ => False) rfl rfl ?aP (fun _ hk => hk.elim) ?aF ?aO ?aB ?aS ?aL ?_; (case aP => exact k34_mkM _ _ _ (⟨((rd_T34 l1 x13_1).f0), ((rd_T34 l1 x13_1).f1), ((rd_T34 l1 x13_1).f2), ((rd_T34 l1 x13_1).f3)⟩ : S34)); (case aB => exact (sqB2 HB.out GE105.out GE107.out)); (case aF => exact (fun k_ hk => Kd.freshB (g := gb107) (o := .cells #[.int .i64 ((rd_T34 l1 x13_1).f0), .int .i64 ((rd_T34 l1 x13_1).f1), .int .i64 ((rd_T34 l1 x13_1).f2), .string ((rd_T34 l1 x13_1).f3)] 34 (0, 0)) (sqK BK107.out) k_ hk)); (case aO => exact (sqR HO_5.out)); (case aS => exact (below_size (sqB2 HB.out GE105.out GE107.out))); (case aL => have := LMc48.out; omega); intro v132 w51 ho hb hg hat; rw [← Ny131.out] at ho; have HO133 := sqM (ho); replace BK105 := sqM (blk_grown (g := gb105) (o := .cells #[.func (.func 34) #[] #[]] 40 (0, 0)) (sqK BK105.out) hg (Kd.R_ne HO_5.out BK105.out (by decide))); replace BK107 := sqM (blk_grown (g := gb107) (o := .cells #[.int .i64 ((rd_T34 l1 x13_1).f0), .int .i64 ((rd_T34 l1 x13_1).f1), .int .i64 ((rd_T34 l1 x13_1).f2), .string ((rd_T34 l1 x13_1).f3)] 34 (0, 0)) (sqK BK107.out) hg (Kd.R_away HO_5.out (fun _ hk => hk))); replace HB := sqM (hb); clear HO_5; clear ho hb hg hat))
   go_roundg k2
   case measure => have := HK1.out; have := HK2.out; omega
   case rel => exact ⟨(y131), (wrap64 (x13_1 + 1)), sqI, H', ⟨by have := HK1.out; have := HK2.out; omega⟩, ⟨by refine sqR ?_; exact Kd.R_mono HO133.out (fun _ hk => trivial)⟩, ⟨sqK BK105.out⟩, ⟨sqB2 HB.out GE105.out GE107.out⟩⟩
 rw [if_pos c11] at H
 have c11b0 : decide (x19_2 < (x5_1.length : Int)) = true := decide_eq_true c11
 clear c11
 by_cases c12 : 0 ≤ x19_2
 rotate_left
 · rw [if_neg c12] at H
   exact absurd H (by simp)
 rw [if_pos c12] at H
 have c12b0 : decide (0 ≤ x19_2) = true := decide_eq_true c12
 clear c12
 by_cases c13 : x19_2 < (x5_1.length : Int)
 rotate_left
 · rw [if_neg c13] at H
   exact absurd H (by simp)
 rw [if_pos c13] at H
 have c13b0 : decide (x19_2 < (x5_1.length : Int)) = true := decide_eq_true c13
 clear c13
 replace H := Option.bind_eq_some_iff.mp H
 obtain ⟨t110, A140, H⟩ := H
 replace H : (if t110 = true then ((some (([] : List (S34)) : List (S34))).bind fun y111 => (if x19_2 ≤ (x5_1.length : Int) then ((some (x5_1.drop (x19_2 : Int).toNat : List (S34))).bind fun y114 => (if y111.length + y114.length < 3518437208883 then ((some (y111 ++ y114 : List (S34))).bind fun y118 => ((some (x5_1.take (x19_2 : Int).toNat : List (S34))).bind fun y121 => (if y121.length < 3518437208883 then ((some (y121 ++ [(⟨((rd_T34 l1 x13_1).f0), ((rd_T34 l1 x13_1).f1), ((rd_T34 l1 x13_1).f2), ((rd_T34 l1 x13_1).f3)⟩ : S34)] : List (S34))).bind fun y125 => (if y125.length + y118.length < 3518437208883 then (queue_sorter_sorted.l0 k2 (y125 ++ y118) l1 (l1.length : Int) (wrap64 (x13_1 + 1))) else (none))) else (none)))) else (none))) else (none))) else (queue_sorter_sorted.l1 k2 x5_1 l1 (l1.length : Int) x13_1 (x5_1.length : Int) (wrap64 (x19_2 + 1)) ((rd_T34 l1 x13_1).f0) ((rd_T34 l1 x13_1).f1) ((rd_T34 l1 x13_1).f2) ((rd_T34 l1 x13_1).f3))) = some r := H
 have A14 := Aside0.mk A140
 clear A140
 by_cases c15 : t110 = true
 rotate_left
 · replace c15 := Bool.eq_false_iff.mpr c15
   subst c15
   have H1 : (queue_sorter_sorted.l1 k2 x5_1 l1 (l1.length : Int) x13_1 (x5_1.length : Int) (wrap64 (x19_2 + 1)) ((rd_T34 l1 x13_1).f0) ((rd_T34 l1 x13_1).f1) ((rd_T34 l1 x13_1).f2) ((rd_T34 l1 x13_1).f3)) = some r := by rw [if_neg (show ¬ (false = true) by decide)] at H; exact H
   clear H
   have H := H1
   clear H1
   have H' := Aside0.mk H
   clear H
   have p108 : 0 ≤ (x19_2 : Int) := of_decide_eq_true sqH
   have q108 : x19_2 < (x5_1.length : Int) := of_decide_eq_true sqH
   obtain ⟨ad108, e108, hx108_0, hx108_1, hx108_2, hx108_3⟩ := at_T34 (Kd.R_reads' HO_5.out).2.2 x19_2 p108 q108
   cases e108
   replace p108 := eq_true p108
   replace q108 := eq_true q108
   go_wp2_with (first | ((with_reducible refine gate_dst (N := 9) rfl ?_); refine box_event rfl (N := 9) rfl (cs := #[.int .i64 0, .int .i64 0, .int .i64 0, .string (⟨#[]⟩ : ByteArray)]) (t := 34) sqs ?_; intro gb109 hg w40 hbox hb; have BK109 := sqM (hbox); have GW109 := sqM (sqZ hg (sqB2 HB.out GE105.out GE107.out)); have GE109 := sqM (sqZ hg (sqB2 HB.out GE105.out GE107.out)); have NB105_109 := sqM (sqL hg (sqK BK105.out)); have NB109_105 := sqM (sqG hg (sqK BK105.out)); have NB107_109 := sqM (sqL hg (sqK BK107.out)); have NB109_107 := sqM (sqG hg (sqK BK107.out)); replace HO_5 := sqM (sqRe (sqR HO_5.out) hg hb); replace BK105 := sqM (blk_below (sqK BK105.out) hb); replace BK107 := sqM (blk_below (sqK BK107.out) hb); replace HB := sqM (below_step (sqB2 HB.out GE105.out GE107.out) hb); clear hb hbox hg; have hnb41 := NB109_105.out; have hnc41 := NB105_109.out; have hnb42 := NB109_107.out; have hnc42 := NB107_109.out; obtain ⟨hcz43_0, hcz43_1, hcz43_2, hcz43_3, hfz43_0, hfz43_1, hfz43_2, hfz43_3⟩ := sqF4 BK109.out; have hnb44 := NB105_107.out; have hnc44 := NB107_105.out; obtain ⟨hcz45_0, hfz45_0⟩ := sqF1 BK105.out; obtain ⟨hcz46_0, hcz46_1, hcz46_2, hcz46_3, hfz46_0, hfz46_1, hfz46_2, hfz46_3⟩ := sqF4 BK107.out) | ((with_reducible refine (queue_byEnd_1.calls _ _ _ _ _ _ _ _ _ _ A14.out).mono ?_); rintro e w47 ⟨rfl, hb⟩; replace HO_5 := sqM (Kd.R_below (by refine sqR ?_; exact (sqR4 HO_5.out (fun k_ hk => hk.2))) hb); replace BK105 := sqM (blk_below (sqX4 BK105.out NB105_109.out) hb); replace BK107 := sqM (blk_below (sqX4 BK107.out NB107_109.out) hb); replace BK109 := sqM (blk_below (sqP4 BK109.out) hb); replace HB := sqM (below_step (sqB3 HB.out GE105.out GE107.out GE109.out) hb); (try clear hb); (try clear hb2); (try clear hk); (try clear hi)))
   go_roundg k2
   case measure => have := HK1.out; have := HK2.out; omega
   case rel => exact ⟨(wrap64 (x19_2 + 1)), sqI, sqI, H', ⟨by have := HK1.out; have := HK2.out; omega⟩, ⟨by refine sqR ?_; exact Kd.R_mono HO_5.out (fun _ hk => hk.1)⟩, ⟨sqK BK105.out⟩, ⟨sqK BK107.out⟩, ⟨sqB3 HB.out GE105.out GE107.out GE109.out⟩⟩
 subst c15
 have H1 : ((some (([] : List (S34)) : List (S34))).bind fun y111 => (if x19_2 ≤ (x5_1.length : Int) then ((some (x5_1.drop (x19_2 : Int).toNat : List (S34))).bind fun y114 => (if y111.length + y114.length < 3518437208883 then ((some (y111 ++ y114 : List (S34))).bind fun y118 => ((some (x5_1.take (x19_2 : Int).toNat : List (S34))).bind fun y121 => (if y121.length < 3518437208883 then ((some (y121 ++ [(⟨((rd_T34 l1 x13_1).f0), ((rd_T34 l1 x13_1).f1), ((rd_T34 l1 x13_1).f2), ((rd_T34 l1 x13_1).f3)⟩ : S34)] : List (S34))).bind fun y125 => (if y125.length + y118.length < 3518437208883 then (queue_sorter_sorted.l0 k2 (y125 ++ y118) l1 (l1.length : Int) (wrap64 (x13_1 + 1))) else (none))) else (none)))) else (none))) else (none))) = some r := by rw [if_pos rfl] at H; exact H
 clear H
 have H := H1
 clear H1
 obtain ⟨y111, hy111⟩ : ∃ y_ : List (S34), y_ = (([] : List (S34))) := ⟨_, rfl⟩
 replace H : (if x19_2 ≤ (x5_1.length : Int) then ((some (x5_1.drop (x19_2 : Int).toNat : List (S34))).bind fun y114 => (if y111.length + y114.length < 3518437208883 then ((some (y111 ++ y114 : List (S34))).bind fun y118 => ((some (x5_1.take (x19_2 : Int).toNat : List (S34))).bind fun y121 => (if y121.length < 3518437208883 then ((some (y121 ++ [(⟨((rd_T34 l1 x13_1).f0), ((rd_T34 l1 x13_1).f1), ((rd_T34 l1 x13_1).f2), ((rd_T34 l1 x13_1).f3)⟩ : S34)] : List (S34))).bind fun y125 => (if y125.length + y118.length < 3518437208883 then (queue_sorter_sorted.l0 k2 (y125 ++ y118) l1 (l1.length : Int) (wrap64 (x13_1 + 1))) else (none))) else (none)))) else (none))) else (none)) = some r := by first | (rw [hy111]; with_reducible exact H) | (have H2_ := (Option.bind_some _ _).symm.trans H; rw [hy111]; with_reducible exact H2_) | (have H2_ := (Option.bind_some _ _).symm.trans H; with_reducible exact H2_) | with_reducible exact H | (rw [hy111]; exact H) | exact H
 have Ny111 := Aside0.mk hy111
 clear hy111
 have c16b0 := eq_true (of_decide_eq_true sqH : 0 ≤ x19_2)
 by_cases c17 : x19_2 ≤ (x5_1.length : Int)
 rotate_left
 · rw [if_neg c17] at H
   exact absurd H (by simp)
 rw [if_pos c17] at H
 have c17b0 := eq_true c17
 have c17b1 : decide (x19_2 ≤ (x5_1.length : Int)) = true := decide_eq_true c17
 clear c17
 obtain ⟨y114, hy114⟩ : ∃ y_ : List (S34), y_ = (x5_1.drop (x19_2 : Int).toNat) := ⟨_, rfl⟩
 replace H : (if y111.length + y114.length < 3518437208883 then ((some (y111 ++ y114 : List (S34))).bind fun y118 => ((some (x5_1.take (x19_2 : Int).toNat : List (S34))).bind fun y121 => (if y121.length < 3518437208883 then ((some (y121 ++ [(⟨((rd_T34 l1 x13_1).f0), ((rd_T34 l1 x13_1).f1), ((rd_T34 l1 x13_1).f2), ((rd_T34 l1 x13_1).f3)⟩ : S34)] : List (S34))).bind fun y125 => (if y125.length + y118.length < 3518437208883 then (queue_sorter_sorted.l0 k2 (y125 ++ y118) l1 (l1.length : Int) (wrap64 (x13_1 + 1))) else (none))) else (none)))) else (none)) = some r := by first | (rw [hy114]; with_reducible exact H) | (have H2_ := (Option.bind_some _ _).symm.trans H; rw [hy114]; with_reducible exact H2_) | (have H2_ := (Option.bind_some _ _).symm.trans H; with_reducible exact H2_) | with_reducible exact H | (rw [hy114]; exact H) | exact H
 have Ny114 := Aside0.mk hy114
 clear hy114
 by_cases c18 : y111.length + y114.length < 3518437208883
 rotate_left
 · rw [if_neg c18] at H
   exact absurd H (by simp)
 rw [if_pos c18] at H
 have LMc18 := Aside0.mk c18
 clear c18
 obtain ⟨y118, hy118⟩ : ∃ y_ : List (S34), y_ = (y111 ++ y114) := ⟨_, rfl⟩
 replace H : ((some (x5_1.take (x19_2 : Int).toNat : List (S34))).bind fun y121 => (if y121.length < 3518437208883 then ((some (y121 ++ [(⟨((rd_T34 l1 x13_1).f0), ((rd_T34 l1 x13_1).f1), ((rd_T34 l1 x13_1).f2), ((rd_T34 l1 x13_1).f3)⟩ : S34)] : List (S34))).bind fun y125 => (if y125.length + y118.length < 3518437208883 then (queue_sorter_sorted.l0 k2 (y125 ++ y118) l1 (l1.length : Int) (wrap64 (x13_1 + 1))) else (none))) else (none))) = some r := by first | (rw [hy118]; with_reducible exact H) | (have H2_ := (Option.bind_some _ _).symm.trans H; rw [hy118]; with_reducible exact H2_) | (have H2_ := (Option.bind_some _ _).symm.trans H; with_reducible exact H2_) | with_reducible exact H | (rw [hy118]; exact H) | exact H
 have Ny118 := Aside0.mk hy118
 clear hy118
 have c19b0 := eq_true (of_decide_eq_true sqH : 0 ≤ x19_2)
 have c20b0 := eq_true (of_decide_eq_true sqH : x19_2 ≤ (x5_1.length : Int))
 obtain ⟨y121, hy121⟩ : ∃ y_ : List (S34), y_ = (x5_1.take (x19_2 : Int).toNat) := ⟨_, rfl⟩
 replace H : (if y121.length < 3518437208883 then ((some (y121 ++ [(⟨((rd_T34 l1 x13_1).f0), ((rd_T34 l1 x13_1).f1), ((rd_T34 l1 x13_1).f2), ((rd_T34 l1 x13_1).f3)⟩ : S34)] : List (S34))).bind fun y125 => (if y125.length + y118.length < 3518437208883 then (queue_sorter_sorted.l0 k2 (y125 ++ y118) l1 (l1.length : Int) (wrap64 (x13_1 + 1))) else (none))) else (none)) = some r := by first | (rw [hy121]; with_reducible exact H) | (have H2_ := (Option.bind_some _ _).symm.trans H; rw [hy121]; with_reducible exact H2_) | (have H2_ := (Option.bind_some _ _).symm.trans H; with_reducible exact H2_) | with_reducible exact H | (rw [hy121]; exact H) | exact H
 have Ny121 := Aside0.mk hy121
 clear hy121
 by_cases c21 : y121.length < 3518437208883
 rotate_left
 · rw [if_neg c21] at H
   exact absurd H (by simp)
 rw [if_pos c21] at H
 have LMc21 := Aside0.mk c21
 clear c21
 obtain ⟨y125, hy125⟩ : ∃ y_ : List (S34), y_ = (y121 ++ [(⟨((rd_T34 l1 x13_1).f0), ((rd_T34 l1 x13_1).f1), ((rd_T34 l1 x13_1).f2), ((rd_T34 l1 x13_1).f3)⟩ : S34)]) := ⟨_, rfl⟩
 replace H : (if y125.length + y118.length < 3518437208883 then (queue_sorter_sorted.l0 k2 (y125 ++ y118) l1 (l1.length : Int) (wrap64 (x13_1 + 1))) else (none)) = some r := by first | (rw [hy125]; with_reducible exact H) | (have H2_ := (Option.bind_some _ _).symm.trans H; rw [hy125]; with_reducible exact H2_) | (have H2_ := (Option.bind_some _ _).symm.trans H; with_reducible exact H2_) | with_reducible exact H | (rw [hy125]; exact H) | exact H
 have Ny125 := Aside0.mk hy125
 clear hy125
 by_cases c22 : y125.length + y118.length < 3518437208883
 rotate_left
 · rw [if_neg c22] at H
   exact absurd H (by simp)
 rw [if_pos c22] at H
 have LMc22 := Aside0.mk c22
 clear c22
 obtain ⟨y128, hy128⟩ : ∃ y_ : List (S34), y_ = (y125 ++ y118) := ⟨_, rfl⟩
 replace H : (queue_sorter_sorted.l0 k2 y128 l1 (l1.length : Int) (wrap64 (x13_1 + 1))) = some r := by first | (rw [hy128]; with_reducible exact H) | (have H2_ := (Option.bind_some _ _).symm.trans H; rw [hy128]; with_reducible exact H2_) | (have H2_ := (Option.bind_some _ _).symm.trans H; with_reducible exact H2_) | with_reducible exact H | (rw [hy128]; exact H) | exact H
 have Ny128 := sqM hy128
 clear hy128
 have H' := Aside0.mk H
 clear H
 have p108 : 0 ≤ (x19_2 : Int) := of_decide_eq_true sqH
 have q108 : x19_2 < (x5_1.length : Int) := of_decide_eq_true sqH
 obtain ⟨ad108, e108, hx108_0, hx108_1, hx108_2, hx108_3⟩ := at_T34 (Kd.R_reads' HO_5.out).2.2 x19_2 p108 q108
 cases e108
 replace p108 := eq_true p108
 replace q108 := eq_true q108
 try go_wp2_with (first | ((with_reducible refine gate_dst (N := 9) rfl ?_); refine box_event rfl (N := 9) rfl (cs := #[.int .i64 0, .int .i64 0, .int .i64 0, .string (⟨#[]⟩ : ByteArray)]) (t := 34) sqs ?_; intro gb109 hg w23 hbox hb; have BK109 := sqM (hbox); have GW109 := sqM (sqZ hg (sqB2 HB.out GE105.out GE107.out)); have GE109 := sqM (sqZ hg (sqB2 HB.out GE105.out GE107.out)); have NB105_109 := sqM (sqL hg (sqK BK105.out)); have NB109_105 := sqM (sqG hg (sqK BK105.out)); have NB107_109 := sqM (sqL hg (sqK BK107.out)); have NB109_107 := sqM (sqG hg (sqK BK107.out)); replace HO_5 := sqM (sqRe (sqR HO_5.out) hg hb); replace BK105 := sqM (blk_below (sqK BK105.out) hb); replace BK107 := sqM (blk_below (sqK BK107.out) hb); replace HB := sqM (below_step (sqB2 HB.out GE105.out GE107.out) hb); clear hb hbox hg; have hnb24 := NB109_105.out; have hnc24 := NB105_109.out; have hnb25 := NB109_107.out; have hnc25 := NB107_109.out; obtain ⟨hcz26_0, hcz26_1, hcz26_2, hcz26_3, hfz26_0, hfz26_1, hfz26_2, hfz26_3⟩ := sqF4 BK109.out; have hnb27 := NB105_107.out; have hnc27 := NB107_105.out; obtain ⟨hcz28_0, hfz28_0⟩ := sqF1 BK105.out; obtain ⟨hcz29_0, hcz29_1, hcz29_2, hcz29_3, hfz29_0, hfz29_1, hfz29_2, hfz29_3⟩ := sqF4 BK107.out) | ((with_reducible refine (queue_byEnd_1.calls _ _ _ _ _ _ _ _ _ _ A14.out).mono ?_); rintro e w30 ⟨rfl, hb⟩; replace HO_5 := sqM (Kd.R_below (by refine sqR ?_; exact (sqR4 HO_5.out (fun k_ hk => hk.2))) hb); replace BK105 := sqM (blk_below (sqX4 BK105.out NB105_109.out) hb); replace BK107 := sqM (blk_below (sqX4 BK107.out NB107_109.out) hb); replace BK109 := sqM (blk_below (sqP4 BK109.out) hb); replace HB := sqM (below_step (sqB3 HB.out GE105.out GE107.out GE109.out) hb); (try clear hb); (try clear hb2); (try clear hk); (try clear hi)) | ((with_reducible refine gate_dst (N := 29) rfl ?_); refine Kd.R_lit k34 _ 34 ?hg (N := 29) ?hd (xs := ([] : List (S34))) (inner := []) (ok := fun _ => True) (okp := fun _ => True) ?hr ?hp (fun _ hk => hk) trivial (Below.refl _ _) (Nat.le_refl _) (by simp) ?_; (case hd => rfl); (case hg => rfl); (case hr => first | (go_simp; done) | (go_simp; rfl)); (case hp => exact (Reps.none _ _)); intro v112 w31 ho32 hb hg_ hnew_; clear hg_ hnew_; (first | rw [← Ny111.out] at ho32 | (simp only [Int.reduceToNat] at ho32; rw [← Ny111.out] at ho32)); have HO113 := sqM (Kd.R_lower (Kd.R_newB (Kd.R_newB (Kd.R_new' ho32 (Kd.R_lt (sqR HO_5.out))) (g := gb107) (o := .cells #[.int .i64 ((rd_T34 l1 x13_1).f0), .int .i64 ((rd_T34 l1 x13_1).f1), .int .i64 ((rd_T34 l1 x13_1).f2), .string ((rd_T34 l1 x13_1).f3)] 34 (0, 0)) (sqK BK107.out)) (g := gb109) (o := .cells #[.int .i64 ((rd_T34 x5_1 x19_2).f0), .int .i64 ((rd_T34 x5_1 x19_2).f1), .int .i64 ((rd_T34 x5_1 x19_2).f2), .string ((rd_T34 x5_1 x19_2).f3)] 34 (0, 0)) (sqK BK109.out)) (below_size (sqB3 HB.out GE105.out GE107.out GE109.out))); replace HO_5 := sqM (Kd.R_elder' (sqR HO_5.out) (Kd.R_base ho32) hb); replace BK105 := sqM (blk_below (sqK BK105.out) hb); replace BK107 := sqM (blk_below (sqK BK107.out) hb); replace BK109 := sqM (blk_below (sqK BK109.out) hb); replace HB := sqM (below_step (sqB3 HB.out GE105.out GE107.out GE109.out) hb); clear hb ho32; have q33 : (x19_2 : Int) ≤ ((x5_1.length : Int) : Int) := of_decide_eq_true sqH; obtain ⟨i033, hi033, _, hsz33, _⟩ := info_parts info34; have hroom33 : x5_1.length ≤ co10 := (Kd.R_reads' HO_5.out).2.1; have hC33 : Kd.C k34 _ (some ad108) x5_1.length x5_1 := (Kd.R_reads' HO_5.out).2.2; have q033 : (0 : Int) ≤ (x19_2 : Int) := of_decide_eq_true sqH; have hcut33 := cut_from (P := Try.prog) 22 34 .i64 Try.underlying22 hi033 4 hsz33 (some ad108) x5_1.length co10 x19_2 q033 q33; have hr33 := Kd.C_drop (m := (x19_2 : Int).toNat) (c := co10) hC33 (by omega) hroom33; obtain ⟨A33, hA33⟩ : ∃ A1, A1 = (if co10 = (x19_2 : Int).toNat then (some ad108) else ((some ad108) : Option Addr).map (·.add ((x19_2 : Int).toNat * 4))) := ⟨_, rfl⟩; obtain ⟨c33, hc33⟩ : ∃ c1, c1 = co10 - (x19_2 : Int).toNat := ⟨_, rfl⟩; have hy33 : y114.length = x5_1.length - (x19_2 : Int).toNat := (by rw [Ny114.out, List.length_drop] <;> omega); rw [show (x5_1).drop (x19_2 : Int).toNat = y114 from Ny114.out.symm] at hr33; replace hr33 : Kd.C k34 _ A33 y114.length y114 := (by rw [hA33]; exact hr33); rw [← hy33, ← hA33, ← hc33] at hcut33; have HR117 := sqM hr33; have HC117 := sqM (show y114.length ≤ c33 from by rw [hy33, hc33]; exact Nat.sub_le_sub_right hroom33 _); clear hr33 hC33 hroom33 hi033 hsz33 hc33; have KY33 := sqM hy33; have KA33 := sqM hA33; clear hy33 hA33; have KL33 := sqM (show (x19_2 : Int).toNat ≤ x5_1.length from by omega); replace q33 := eq_true q33) | ((with_reducible refine gate_builtin (b := .append) (xs := #[.tmp 29, .tmp 32]) rfl ?_); at_builtin; refine Kd.R_append_rows k34 (w0 := w) w.heap.size rfl (.tmp 29) (.tmp 32) 22 34 (.agg #[(.int .i64 0), (.int .i64 0), (.int .i64 0), (.string ⟨#[]⟩)]) 40 rfl Try.underlying22 info34 rfl (by decide) (by omega) v112 y111 y114 _ _ _ (fun k_ => some k_ ≠ (.slice (some ad108) x5_1.length co10 : Value).ownBlock ∧ k_ ≠ gb107 ∧ k_ ≠ gb109) (fun _ => False) rfl rfl ?aO ?aR (fun _ _ h => h) (fun _ h => h.elim) ?aF ?aB ?aS ?aL ?_; (case aR => repeat (first | exact (sqC HR117.out) | (with_reducible refine Kd.C_alloc ?_ _) | (with_reducible refine Kd.C_drewN ?_ _) | (with_reducible refine Kd.C_drew ?_))); (case aB => exact (sqB3 HB.out GE105.out GE107.out GE109.out)); (case aF => exact (fun k_ hk => ⟨Kd.fresh' (Kd.R_lt (sqR HO_5.out)) k_ hk, Kd.freshB (g := gb107) (o := .cells #[.int .i64 ((rd_T34 l1 x13_1).f0), .int .i64 ((rd_T34 l1 x13_1).f1), .int .i64 ((rd_T34 l1 x13_1).f2), .string ((rd_T34 l1 x13_1).f3)] 34 (0, 0)) (sqK BK107.out) k_ hk, Kd.freshB (g := gb109) (o := .cells #[.int .i64 ((rd_T34 x5_1 x19_2).f0), .int .i64 ((rd_T34 x5_1 x19_2).f1), .int .i64 ((rd_T34 x5_1 x19_2).f2), .string ((rd_T34 x5_1 x19_2).f3)] 34 (0, 0)) (sqK BK109.out) k_ hk⟩)); (case aO => exact (by refine sqR ?_; exact Kd.R_mono HO113.out (fun _ hk => ⟨hk.1.1.2, ⟨hk.1.2, hk.2⟩⟩))); (case aS => exact (below_size (sqB3 HB.out GE105.out GE107.out GE109.out))); (case aL => have := LMc18.out; omega); intro v119 w34 ho hb hg hat; rw [← Ny118.out] at ho; have HO120 := sqM (ho); replace BK105 := sqM (blk_grown (g := gb105) (o := .cells #[.func (.func 34) #[] #[]] 40 (0, 0)) (sqK BK105.out) hg (Kd.R_ne HO113.out BK105.out (by decide))); replace BK107 := sqM (blk_grown (g := gb107) (o := .cells #[.int .i64 ((rd_T34 l1 x13_1).f0), .int .i64 ((rd_T34 l1 x13_1).f1), .int .i64 ((rd_T34 l1 x13_1).f2), .string ((rd_T34 l1 x13_1).f3)] 34 (0, 0)) (sqK BK107.out) hg (Kd.R_away HO113.out (fun _ hk => hk.1.2))); replace BK109 := sqM (blk_grown (g := gb109) (o := .cells #[.int .i64 ((rd_T34 x5_1 x19_2).f0), .int .i64 ((rd_T34 x5_1 x19_2).f1), .int .i64 ((rd_T34 x5_1 x19_2).f2), .string ((rd_T34 x5_1 x19_2).f3)] 34 (0, 0)) (sqK BK109.out) hg (Kd.R_away HO113.out (fun _ hk => hk.2))); replace HB := sqM (hb); replace HR117 := sqM ((show Kd.C k34 w34 A33 y114.length y114 from by rw [Ny114.out, KA33.out]; exact Kd.C_drop (m := (x19_2 : Int).toNat) (c := co10) ((Kd.R_reads' (Kd.R_after (ok := (fun k_ => k_ ≠ gb107 ∧ k_ ≠ gb109)) (sqR HO_5.out) hg hat)).2.2) KL33.out ((Kd.R_reads' (Kd.R_after (ok := (fun k_ => k_ ≠ gb107 ∧ k_ ≠ gb109)) (sqR HO_5.out) hg hat)).2.1))); replace HO_5 := sqM (Kd.R_after (ok := (fun k_ => k_ ≠ gb107 ∧ k_ ≠ gb109)) (sqR HO_5.out) hg hat); clear HO113; clear ho hb hg hat))
 replace HO_5 := sqM (Kd.R_drew HO_5.out)
 replace HO120 := sqM (Kd.R_drew HO120.out)
 replace BK105 := sqM (blk_drew BK105.out)
 replace BK107 := sqM (blk_drew BK107.out)
 replace BK109 := sqM (blk_drew BK109.out)
 replace HR117 := sqM (Kd.C_drew HR117.out)
 replace HB := sqM (below_drew1 HB.out)
 have q36 : (x19_2 : Int) ≤ ((x5_1.length : Int) : Int) := of_decide_eq_true sqH
 obtain ⟨i036, hi036, _, hsz36, _⟩ := info_parts info34
 have hroom36 : x5_1.length ≤ co10 := (Kd.R_reads' HO_5.out).2.1
 have hC36 : Kd.C k34 _ (some ad108) x5_1.length x5_1 := (Kd.R_reads' HO_5.out).2.2
 have hcut36 := Com.cut_cap (P := Try.prog) 22 34 .i64 Try.underlying22 hi036 (some ad108) x5_1.length co10 x19_2 (of_decide_eq_true sqH) q36 hroom36
 have hr36 := Kd.C_take (m := (x19_2 : Int).toNat) hC36 (by omega)
 have hy36 : y121.length = (x19_2 : Int).toNat := (by rw [Ny121.out, List.length_take]; omega)
 rw [← Ny121.out] at hr36
 rw [← hy36] at hcut36
 have HR124 := Aside0.mk hr36
 have HC124 := sqM (show y121.length ≤ y121.length from Nat.le_refl _)
 clear hr36 hC36 hroom36 hi036 hsz36
 have KY36 := Aside0.mk hy36
 clear hy36
 have KL36 := sqM (show (x19_2 : Int).toNat ≤ x5_1.length from by omega)
 replace q36 := eq_true q36
 refine start_ (n := 10) (S := fun w' => w'.cell? ⟨gb107, 0, none⟩ = some (.int .i64 ((rd_T34 l1 x13_1).f0)) ∧ w'.cell? ⟨gb107, 1, none⟩ = some (.int .i64 ((rd_T34 l1 x13_1).f1)) ∧ w'.cell? ⟨gb107, 2, none⟩ = some (.int .i64 ((rd_T34 l1 x13_1).f2)) ∧ w'.cell? ⟨gb107, 3, none⟩ = some (.string ((rd_T34 l1 x13_1).f3))) (ds := []) #[false, false, false, false, false, false, false, false, false, false] (by kernel_rfl) rfl rfl ⟨(blk_cell BK107.out 0).trans rfl, (blk_cell BK107.out 1).trans rfl, (blk_cell BK107.out 2).trans rfl, (blk_cell BK107.out 3).trans rfl⟩ (fun hHeld => ?_); refine with_tabW queue_sorter_sorted.tab10 queue_sorter_sorted.bits10 (fun HT_ HW_ => ?_)
 generalize w34.drew = w35 at HO_5 HO120 BK105 BK107 BK109 HR117 HB HR124 hHeld ⊢
 refine pure_ (i := 0) (N := some 34) (v := ?_) (a' := ?_) #[true, false, false, false, false, false, false, false, false, false] rfl rfl (any_of HT_.out (by kernel_rfl)) (fun _ _ _ h => h) (Or.inl ⟨by rfl, ?_⟩) ?_ ?_
 rotate_left
 · intro w'
   go_simp
   with_reducible rfl
 rotate_left
 · simp only [Act.put, List.setIfInBounds_toArray, List.set_cons_zero, List.set_cons_succ, i64_w, i32_w]
   rfl
 refine pure_ (i := 1) (N := some 35) (v := ?_) (a' := ?_) #[true, true, false, false, false, false, false, false, false, false] rfl rfl (any_of HT_.out (by kernel_rfl)) (fun _ _ _ h => h) (Or.inl ⟨by rfl, ?_⟩) ?_ ?_
 rotate_left
 · intro w'
   go_simp
   with_reducible rfl
 rotate_left
 · simp only [Act.put, List.setIfInBounds_toArray, List.set_cons_zero, List.set_cons_succ, i64_w, i32_w]
   rfl
 refine pure_ (i := 2) (N := some 36) (v := ?_) (a' := ?_) #[true, true, true, false, false, false, false, false, false, false] rfl rfl (any_of HT_.out (by kernel_rfl)) (fun _ _ _ h => h) (Or.inl ⟨by rfl, ?_⟩) ?_ ?_
 rotate_left
 · intro w'
   go_simp
   with_reducible rfl
 rotate_left
 · simp only [Act.put, List.setIfInBounds_toArray, List.set_cons_zero, List.set_cons_succ, i64_w, i32_w]
   rfl
 refine pure_ (i := 3) (N := some 37) (v := ?_) (a' := ?_) #[true, true, true, true, false, false, false, false, false, false] rfl rfl (any_of HT_.out (by kernel_rfl)) (fun _ _ _ h => h) (Or.inl ⟨by rfl, ?_⟩) ?_ ?_
 rotate_left
 · intro w'
   go_simp
   with_reducible rfl
 rotate_left
 · simp only [Act.put, List.setIfInBounds_toArray, List.set_cons_zero, List.set_cons_succ, i64_w, i32_w]
   rfl
 refine pure_ (i := 7) (N := some 41) (v := ?_) (a' := ?_) #[true, true, true, true, false, false, false, true, false, false] rfl rfl (any_of HT_.out (by kernel_rfl)) (fun _ _ _ h => h) (Or.inl ⟨by rfl, ?_⟩) ?_ ?_
 rotate_left
 · intro w'
   go_simp
   with_reducible rfl
 rotate_left
 · simp only [Act.put, List.setIfInBounds_toArray, List.set_cons_zero, List.set_cons_succ, i64_w, i32_w]
   rfl
 refine take_ (i := 4) (N := some 38) (v := ?_) (a' := ?_) #[true, true, true, true, true, false, false, true, false, false] rfl rfl (take_ofW HT_.out HW_.out (by kernel_rfl)) (fun _ _ _ h => h) (Or.inl ⟨by rfl, ?_⟩) hHeld ?_ ?_
 rotate_left
 · rintro w' ⟨s0, s1, s2, s3⟩
   go_simp
   with_reducible rfl
 rotate_left
 · simp only [Act.put, List.setIfInBounds_toArray, List.set_cons_zero, List.set_cons_succ, i64_w, i32_w]
   rfl
 refine one_ (i := 5) (N := some 39) #[true, true, true, true, true, true, false, true, false, false] rfl rfl (one_of HT_.out (by kernel_rfl)) (by decide) (fun K hK => ?_)
 refine value_ (w1 := ?_) (v := ?_) (by rfl) rfl ?_ ?_
 rotate_left 2
 · go_simp
   constructor
   · rfl
   rfl
 refine hK.out _ _ ⟨(blk_cell (blk_alloc BK107.out _) 0).trans rfl, (blk_cell (blk_alloc BK107.out _) 1).trans rfl, (blk_cell (blk_alloc BK107.out _) 2).trans rfl, (blk_cell (blk_alloc BK107.out _) 3).trans rfl⟩ (fun hHeld => ?_)
 clear hK K
 refine norm_ (a' := ?_) ?_ ?_
 rotate_left
 · show Act.put _ (some 39) _ = _
   simp only [Act.put, List.setIfInBounds_toArray, List.set_cons_zero, List.set_cons_succ, i64_w, i32_w]
   rfl
 refine one_ (i := 6) (N := some 40) #[true, true, true, true, true, true, true, true, false, false] rfl rfl (one_of HT_.out (by kernel_rfl)) (by decide) (fun K hK => ?_)
 refine Kd.R_append_cap_step k34 (w0 := w) w.heap.size (by rfl) (.tmp 37) (.tmp 39) 22 34 (.agg #[(.int .i64 0), (.int .i64 0), (.int .i64 0), (.string ⟨#[]⟩)]) 40 rfl Try.underlying22 info34 rfl (by decide) (by omega) (some ad108) y121 (⟨((rd_T34 l1 x13_1).f0), ((rd_T34 l1 x13_1).f1), ((rd_T34 l1 x13_1).f2), ((rd_T34 l1 x13_1).f3)⟩ : S34) [.int .i64 ((rd_T34 l1 x13_1).f0), .int .i64 ((rd_T34 l1 x13_1).f1), .int .i64 ((rd_T34 l1 x13_1).f2), .string ((rd_T34 l1 x13_1).f3)] (fun k_ => some k_ ≠ (.slice (some ad108) x5_1.length co10 : Value).ownBlock ∧ some k_ ≠ (v119 : Value).ownBlock ∧ k_ ≠ gb107 ∧ k_ ≠ gb109) rfl rfl (fun _ _ _ _ _ _ h => h) ?aP ?aF ?aO ?aB ?aS ?aL ?_
 (case aP => exact k34_mk _ (⟨((rd_T34 l1 x13_1).f0), ((rd_T34 l1 x13_1).f1), ((rd_T34 l1 x13_1).f2), ((rd_T34 l1 x13_1).f3)⟩ : S34))
 (case aB => exact (sqB3 HB.out GE105.out GE107.out GE109.out))
 (case aF => exact (fun k_ hk => ⟨Kd.fresh' (Kd.R_lt (sqR HO_5.out)) k_ hk, Kd.fresh' (Kd.R_lt (sqR HO120.out)) k_ hk, Kd.freshB (g := gb107) (o := .cells #[.int .i64 ((rd_T34 l1 x13_1).f0), .int .i64 ((rd_T34 l1 x13_1).f1), .int .i64 ((rd_T34 l1 x13_1).f2), .string ((rd_T34 l1 x13_1).f3)] 34 (0, 0)) (sqK BK107.out) k_ hk, Kd.freshB (g := gb109) (o := .cells #[.int .i64 ((rd_T34 x5_1 x19_2).f0), .int .i64 ((rd_T34 x5_1 x19_2).f1), .int .i64 ((rd_T34 x5_1 x19_2).f2), .string ((rd_T34 x5_1 x19_2).f3)] 34 (0, 0)) (sqK BK109.out) k_ hk⟩))
 (case aO => exact (by repeat (first | exact (sqC HR124.out) | (with_reducible refine Kd.C_alloc ?_ _) | (with_reducible refine Kd.C_drewN ?_ _) | (with_reducible refine Kd.C_drew ?_))))
 (case aS => exact (below_size (sqB3 HB.out GE105.out GE107.out GE109.out)))
 (case aL => have := LMc21.out; omega)
 intro v126 w37 ho hb hg hat
 rw [← Ny125.out] at ho
 have HO127 := Aside0.mk (ho)
 replace BK105 := sqM (blk_grown (g := gb105) (o := .cells #[.func (.func 34) #[] #[]] 40 (0, 0)) (sqK BK105.out) hg (by simp [Value.ownBlock]))
 replace BK107 := sqM (blk_grown (g := gb107) (o := .cells #[.int .i64 ((rd_T34 l1 x13_1).f0), .int .i64 ((rd_T34 l1 x13_1).f1), .int .i64 ((rd_T34 l1 x13_1).f2), .string ((rd_T34 l1 x13_1).f3)] 34 (0, 0)) (sqK BK107.out) hg (by simp [Value.ownBlock]))
 replace BK109 := sqM (blk_grown (g := gb109) (o := .cells #[.int .i64 ((rd_T34 x5_1 x19_2).f0), .int .i64 ((rd_T34 x5_1 x19_2).f1), .int .i64 ((rd_T34 x5_1 x19_2).f2), .string ((rd_T34 x5_1 x19_2).f3)] 34 (0, 0)) (sqK BK109.out) hg (by simp [Value.ownBlock]))
 replace HO120 := sqM (Kd.R_after (Kd.R_apart_nil (sqR HO120.out)) hg hat)
 replace HB := Aside0.mk (hb)
 replace HR117 := sqM ((show Kd.C k34 w37 A33 y114.length y114 from by rw [Ny114.out, KA33.out]; exact Kd.C_drop (m := (x19_2 : Int).toNat) (c := co10) ((Kd.R_reads' (Kd.R_after (Kd.R_apart_nil (sqR HO_5.out)) hg hat)).2.2) KL33.out ((Kd.R_reads' (Kd.R_after (Kd.R_apart_nil (sqR HO_5.out)) hg hat)).2.1)))
 replace HR124 := sqM ((show Kd.C k34 w37 (some ad108) y121.length y121 from by rw [Ny121.out]; exact Kd.C_take (m := (x19_2 : Int).toNat) ((Kd.R_reads' (Kd.R_after (Kd.R_apart_nil (sqR HO_5.out)) hg hat)).2.2) KL36.out))
 replace HO_5 := sqM (Kd.R_after (Kd.R_apart_nil (sqR HO_5.out)) hg hat)
 clear ho hb hg hat
 obtain ⟨Ao39, co39, eo39⟩ := Kd.R_slice HO120.out
 (first | subst eo39 | (injection eo39 with f1_ f2_ f3_; have f4_ := f1_.symm; have f5_ := f3_.symm; clear f1_ f2_ f3_; subst f4_; subst f5_))
 refine hK.out _ _ ⟨(blk_cell BK107.out 0).trans rfl, (blk_cell BK107.out 1).trans rfl, (blk_cell BK107.out 2).trans rfl, (blk_cell BK107.out 3).trans rfl⟩ (fun hHeld => ?_)
 clear hK K
 refine norm_ (a' := ?_) ?_ ?_
 rotate_left
 · show Act.put _ (some 40) _ = _
   simp only [Act.put, List.setIfInBounds_toArray, List.set_cons_zero, List.set_cons_succ, i64_w, i32_w]
   rfl
 refine one_ (i := 8) (N := some 42) #[true, true, true, true, true, true, true, true, true, false] rfl rfl (one_of HT_.out (by kernel_rfl)) (by decide) (fun K hK => ?_)
 refine Kd.R_append_rows_step k34 (w0 := w) w.heap.size (by rfl) (.tmp 40) (.tmp 41) 22 34 (.agg #[(.int .i64 0), (.int .i64 0), (.int .i64 0), (.string ⟨#[]⟩)]) 40 rfl Try.underlying22 info34 rfl (by decide) (by omega) v126 y125 y118 _ _ _ (fun k_ => some k_ ≠ (.slice (some ad108) x5_1.length co10 : Value).ownBlock ∧ some k_ ≠ (.slice Ao39 y118.length co39 : Value).ownBlock ∧ k_ ≠ gb107 ∧ k_ ≠ gb109) (fun _ => False) rfl rfl ?aO ?aR (fun _ _ h => h) (fun _ h => h.elim) ?aF ?aB ?aS ?aL ?_
 (case aR => repeat (first | exact (Kd.R_reads' HO120.out).2.2 | (with_reducible refine Kd.C_alloc ?_ _) | (with_reducible refine Kd.C_drewN ?_ _) | (with_reducible refine Kd.C_drew ?_)))
 (case aB => exact (sqB3 HB.out GE105.out GE107.out GE109.out))
 (case aF => exact (fun k_ hk => ⟨Kd.fresh' (Kd.R_lt (sqR HO_5.out)) k_ hk, Kd.fresh' (Kd.R_lt (sqR HO120.out)) k_ hk, Kd.freshB (g := gb107) (o := .cells #[.int .i64 ((rd_T34 l1 x13_1).f0), .int .i64 ((rd_T34 l1 x13_1).f1), .int .i64 ((rd_T34 l1 x13_1).f2), .string ((rd_T34 l1 x13_1).f3)] 34 (0, 0)) (sqK BK107.out) k_ hk, Kd.freshB (g := gb109) (o := .cells #[.int .i64 ((rd_T34 x5_1 x19_2).f0), .int .i64 ((rd_T34 x5_1 x19_2).f1), .int .i64 ((rd_T34 x5_1 x19_2).f2), .string ((rd_T34 x5_1 x19_2).f3)] 34 (0, 0)) (sqK BK109.out) k_ hk⟩))
 (case aO => exact (sqR HO127.out))
 (case aS => exact (below_size (sqB3 HB.out GE105.out GE107.out GE109.out)))
 (case aL => have := LMc22.out; omega)
 intro v129 w38 ho hb hg hat
 rw [← Ny128.out] at ho
 have HO130 := Aside0.mk (ho)
 replace BK105 := sqM (blk_grown (g := gb105) (o := .cells #[.func (.func 34) #[] #[]] 40 (0, 0)) (sqK BK105.out) hg (Kd.R_ne HO127.out BK105.out (by decide)))
 replace BK107 := sqM (blk_grown (g := gb107) (o := .cells #[.int .i64 ((rd_T34 l1 x13_1).f0), .int .i64 ((rd_T34 l1 x13_1).f1), .int .i64 ((rd_T34 l1 x13_1).f2), .string ((rd_T34 l1 x13_1).f3)] 34 (0, 0)) (sqK BK107.out) hg (Kd.R_away HO127.out (fun _ hk => hk.2.2.1)))
 replace BK109 := sqM (blk_grown (g := gb109) (o := .cells #[.int .i64 ((rd_T34 x5_1 x19_2).f0), .int .i64 ((rd_T34 x5_1 x19_2).f1), .int .i64 ((rd_T34 x5_1 x19_2).f2), .string ((rd_T34 x5_1 x19_2).f3)] 34 (0, 0)) (sqK BK109.out) hg (Kd.R_away HO127.out (fun _ hk => hk.2.2.2)))
 replace HO120 := sqM (Kd.R_after (ok := (fun k_ => some k_ ≠ (.slice (some ad108) x5_1.length co10 : Value).ownBlock ∧ k_ ≠ gb107 ∧ k_ ≠ gb109)) (sqR HO120.out) hg hat)
 replace HB := Aside0.mk (hb)
 replace HR117 := sqM ((show Kd.C k34 w38 A33 y114.length y114 from by rw [Ny114.out, KA33.out]; exact Kd.C_drop (m := (x19_2 : Int).toNat) (c := co10) ((Kd.R_reads' (Kd.R_after (ok := (fun k_ => some k_ ≠ (.slice Ao39 y118.length co39 : Value).ownBlock ∧ k_ ≠ gb107 ∧ k_ ≠ gb109)) (by refine sqR ?_; exact Kd.R_mono HO_5.out (fun _ hk => ⟨⟨hk.1.2, ⟨hk.1.1.1, hk.1.1.2⟩⟩, hk.2⟩)) hg hat)).2.2) KL33.out ((Kd.R_reads' (Kd.R_after (ok := (fun k_ => some k_ ≠ (.slice Ao39 y118.length co39 : Value).ownBlock ∧ k_ ≠ gb107 ∧ k_ ≠ gb109)) (by refine sqR ?_; exact Kd.R_mono HO_5.out (fun _ hk => ⟨⟨hk.1.2, ⟨hk.1.1.1, hk.1.1.2⟩⟩, hk.2⟩)) hg hat)).2.1)))
 replace HR124 := sqM ((show Kd.C k34 w38 (some ad108) y121.length y121 from by rw [Ny121.out]; exact Kd.C_take (m := (x19_2 : Int).toNat) ((Kd.R_reads' (Kd.R_after (ok := (fun k_ => some k_ ≠ (.slice Ao39 y118.length co39 : Value).ownBlock ∧ k_ ≠ gb107 ∧ k_ ≠ gb109)) (by refine sqR ?_; exact Kd.R_mono HO_5.out (fun _ hk => ⟨⟨hk.1.2, ⟨hk.1.1.1, hk.1.1.2⟩⟩, hk.2⟩)) hg hat)).2.2) KL36.out))
 replace HO_5 := sqM (Kd.R_after (ok := (fun k_ => some k_ ≠ (.slice Ao39 y118.length co39 : Value).ownBlock ∧ k_ ≠ gb107 ∧ k_ ≠ gb109)) (by refine sqR ?_; exact Kd.R_mono HO_5.out (fun _ hk => ⟨⟨hk.1.2, ⟨hk.1.1.1, hk.1.1.2⟩⟩, hk.2⟩)) hg hat)
 clear HO127
 clear ho hb hg hat
 refine hK.out _ _ ⟨(blk_cell BK107.out 0).trans rfl, (blk_cell BK107.out 1).trans rfl, (blk_cell BK107.out 2).trans rfl, (blk_cell BK107.out 3).trans rfl⟩ (fun hHeld => ?_)
 clear hK K
 refine norm_ (a' := ?_) ?_ ?_
 rotate_left
 · show Act.put _ (some 42) _ = _
   simp only [Act.put, List.setIfInBounds_toArray, List.set_cons_zero, List.set_cons_succ, i64_w, i32_w]
   rfl
 refine pure_ (i := 9) (N := some 5) (v := ?_) (a' := ?_) #[true, true, true, true, true, true, true, true, true, true] rfl rfl (any_of HT_.out (by kernel_rfl)) (fun _ _ _ h => h) (Or.inl ⟨by rfl, ?_⟩) ?_ ?_
 rotate_left
 · intro w'
   go_simp
   with_reducible rfl
 rotate_left
 · simp only [Act.put, List.setIfInBounds_toArray, List.set_cons_zero, List.set_cons_succ, i64_w, i32_w]
   rfl
 refine done_ (done_of HT_.out (by kernel_rfl)) ?_
 try go_wp2
 go_roundg k2
 case measure => have := HK1.out; have := HK2.out; omega
 case rel => exact ⟨(y128), (wrap64 (x13_1 + 1)), sqI, H', ⟨by have := HK1.out; have := HK2.out; omega⟩, ⟨by refine sqR ?_; exact Kd.R_mono HO130.out (fun _ hk => trivial)⟩, ⟨sqK BK105.out⟩, ⟨sqB3 HB.out GE105.out GE107.out GE109.out⟩⟩

/-! ### addr_Right: function 42 -/
def addr_Right.f (a0 : Int) : Option (Bool) := if a0 ≥ 0 then (some (decide (a0 ≤ 4294967295))) else (some false)
set_option maxHeartbeats 8000000 in
set_option maxRecDepth 100000 in
theorem addr_Right.calls (a0 : Int) (r : Bool) (w : World) (h : addr_Right.f a0 = some r) :
    Calls Try.prog 42 #[.int .i64 a0] w fun e w' => e = .returned (.bool r) ∧ Drawn0 w w' := by
 have H : (if a0 ≥ 0 then (some (decide (a0 ≤ 4294967295))) else (some false)) = some r := h
 clear h
 by_cases c2 : a0 ≥ 0
 · rw [if_pos c2] at H
   have c2b0 : decide (0 ≤ a0) = true := decide_eq_true c2
   clear c2
   obtain rfl := Option.some.inj H
   go_enter Try.func42, Try.ntmps42
   go_wp2
   go_ret
   exact ⟨sqI, sqD⟩
 rw [if_neg c2] at H
 have c2b0 : decide (0 ≤ a0) = false := decide_eq_false c2
 clear c2
 obtain rfl := Option.some.inj H
 go_enter Try.func42, Try.ntmps42
 go_wp2
 go_ret
 exact ⟨sqI, sqD⟩

/-! ### key_Right: function 43 -/
def key_Right.f (a0 : ByteArray) : Option (Bool) := if (a0.size : Int) = 0 then (some false) else (if 0 < (a0.size : Int) then (if (bt a0 0) = 105 then (if (wrap64 ((a0.size : Int) - 1)) ≥ 2 then (some (decide ((wrap64 ((a0.size : Int) - 1)) ≤ 255))) else (some false)) else (if (bt a0 0) = 104 then (if (wrap64 ((a0.size : Int) - 1)) ≥ 2 then (some (decide ((wrap64 ((a0.size : Int) - 1)) ≤ 17))) else (some false)) else (some false))) else (none))
set_option maxHeartbeats 8000000 in
set_option maxRecDepth 100000 in
theorem key_Right.calls (a0 : ByteArray) (r : Bool) (w : World) (h : key_Right.f a0 = some r) :
    Calls Try.prog 43 #[.string a0] w fun e w' => e = .returned (.bool r) ∧ Drawn0 w w' := by
 have H : (if (a0.size : Int) = 0 then (some false) else (if 0 < (a0.size : Int) then (if (bt a0 0) = 105 then (if (wrap64 ((a0.size : Int) - 1)) ≥ 2 then (some (decide ((wrap64 ((a0.size : Int) - 1)) ≤ 255))) else (some false)) else (if (bt a0 0) = 104 then (if (wrap64 ((a0.size : Int) - 1)) ≥ 2 then (some (decide ((wrap64 ((a0.size : Int) - 1)) ≤ 17))) else (some false)) else (some false))) else (none))) = some r := h
 clear h
 by_cases c2 : (a0.size : Int) = 0
 · rw [if_pos c2] at H
   have c2b0 : ((a0.size : Int) == 0) = true := beq_iff_eq.mpr c2
   have c2b1 : ((a0.size : Int) != 0) = false := bne_eq_false_iff_eq.mpr c2
   clear c2
   obtain rfl := Option.some.inj H
   go_enter Try.func43, Try.ntmps43
   go_wp2
   go_ret
   exact ⟨sqI, sqD⟩
 rw [if_neg c2] at H
 have c2b0 : ((a0.size : Int) == 0) = false := beq_eq_false_iff_ne.mpr c2
 have c2b1 : ((a0.size : Int) != 0) = true := bne_iff_ne.mpr c2
 by_cases c3 : 0 < (a0.size : Int)
 rotate_left
 · rw [if_neg c3] at H
   exact absurd H (by simp)
 rw [if_pos c3] at H
 have c3b0 : decide (0 < (a0.size : Int)) = true := decide_eq_true c3
 have c3b1 : decide (0 < a0.size) = true := decide_eq_true (by omega)
 clear c3
 by_cases c5 : (bt a0 0) = 105
 · rw [if_pos c5] at H
   have c5b0 : ((bt a0 0) == 105) = true := beq_iff_eq.mpr c5
   have c5b1 : ((bt a0 0) != 105) = false := bne_eq_false_iff_eq.mpr c5
   clear c5
   by_cases c6 : (wrap64 ((a0.size : Int) - 1)) ≥ 2
   · rw [if_pos c6] at H
     have c6b0 : decide (2 ≤ (wrap64 ((a0.size : Int) - 1))) = true := decide_eq_true c6
     clear c6
     obtain rfl := Option.some.inj H
     have p4 : 0 ≤ (0 : Int) := (by omega)
     have q4 : 0 < a0.size := (by have : (0 : Int) < (a0.size : Int) := of_decide_eq_true sqH; omega)
     have hx4 : ∀ h : 0 < a0.size, ((a0[0]'h).toNat : Int) = bt a0 0 := bt_at a0 0
     clear p4
     have qi4 : (0 < (a0.size : Int)) = True := eq_true (of_decide_eq_true sqH)
     replace q4 := eq_true q4
     go_enter Try.func43, Try.ntmps43
     go_wp2
     go_ret
     exact ⟨sqI, sqD⟩
   rw [if_neg c6] at H
   have c6b0 : decide (2 ≤ (wrap64 ((a0.size : Int) - 1))) = false := decide_eq_false c6
   clear c6
   obtain rfl := Option.some.inj H
   have p4 : 0 ≤ (0 : Int) := (by omega)
   have q4 : 0 < a0.size := (by have : (0 : Int) < (a0.size : Int) := of_decide_eq_true sqH; omega)
   have hx4 : ∀ h : 0 < a0.size, ((a0[0]'h).toNat : Int) = bt a0 0 := bt_at a0 0
   clear p4
   have qi4 : (0 < (a0.size : Int)) = True := eq_true (of_decide_eq_true sqH)
   replace q4 := eq_true q4
   go_enter Try.func43, Try.ntmps43
   go_wp2
   go_ret
   exact ⟨sqI, sqD⟩
 rw [if_neg c5] at H
 have c5b0 : ((bt a0 0) == 105) = false := beq_eq_false_iff_ne.mpr c5
 have c5b1 : ((bt a0 0) != 105) = true := bne_iff_ne.mpr c5
 by_cases c7 : (bt a0 0) = 104
 rotate_left
 · rw [if_neg c7] at H
   have c7b0 : ((bt a0 0) == 104) = false := beq_eq_false_iff_ne.mpr c7
   have c7b1 : ((bt a0 0) != 104) = true := bne_iff_ne.mpr c7
   obtain rfl := Option.some.inj H
   have p4 : 0 ≤ (0 : Int) := (by omega)
   have q4 : 0 < a0.size := (by have : (0 : Int) < (a0.size : Int) := of_decide_eq_true sqH; omega)
   have hx4 : ∀ h : 0 < a0.size, ((a0[0]'h).toNat : Int) = bt a0 0 := bt_at a0 0
   clear p4
   have qi4 : (0 < (a0.size : Int)) = True := eq_true (of_decide_eq_true sqH)
   replace q4 := eq_true q4
   go_enter Try.func43, Try.ntmps43
   go_wp2
   go_ret
   exact ⟨sqI, sqD⟩
 rw [if_pos c7] at H
 have c7b0 : ((bt a0 0) == 104) = true := beq_iff_eq.mpr c7
 have c7b1 : ((bt a0 0) != 104) = false := bne_eq_false_iff_eq.mpr c7
 clear c7
 by_cases c8 : (wrap64 ((a0.size : Int) - 1)) ≥ 2
 · rw [if_pos c8] at H
   have c8b0 : decide (2 ≤ (wrap64 ((a0.size : Int) - 1))) = true := decide_eq_true c8
   clear c8
   obtain rfl := Option.some.inj H
   have p4 : 0 ≤ (0 : Int) := (by omega)
   have q4 : 0 < a0.size := (by have : (0 : Int) < (a0.size : Int) := of_decide_eq_true sqH; omega)
   have hx4 : ∀ h : 0 < a0.size, ((a0[0]'h).toNat : Int) = bt a0 0 := bt_at a0 0
   clear p4
   have qi4 : (0 < (a0.size : Int)) = True := eq_true (of_decide_eq_true sqH)
   replace q4 := eq_true q4
   go_enter Try.func43, Try.ntmps43
   go_wp2
   go_ret
   exact ⟨sqI, sqD⟩
 rw [if_neg c8] at H
 have c8b0 : decide (2 ≤ (wrap64 ((a0.size : Int) - 1))) = false := decide_eq_false c8
 clear c8
 obtain rfl := Option.some.inj H
 have p4 : 0 ≤ (0 : Int) := (by omega)
 have q4 : 0 < a0.size := (by have : (0 : Int) < (a0.size : Int) := of_decide_eq_true sqH; omega)
 have hx4 : ∀ h : 0 < a0.size, ((a0[0]'h).toNat : Int) = bt a0 0 := bt_at a0 0
 clear p4
 have qi4 : (0 < (a0.size : Int)) = True := eq_true (of_decide_eq_true sqH)
 replace q4 := eq_true q4
 go_enter Try.func43, Try.ntmps43
 go_wp2
 go_ret
 exact ⟨sqI, sqD⟩

/-! ### record_Right: function 40 -/
def record_Right.f (a0_0 : Int) (a0_1 : Int) (a0_2 : Int) (a0_3 : ByteArray) : Option (Bool) := (addr_Right.f a0_0).bind fun t135 => (if t135 = true then (if a0_1 ≥ 1 then (if a0_1 ≤ 3 then (if a0_2 ≥ 0 then (if a0_2 ≤ 1125899906842624 then ((key_Right.f a0_3).bind fun t136 => (some t136)) else (some false)) else (some false)) else (some false)) else (some false)) else (some false))
set_option maxHeartbeats 8000000 in
set_option maxRecDepth 100000 in
theorem record_Right.calls (a0_0 : Int) (a0_1 : Int) (a0_2 : Int) (a0_3 : ByteArray) (r : Bool) (w : World) (h : record_Right.f a0_0 a0_1 a0_2 a0_3 = some r) :
    Calls Try.prog 40 #[.agg #[.int .i64 a0_0, .int .i64 a0_1, .int .i64 a0_2, .string a0_3]] w fun e w' => e = .returned (.bool r) ∧ Below w.heap.size w w' := by
 have hu34 := Try.underlying34
 have HB := Aside0.mk (Below.refl w.heap.size w)
 have H : ((addr_Right.f a0_0).bind fun t135 => (if t135 = true then (if a0_1 ≥ 1 then (if a0_1 ≤ 3 then (if a0_2 ≥ 0 then (if a0_2 ≤ 1125899906842624 then ((key_Right.f a0_3).bind fun t136 => (some t136)) else (some false)) else (some false)) else (some false)) else (some false)) else (some false))) = some r := h
 clear h
 replace H := Option.bind_eq_some_iff.mp H
 obtain ⟨t135, A20, H⟩ := H
 replace H : (if t135 = true then (if a0_1 ≥ 1 then (if a0_1 ≤ 3 then (if a0_2 ≥ 0 then (if a0_2 ≤ 1125899906842624 then ((key_Right.f a0_3).bind fun t136 => (some t136)) else (some false)) else (some false)) else (some false)) else (some false)) else (some false)) = some r := H
 have A2 := Aside0.mk A20
 clear A20
 by_cases c3 : t135 = true
 rotate_left
 · replace c3 := Bool.eq_false_iff.mpr c3
   subst c3
   have H1 : (some false) = some r := by rw [if_neg (show ¬ (false = true) by decide)] at H; exact H
   clear H
   have H := H1
   clear H1
   obtain rfl := Option.some.inj H
   go_enter Try.func40, Try.ntmps40
   go_wp2_with (first | ((with_reducible refine gate_dst (N := 1) rfl ?_); refine box_event rfl (N := 1) rfl (cs := #[.int .i64 a0_0, .int .i64 a0_1, .int .i64 a0_2, .string a0_3]) (t := 34) sqs ?_; intro gb134 hg w19 hbox hb; have BK134 := sqM (hbox); have GW134 := sqM (sqZ hg (sqB HB.out)); have GE134 := sqM (sqZ hg (sqB HB.out)); replace HB := sqM (below_step (sqB HB.out) hb); clear hb hbox hg; obtain ⟨hcz20_0, hcz20_1, hcz20_2, hcz20_3, hfz20_0, hfz20_1, hfz20_2, hfz20_3⟩ := sqF4 BK134.out) | ((with_reducible refine gate_callee (f := 42) rfl ?_); refine goesL_ (some 5) rfl rfl Try.func42 (by kernel_rfl) rfl #[.int .i64 a0_0] rfl sqA ?_; (with_reducible refine (addr_Right.calls _ _ _ A2.out).mono ?_); rintro e w' ⟨rfl, ⟨nd, rfl⟩⟩; refine ⟨_, rfl, ?_⟩))
   go_ret
   exact ⟨sqE, sqB1 HB.out GE134.out⟩
 subst c3
 have H1 : (if a0_1 ≥ 1 then (if a0_1 ≤ 3 then (if a0_2 ≥ 0 then (if a0_2 ≤ 1125899906842624 then ((key_Right.f a0_3).bind fun t136 => (some t136)) else (some false)) else (some false)) else (some false)) else (some false)) = some r := by rw [if_pos rfl] at H; exact H
 clear H
 have H := H1
 clear H1
 by_cases c4 : a0_1 ≥ 1
 rotate_left
 · rw [if_neg c4] at H
   have c4b0 : decide (1 ≤ a0_1) = false := decide_eq_false c4
   clear c4
   obtain rfl := Option.some.inj H
   go_enter Try.func40, Try.ntmps40
   go_wp2_with (first | ((with_reducible refine gate_dst (N := 1) rfl ?_); refine box_event rfl (N := 1) rfl (cs := #[.int .i64 a0_0, .int .i64 a0_1, .int .i64 a0_2, .string a0_3]) (t := 34) sqs ?_; intro gb134 hg w17 hbox hb; have BK134 := sqM (hbox); have GW134 := sqM (sqZ hg (sqB HB.out)); have GE134 := sqM (sqZ hg (sqB HB.out)); replace HB := sqM (below_step (sqB HB.out) hb); clear hb hbox hg; obtain ⟨hcz18_0, hcz18_1, hcz18_2, hcz18_3, hfz18_0, hfz18_1, hfz18_2, hfz18_3⟩ := sqF4 BK134.out) | ((with_reducible refine gate_callee (f := 42) rfl ?_); refine goesL_ (some 5) rfl rfl Try.func42 (by kernel_rfl) rfl #[.int .i64 a0_0] rfl sqA ?_; (with_reducible refine (addr_Right.calls _ _ _ A2.out).mono ?_); rintro e w' ⟨rfl, ⟨nd, rfl⟩⟩; refine ⟨_, rfl, ?_⟩))
   go_ret
   exact ⟨sqE, sqB1 HB.out GE134.out⟩
 rw [if_pos c4] at H
 have c4b0 : decide (1 ≤ a0_1) = true := decide_eq_true c4
 clear c4
 by_cases c5 : a0_1 ≤ 3
 rotate_left
 · rw [if_neg c5] at H
   have c5b0 : decide (a0_1 ≤ 3) = false := decide_eq_false c5
   clear c5
   obtain rfl := Option.some.inj H
   go_enter Try.func40, Try.ntmps40
   go_wp2_with (first | ((with_reducible refine gate_dst (N := 1) rfl ?_); refine box_event rfl (N := 1) rfl (cs := #[.int .i64 a0_0, .int .i64 a0_1, .int .i64 a0_2, .string a0_3]) (t := 34) sqs ?_; intro gb134 hg w15 hbox hb; have BK134 := sqM (hbox); have GW134 := sqM (sqZ hg (sqB HB.out)); have GE134 := sqM (sqZ hg (sqB HB.out)); replace HB := sqM (below_step (sqB HB.out) hb); clear hb hbox hg; obtain ⟨hcz16_0, hcz16_1, hcz16_2, hcz16_3, hfz16_0, hfz16_1, hfz16_2, hfz16_3⟩ := sqF4 BK134.out) | ((with_reducible refine gate_callee (f := 42) rfl ?_); refine goesL_ (some 5) rfl rfl Try.func42 (by kernel_rfl) rfl #[.int .i64 a0_0] rfl sqA ?_; (with_reducible refine (addr_Right.calls _ _ _ A2.out).mono ?_); rintro e w' ⟨rfl, ⟨nd, rfl⟩⟩; refine ⟨_, rfl, ?_⟩))
   go_ret
   exact ⟨sqE, sqB1 HB.out GE134.out⟩
 rw [if_pos c5] at H
 have c5b0 : decide (a0_1 ≤ 3) = true := decide_eq_true c5
 clear c5
 by_cases c6 : a0_2 ≥ 0
 rotate_left
 · rw [if_neg c6] at H
   have c6b0 : decide (0 ≤ a0_2) = false := decide_eq_false c6
   clear c6
   obtain rfl := Option.some.inj H
   go_enter Try.func40, Try.ntmps40
   go_wp2_with (first | ((with_reducible refine gate_dst (N := 1) rfl ?_); refine box_event rfl (N := 1) rfl (cs := #[.int .i64 a0_0, .int .i64 a0_1, .int .i64 a0_2, .string a0_3]) (t := 34) sqs ?_; intro gb134 hg w13 hbox hb; have BK134 := sqM (hbox); have GW134 := sqM (sqZ hg (sqB HB.out)); have GE134 := sqM (sqZ hg (sqB HB.out)); replace HB := sqM (below_step (sqB HB.out) hb); clear hb hbox hg; obtain ⟨hcz14_0, hcz14_1, hcz14_2, hcz14_3, hfz14_0, hfz14_1, hfz14_2, hfz14_3⟩ := sqF4 BK134.out) | ((with_reducible refine gate_callee (f := 42) rfl ?_); refine goesL_ (some 5) rfl rfl Try.func42 (by kernel_rfl) rfl #[.int .i64 a0_0] rfl sqA ?_; (with_reducible refine (addr_Right.calls _ _ _ A2.out).mono ?_); rintro e w' ⟨rfl, ⟨nd, rfl⟩⟩; refine ⟨_, rfl, ?_⟩))
   go_ret
   exact ⟨sqE, sqB1 HB.out GE134.out⟩
 rw [if_pos c6] at H
 have c6b0 : decide (0 ≤ a0_2) = true := decide_eq_true c6
 clear c6
 by_cases c7 : a0_2 ≤ 1125899906842624
 rotate_left
 · rw [if_neg c7] at H
   have c7b0 : decide (a0_2 ≤ 1125899906842624) = false := decide_eq_false c7
   clear c7
   obtain rfl := Option.some.inj H
   go_enter Try.func40, Try.ntmps40
   go_wp2_with (first | ((with_reducible refine gate_dst (N := 1) rfl ?_); refine box_event rfl (N := 1) rfl (cs := #[.int .i64 a0_0, .int .i64 a0_1, .int .i64 a0_2, .string a0_3]) (t := 34) sqs ?_; intro gb134 hg w11 hbox hb; have BK134 := sqM (hbox); have GW134 := sqM (sqZ hg (sqB HB.out)); have GE134 := sqM (sqZ hg (sqB HB.out)); replace HB := sqM (below_step (sqB HB.out) hb); clear hb hbox hg; obtain ⟨hcz12_0, hcz12_1, hcz12_2, hcz12_3, hfz12_0, hfz12_1, hfz12_2, hfz12_3⟩ := sqF4 BK134.out) | ((with_reducible refine gate_callee (f := 42) rfl ?_); refine goesL_ (some 5) rfl rfl Try.func42 (by kernel_rfl) rfl #[.int .i64 a0_0] rfl sqA ?_; (with_reducible refine (addr_Right.calls _ _ _ A2.out).mono ?_); rintro e w' ⟨rfl, ⟨nd, rfl⟩⟩; refine ⟨_, rfl, ?_⟩))
   go_ret
   exact ⟨sqE, sqB1 HB.out GE134.out⟩
 rw [if_pos c7] at H
 have c7b0 : decide (a0_2 ≤ 1125899906842624) = true := decide_eq_true c7
 clear c7
 replace H := Option.bind_eq_some_iff.mp H
 obtain ⟨t136, A80, H⟩ := H
 replace H : (some t136) = some r := H
 have A8 := Aside0.mk A80
 clear A80
 obtain rfl := Option.some.inj H
 go_enter Try.func40, Try.ntmps40
 go_wp2_with (first | ((with_reducible refine gate_dst (N := 1) rfl ?_); refine box_event rfl (N := 1) rfl (cs := #[.int .i64 a0_0, .int .i64 a0_1, .int .i64 a0_2, .string a0_3]) (t := 34) sqs ?_; intro gb134 hg w9 hbox hb; have BK134 := sqM (hbox); have GW134 := sqM (sqZ hg (sqB HB.out)); have GE134 := sqM (sqZ hg (sqB HB.out)); replace HB := sqM (below_step (sqB HB.out) hb); clear hb hbox hg; obtain ⟨hcz10_0, hcz10_1, hcz10_2, hcz10_3, hfz10_0, hfz10_1, hfz10_2, hfz10_3⟩ := sqF4 BK134.out) | ((with_reducible refine gate_callee (f := 42) rfl ?_); refine goesL_ (some 5) rfl rfl Try.func42 (by kernel_rfl) rfl #[.int .i64 a0_0] rfl sqA ?_; (with_reducible refine (addr_Right.calls _ _ _ A2.out).mono ?_); rintro e w' ⟨rfl, ⟨nd, rfl⟩⟩; refine ⟨_, rfl, ?_⟩) | (go_at_call 43; (with_reducible refine (key_Right.calls _ _ _ A8.out).mono ?_); rintro e w' ⟨rfl, ⟨nd, rfl⟩⟩))
 go_ret
 exact ⟨sqE, sqB1 HB.out GE134.out⟩

end Go.Proofs.Ytkjmfnijagdhpaa.PQueue
