/- Lean functions for Go functions of the given program, and proofs that the code computes them, each under its theorem's own conditions. Written by a program of this session. -/
import Derived.Test.YtkjmfnijagdhpaaPQueuex0
namespace Go.Proofs.Ytkjmfnijagdhpaa.PQueue
open Go.RowKit Go.Proofs.YtkjmfnijagdhpaaW.PrintWords Go.Proofs.YtkjmfnijagdhpaaW.PrintLast Go.Proofs.YtkjmfnijagdhpaaW.PrintMore
attribute [local go_sem] max2_int min2_int max_two min_two max_three min_three max_four min_four   -- for this text's walks alone
set_option linter.unusedVariables false
set_option linter.unusedSimpArgs false

/-! ### boarderlaw12_Great: function 8 -/
def boarderlaw12_Great.l0 : Nat → List (S34) → Int → Option (Bool)
  | 0, _, _ => none
  | k + 1, x0, x3 => if x3 < (x0.length : Int) then (if 0 ≤ x3 then (if (((rd_T34 x0 x3).f3).size : Int) > 1000 then (some true) else (boarderlaw12_Great.l0 k x0 (wrap64 (x3 + 1)))) else (none)) else (some (decide ((x0.length : Int) > 200)))
def boarderlaw12_Great.f (k : Nat) (l0 : List (S34)) : Option (Bool) := boarderlaw12_Great.l0 k l0 0
theorem boarderlaw12_Great.mono_l : ∀ k, (∀ y0 y1, LeO (boarderlaw12_Great.l0 k y0 y1) (boarderlaw12_Great.l0 (k + 1) y0 y1))
  | 0 => fun _ _ r h => by simp [boarderlaw12_Great.l0] at h
  | k + 1 => by
    have ih0 := boarderlaw12_Great.mono_l k
    · intro y0 y1
      unfold boarderlaw12_Great.l0
      repeat' first
      | (with_reducible exact ih0 _ _)
      | (with_reducible exact LeO.refl _)
      | (with_reducible exact LeO.none _)
      | (with_reducible refine LeO.ite ?_ ?_)
      | (with_reducible refine LeO.bind ?_ (fun _ => ?_))
      | exact ih0 _ _
      | exact LeO.none _
      | refine LeO.ite ?_ ?_
      | refine LeO.bind ?_ (fun _ => ?_)
theorem boarderlaw12_Great.mono : ∀ a0 k, LeO (boarderlaw12_Great.f k a0) (boarderlaw12_Great.f (k + 1) a0) := by
  intro a0 k
  have ih0 := boarderlaw12_Great.mono_l k
  unfold boarderlaw12_Great.f
  repeat' first
      | (with_reducible exact ih0 _ _)
      | (with_reducible exact LeO.refl _)
      | (with_reducible exact LeO.none _)
      | (with_reducible refine LeO.ite ?_ ?_)
      | (with_reducible refine LeO.bind ?_ (fun _ => ?_))
      | exact ih0 _ _
      | exact LeO.none _
      | refine LeO.ite ?_ ?_
      | refine LeO.bind ?_ (fun _ => ?_)
set_option maxHeartbeats 8000000 in
set_option maxRecDepth 100000 in
theorem boarderlaw12_Great.calls (k : Nat) (A0 : Option Addr) (c0 : Nat) (l0 : List (S34)) (r : Bool) (w : World) (hr0 : Kd.C k34 w A0 l0.length l0) (hc0 : l0.length ≤ c0) (h : boarderlaw12_Great.f k l0 = some r) :
    Calls Try.prog 8 #[.slice A0 l0.length c0] w fun e w' => e = .returned (.bool r) ∧ Drawn0 w w' := by
  have HR0 := Aside0.mk hr0
  have HC0 := Aside0.mk hc0
  clear hr0 hc0
  have H : (boarderlaw12_Great.l0 k l0 0) = some r := h
  clear h
  have H' := Aside0.mk H
  clear H
  go_enter Try.func8, Try.ntmps8
  go_wp2
  go_loopg [3] k (fun kq v3 w' => ∃ (x3_1 : Int), v3 = .int .i64 x3_1 ∧ Aside0 (boarderlaw12_Great.l0 kq l0 x3_1 = some r) ∧ Aside0 (kq ≤ k) ∧ Drawn0 w w')
  case atStart => exact ⟨(0), (by first | rfl | (simp; done) | (simp [*]; done)), H', ⟨Nat.le_refl _⟩, by repeat (first | exact Drawn0.refl _ | apply Drawn0.step)⟩
  case round =>
    clear H'
    obtain ⟨x3_1, rfl, HA, HK1, ⟨m1, rfl⟩⟩ := hrel
    cases gk with
    | zero => exact absurd HA.out (by simp [boarderlaw12_Great.l0])
    | succ k1 =>
      have H := HA.out
      clear HA
      simp only [boarderlaw12_Great.l0] at H
      by_cases c2 : x3_1 < (l0.length : Int)
      · rw [if_pos c2] at H
        have c2b0 : decide (x3_1 < (l0.length : Int)) = true := decide_eq_true c2
        clear c2
        by_cases c3 : 0 ≤ x3_1
        · rw [if_pos c3] at H
          have c3b0 : decide (0 ≤ x3_1) = true := decide_eq_true c3
          clear c3
          by_cases c4 : (((rd_T34 l0 x3_1).f3).size : Int) > 1000
          · rw [if_pos c4] at H
            have c4b0 : decide (1000 < (((rd_T34 l0 x3_1).f3).size : Int)) = true := decide_eq_true c4
            have c4b1 : decide (1000 < ((rd_T34 l0 x3_1).f3).size) = true := decide_eq_true (by omega)
            clear c4
            obtain rfl := Option.some.inj H
            have p101 : 0 ≤ (x3_1 : Int) := of_decide_eq_true (by first | (with_reducible assumption) | assumption)
            have q101 : x3_1 < (l0.length : Int) := of_decide_eq_true (by first | (with_reducible assumption) | assumption)
            obtain ⟨ad101, e101, hx101_0, hx101_1, hx101_2, hx101_3⟩ := at_T34 HR0.out x3_1 p101 q101
            cases e101
            replace p101 := eq_true p101
            replace q101 := eq_true q101
            go_wp2
            go_ret
            exact ⟨by first | rfl | (simp; done) | (simp [*]; done), by repeat (first | exact Drawn0.refl _ | apply Drawn0.step)⟩
          · rw [if_neg c4] at H
            have c4b0 : decide (1000 < (((rd_T34 l0 x3_1).f3).size : Int)) = false := decide_eq_false c4
            have c4b1 : decide (1000 < ((rd_T34 l0 x3_1).f3).size) = false := decide_eq_false (by omega)
            clear c4
            have H' := Aside0.mk H
            clear H
            have p101 : 0 ≤ (x3_1 : Int) := of_decide_eq_true (by first | (with_reducible assumption) | assumption)
            have q101 : x3_1 < (l0.length : Int) := of_decide_eq_true (by first | (with_reducible assumption) | assumption)
            obtain ⟨ad101, e101, hx101_0, hx101_1, hx101_2, hx101_3⟩ := at_T34 HR0.out x3_1 p101 q101
            cases e101
            replace p101 := eq_true p101
            replace q101 := eq_true q101
            go_wp2
            go_roundg k1
            case measure => have := HK1.out; omega
            case rel => exact ⟨(wrap64 (x3_1 + 1)), (by first | rfl | (simp; done) | (simp [*]; done)), H', ⟨by have := HK1.out; omega⟩, by repeat (first | exact Drawn0.refl _ | apply Drawn0.step)⟩
        · rw [if_neg c3] at H
          exact absurd H (by simp)
      · rw [if_neg c2] at H
        have c2b0 : decide (x3_1 < (l0.length : Int)) = false := decide_eq_false c2
        clear c2
        obtain rfl := Option.some.inj H
        go_wp2
        go_ret
        exact ⟨by first | rfl | (simp; done) | (simp [*]; done), by repeat (first | exact Drawn0.refl _ | apply Drawn0.step)⟩

/-! ### queue_ByEnd_1: function 24 -/
def queue_ByEnd_1.f (a0_0 : Int) (a0_1 : Int) (a0_2 : Int) (a0_3 : ByteArray) : Option (Bool) := some (a0_1 != 2)
set_option maxHeartbeats 8000000 in
set_option maxRecDepth 100000 in
theorem queue_ByEnd_1.calls (a0_0 : Int) (a0_1 : Int) (a0_2 : Int) (a0_3 : ByteArray) (r : Bool) (w : World) (h : queue_ByEnd_1.f a0_0 a0_1 a0_2 a0_3 = some r) :
    Calls Try.prog 24 #[.agg #[.int .i64 a0_0, .int .i64 a0_1, .int .i64 a0_2, .string a0_3]] w fun e w' => e = .returned (.bool r) ∧ Below w.heap.size w w' := by
  have hu34 := Try.underlying34
  have HB := Aside0.mk (Below.refl w.heap.size w)
  have H : (some (a0_1 != 2)) = some r := h
  clear h
  obtain rfl := Option.some.inj H
  go_enter Try.func24, Try.ntmps24
  go_wp2_with (first | ((with_reducible refine gate_dst (N := 1) rfl ?_); refine box_event ?hg (N := 1) ?hd (cs := #[.int .i64 a0_0, .int .i64 a0_1, .int .i64 a0_2, .string a0_3]) (t := 34) ?hr ?_; (case hd => rfl); (case hg => rfl); (case hr => first | (go_simp; done) | (go_simp; rfl)); intro gb102 hg w2 hbox hb; have n0_ := Aside0.mk (below_step (by repeat (first | (with_reducible first | exact HB.out | apply below_alloc | apply pw_below_drewN | apply below_drew1) | exact HB.out)) hb); have n1_ := Aside0.mk (hbox); have n2_ := Aside0.mk ((by rw [hg]; exact (below_size (by repeat (first | (with_reducible first | exact HB.out | apply below_alloc | apply pw_below_drewN | apply below_drew1) | exact HB.out))) : w.heap.size ≤ gb102)); have n3_ := Aside0.mk ((by rw [hg]; exact (below_size (by repeat (first | (with_reducible first | exact HB.out | apply below_alloc | apply pw_below_drewN | apply below_drew1) | exact HB.out))) : w.heap.size ≤ gb102)); clear HB; have HB := n0_; have BK102 := n1_; have GW102 := n2_; have GE102 := n3_; clear n0_ n1_ n2_ n3_; clear hb hbox hg; have hcz3_0 : w2.cell? ⟨gb102, 0, none⟩ = some (.int .i64 a0_0) := (blk_cell BK102.out 0).trans rfl; have hcz3_1 : w2.cell? ⟨gb102, 1, none⟩ = some (.int .i64 a0_1) := (blk_cell BK102.out 1).trans rfl; have hcz3_2 : w2.cell? ⟨gb102, 2, none⟩ = some (.int .i64 a0_2) := (blk_cell BK102.out 2).trans rfl; have hcz3_3 : w2.cell? ⟨gb102, 3, none⟩ = some (.string a0_3) := (blk_cell BK102.out 3).trans rfl; have hfz3_0 := blk_frozen BK102.out 0; have hfz3_1 := blk_frozen BK102.out 1; have hfz3_2 := blk_frozen BK102.out 2; have hfz3_3 := blk_frozen BK102.out 3))
  go_ret
  exact ⟨by first | rfl | (simp [errW_none, errW_some] <;> rfl) | (simp [*, errW_none, errW_some] <;> rfl), by repeat (first | (with_reducible first | exact HB.out | apply below_alloc | apply pw_below_drewN | apply below_drew1 | refine below_set ?_ GE102.out) | exact HB.out)⟩

/-! ### queue_byEnd_1: function 34 -/
def queue_byEnd_1.f (a0_0 : Int) (a0_1 : Int) (a0_2 : Int) (a0_3 : ByteArray) (a1_0 : Int) (a1_1 : Int) (a1_2 : Int) (a1_3 : ByteArray) : Option (Bool) := if a0_2 < a1_2 then (some true) else (if a0_2 = a1_2 then (some (decide (a0_0 < a1_0))) else (some false))
set_option maxHeartbeats 8000000 in
set_option maxRecDepth 100000 in
theorem queue_byEnd_1.calls (a0_0 : Int) (a0_1 : Int) (a0_2 : Int) (a0_3 : ByteArray) (a1_0 : Int) (a1_1 : Int) (a1_2 : Int) (a1_3 : ByteArray) (r : Bool) (w : World) (h : queue_byEnd_1.f a0_0 a0_1 a0_2 a0_3 a1_0 a1_1 a1_2 a1_3 = some r) :
    Calls Try.prog 34 #[.agg #[.int .i64 a0_0, .int .i64 a0_1, .int .i64 a0_2, .string a0_3], .agg #[.int .i64 a1_0, .int .i64 a1_1, .int .i64 a1_2, .string a1_3]] w fun e w' => e = .returned (.bool r) ∧ Below w.heap.size w w' := by
  have hu34 := Try.underlying34
  have HB := Aside0.mk (Below.refl w.heap.size w)
  have H : (if a0_2 < a1_2 then (some true) else (if a0_2 = a1_2 then (some (decide (a0_0 < a1_0))) else (some false))) = some r := h
  clear h
  by_cases c3 : a0_2 < a1_2
  · rw [if_pos c3] at H
    have c3b0 : decide (a0_2 < a1_2) = true := decide_eq_true c3
    clear c3
    obtain rfl := Option.some.inj H
    go_enter Try.func34, Try.ntmps34
    go_wp2_with (first | ((with_reducible refine gate_dst (N := 2) rfl ?_); refine box_event ?hg (N := 2) ?hd (cs := #[.int .i64 a0_0, .int .i64 a0_1, .int .i64 a0_2, .string a0_3]) (t := 34) ?hr ?_; (case hd => rfl); (case hg => rfl); (case hr => first | (go_simp; done) | (go_simp; rfl)); intro gb103 hg w4 hbox hb; have n0_ := Aside0.mk (below_step (by repeat (first | (with_reducible first | exact HB.out | apply below_alloc | apply pw_below_drewN | apply below_drew1) | exact HB.out)) hb); have n1_ := Aside0.mk (hbox); have n2_ := Aside0.mk ((by rw [hg]; exact (below_size (by repeat (first | (with_reducible first | exact HB.out | apply below_alloc | apply pw_below_drewN | apply below_drew1) | exact HB.out))) : w.heap.size ≤ gb103)); have n3_ := Aside0.mk ((by rw [hg]; exact (below_size (by repeat (first | (with_reducible first | exact HB.out | apply below_alloc | apply pw_below_drewN | apply below_drew1) | exact HB.out))) : w.heap.size ≤ gb103)); clear HB; have HB := n0_; have BK103 := n1_; have GW103 := n2_; have GE103 := n3_; clear n0_ n1_ n2_ n3_; clear hb hbox hg) | ((with_reducible refine gate_dst (N := 3) rfl ?_); refine box_event ?hg (N := 3) ?hd (cs := #[.int .i64 a1_0, .int .i64 a1_1, .int .i64 a1_2, .string a1_3]) (t := 34) ?hr ?_; (case hd => rfl); (case hg => rfl); (case hr => first | (go_simp; done) | (go_simp; rfl)); intro gb104 hg w5 hbox hb; have n0_ := Aside0.mk (blk_below (g := gb103) (o := .cells #[.int .i64 a0_0, .int .i64 a0_1, .int .i64 a0_2, .string a0_3] 34 (0, 0)) (by (with_reducible repeat (first | refine blk_drewN ?_ _ | refine blk_drew ?_ | refine blk_alloc ?_ _)); exact BK103.out) hb); have n1_ := Aside0.mk (below_step (by repeat (first | (with_reducible first | exact HB.out | apply below_alloc | apply pw_below_drewN | apply below_drew1 | refine below_set ?_ GE103.out) | exact HB.out)) hb); have n2_ := Aside0.mk (hbox); have n3_ := Aside0.mk ((by rw [hg]; exact (below_size (by repeat (first | (with_reducible first | exact HB.out | apply below_alloc | apply pw_below_drewN | apply below_drew1 | refine below_set ?_ GE103.out) | exact HB.out))) : w.heap.size ≤ gb104)); have n4_ := Aside0.mk ((by rw [hg]; exact (below_size (by repeat (first | (with_reducible first | exact HB.out | apply below_alloc | apply pw_below_drewN | apply below_drew1 | refine below_set ?_ GE103.out) | exact HB.out))) : w.heap.size ≤ gb104)); have n5_ := Aside0.mk ((by rw [hg]; exact Nat.ne_of_lt (blk_lt (g := gb103) (o := .cells #[.int .i64 a0_0, .int .i64 a0_1, .int .i64 a0_2, .string a0_3] 34 (0, 0)) (by (with_reducible repeat (first | refine blk_drewN ?_ _ | refine blk_drew ?_ | refine blk_alloc ?_ _)); exact BK103.out)) : gb103 ≠ gb104)); have n6_ := Aside0.mk ((by rw [hg]; exact Nat.ne_of_gt (blk_lt (g := gb103) (o := .cells #[.int .i64 a0_0, .int .i64 a0_1, .int .i64 a0_2, .string a0_3] 34 (0, 0)) (by (with_reducible repeat (first | refine blk_drewN ?_ _ | refine blk_drew ?_ | refine blk_alloc ?_ _)); exact BK103.out)) : gb104 ≠ gb103)); clear BK103; clear HB; have BK103 := n0_; have HB := n1_; have BK104 := n2_; have GW104 := n3_; have GE104 := n4_; have NB103_104 := n5_; have NB104_103 := n6_; clear n0_ n1_ n2_ n3_ n4_ n5_ n6_; clear hb hbox hg; have hnb6 := NB103_104.out; have hnc6 := NB104_103.out; have hcz7_0 : w5.cell? ⟨gb103, 0, none⟩ = some (.int .i64 a0_0) := (blk_cell BK103.out 0).trans rfl; have hcz7_1 : w5.cell? ⟨gb103, 1, none⟩ = some (.int .i64 a0_1) := (blk_cell BK103.out 1).trans rfl; have hcz7_2 : w5.cell? ⟨gb103, 2, none⟩ = some (.int .i64 a0_2) := (blk_cell BK103.out 2).trans rfl; have hcz7_3 : w5.cell? ⟨gb103, 3, none⟩ = some (.string a0_3) := (blk_cell BK103.out 3).trans rfl; have hfz7_0 := blk_frozen BK103.out 0; have hfz7_1 := blk_frozen BK103.out 1; have hfz7_2 := blk_frozen BK103.out 2; have hfz7_3 := blk_frozen BK103.out 3; have hcz8_0 : w5.cell? ⟨gb104, 0, none⟩ = some (.int .i64 a1_0) := (blk_cell BK104.out 0).trans rfl; have hcz8_1 : w5.cell? ⟨gb104, 1, none⟩ = some (.int .i64 a1_1) := (blk_cell BK104.out 1).trans rfl; have hcz8_2 : w5.cell? ⟨gb104, 2, none⟩ = some (.int .i64 a1_2) := (blk_cell BK104.out 2).trans rfl; have hcz8_3 : w5.cell? ⟨gb104, 3, none⟩ = some (.string a1_3) := (blk_cell BK104.out 3).trans rfl; have hfz8_0 := blk_frozen BK104.out 0; have hfz8_1 := blk_frozen BK104.out 1; have hfz8_2 := blk_frozen BK104.out 2; have hfz8_3 := blk_frozen BK104.out 3))
    go_ret
    exact ⟨by first | rfl | (simp [errW_none, errW_some] <;> rfl) | (simp [*, errW_none, errW_some] <;> rfl), by repeat (first | (with_reducible first | exact HB.out | apply below_alloc | apply pw_below_drewN | apply below_drew1 | refine below_set ?_ GE103.out | refine below_set ?_ GE104.out) | exact HB.out)⟩
  · rw [if_neg c3] at H
    have c3b0 : decide (a0_2 < a1_2) = false := decide_eq_false c3
    clear c3
    by_cases c9 : a0_2 = a1_2
    · rw [if_pos c9] at H
      have c9b0 : (a0_2 == a1_2) = true := beq_iff_eq.mpr c9
      have c9b1 : (a0_2 != a1_2) = false := bne_eq_false_iff_eq.mpr c9
      clear c9
      obtain rfl := Option.some.inj H
      go_enter Try.func34, Try.ntmps34
      go_wp2_with (first | ((with_reducible refine gate_dst (N := 2) rfl ?_); refine box_event ?hg (N := 2) ?hd (cs := #[.int .i64 a0_0, .int .i64 a0_1, .int .i64 a0_2, .string a0_3]) (t := 34) ?hr ?_; (case hd => rfl); (case hg => rfl); (case hr => first | (go_simp; done) | (go_simp; rfl)); intro gb103 hg w10 hbox hb; have n0_ := Aside0.mk (below_step (by repeat (first | (with_reducible first | exact HB.out | apply below_alloc | apply pw_below_drewN | apply below_drew1) | exact HB.out)) hb); have n1_ := Aside0.mk (hbox); have n2_ := Aside0.mk ((by rw [hg]; exact (below_size (by repeat (first | (with_reducible first | exact HB.out | apply below_alloc | apply pw_below_drewN | apply below_drew1) | exact HB.out))) : w.heap.size ≤ gb103)); have n3_ := Aside0.mk ((by rw [hg]; exact (below_size (by repeat (first | (with_reducible first | exact HB.out | apply below_alloc | apply pw_below_drewN | apply below_drew1) | exact HB.out))) : w.heap.size ≤ gb103)); clear HB; have HB := n0_; have BK103 := n1_; have GW103 := n2_; have GE103 := n3_; clear n0_ n1_ n2_ n3_; clear hb hbox hg) | ((with_reducible refine gate_dst (N := 3) rfl ?_); refine box_event ?hg (N := 3) ?hd (cs := #[.int .i64 a1_0, .int .i64 a1_1, .int .i64 a1_2, .string a1_3]) (t := 34) ?hr ?_; (case hd => rfl); (case hg => rfl); (case hr => first | (go_simp; done) | (go_simp; rfl)); intro gb104 hg w11 hbox hb; have n0_ := Aside0.mk (blk_below (g := gb103) (o := .cells #[.int .i64 a0_0, .int .i64 a0_1, .int .i64 a0_2, .string a0_3] 34 (0, 0)) (by (with_reducible repeat (first | refine blk_drewN ?_ _ | refine blk_drew ?_ | refine blk_alloc ?_ _)); exact BK103.out) hb); have n1_ := Aside0.mk (below_step (by repeat (first | (with_reducible first | exact HB.out | apply below_alloc | apply pw_below_drewN | apply below_drew1 | refine below_set ?_ GE103.out) | exact HB.out)) hb); have n2_ := Aside0.mk (hbox); have n3_ := Aside0.mk ((by rw [hg]; exact (below_size (by repeat (first | (with_reducible first | exact HB.out | apply below_alloc | apply pw_below_drewN | apply below_drew1 | refine below_set ?_ GE103.out) | exact HB.out))) : w.heap.size ≤ gb104)); have n4_ := Aside0.mk ((by rw [hg]; exact (below_size (by repeat (first | (with_reducible first | exact HB.out | apply below_alloc | apply pw_below_drewN | apply below_drew1 | refine below_set ?_ GE103.out) | exact HB.out))) : w.heap.size ≤ gb104)); have n5_ := Aside0.mk ((by rw [hg]; exact Nat.ne_of_lt (blk_lt (g := gb103) (o := .cells #[.int .i64 a0_0, .int .i64 a0_1, .int .i64 a0_2, .string a0_3] 34 (0, 0)) (by (with_reducible repeat (first | refine blk_drewN ?_ _ | refine blk_drew ?_ | refine blk_alloc ?_ _)); exact BK103.out)) : gb103 ≠ gb104)); have n6_ := Aside0.mk ((by rw [hg]; exact Nat.ne_of_gt (blk_lt (g := gb103) (o := .cells #[.int .i64 a0_0, .int .i64 a0_1, .int .i64 a0_2, .string a0_3] 34 (0, 0)) (by (with_reducible repeat (first | refine blk_drewN ?_ _ | refine blk_drew ?_ | refine blk_alloc ?_ _)); exact BK103.out)) : gb104 ≠ gb103)); clear BK103; clear HB; have BK103 := n0_; have HB := n1_; have BK104 := n2_; have GW104 := n3_; have GE104 := n4_; have NB103_104 := n5_; have NB104_103 := n6_; clear n0_ n1_ n2_ n3_ n4_ n5_ n6_; clear hb hbox hg; have hnb12 := NB103_104.out; have hnc12 := NB104_103.out; have hcz13_0 : w11.cell? ⟨gb103, 0, none⟩ = some (.int .i64 a0_0) := (blk_cell BK103.out 0).trans rfl; have hcz13_1 : w11.cell? ⟨gb103, 1, none⟩ = some (.int .i64 a0_1) := (blk_cell BK103.out 1).trans rfl; have hcz13_2 : w11.cell? ⟨gb103, 2, none⟩ = some (.int .i64 a0_2) := (blk_cell BK103.out 2).trans rfl; have hcz13_3 : w11.cell? ⟨gb103, 3, none⟩ = some (.string a0_3) := (blk_cell BK103.out 3).trans rfl; have hfz13_0 := blk_frozen BK103.out 0; have hfz13_1 := blk_frozen BK103.out 1; have hfz13_2 := blk_frozen BK103.out 2; have hfz13_3 := blk_frozen BK103.out 3; have hcz14_0 : w11.cell? ⟨gb104, 0, none⟩ = some (.int .i64 a1_0) := (blk_cell BK104.out 0).trans rfl; have hcz14_1 : w11.cell? ⟨gb104, 1, none⟩ = some (.int .i64 a1_1) := (blk_cell BK104.out 1).trans rfl; have hcz14_2 : w11.cell? ⟨gb104, 2, none⟩ = some (.int .i64 a1_2) := (blk_cell BK104.out 2).trans rfl; have hcz14_3 : w11.cell? ⟨gb104, 3, none⟩ = some (.string a1_3) := (blk_cell BK104.out 3).trans rfl; have hfz14_0 := blk_frozen BK104.out 0; have hfz14_1 := blk_frozen BK104.out 1; have hfz14_2 := blk_frozen BK104.out 2; have hfz14_3 := blk_frozen BK104.out 3))
      go_ret
      exact ⟨by first | rfl | (simp [errW_none, errW_some] <;> rfl) | (simp [*, errW_none, errW_some] <;> rfl), by repeat (first | (with_reducible first | exact HB.out | apply below_alloc | apply pw_below_drewN | apply below_drew1 | refine below_set ?_ GE103.out | refine below_set ?_ GE104.out) | exact HB.out)⟩
    · rw [if_neg c9] at H
      have c9b0 : (a0_2 == a1_2) = false := beq_eq_false_iff_ne.mpr c9
      have c9b1 : (a0_2 != a1_2) = true := bne_iff_ne.mpr c9
      obtain rfl := Option.some.inj H
      go_enter Try.func34, Try.ntmps34
      go_wp2_with (first | ((with_reducible refine gate_dst (N := 2) rfl ?_); refine box_event ?hg (N := 2) ?hd (cs := #[.int .i64 a0_0, .int .i64 a0_1, .int .i64 a0_2, .string a0_3]) (t := 34) ?hr ?_; (case hd => rfl); (case hg => rfl); (case hr => first | (go_simp; done) | (go_simp; rfl)); intro gb103 hg w15 hbox hb; have n0_ := Aside0.mk (below_step (by repeat (first | (with_reducible first | exact HB.out | apply below_alloc | apply pw_below_drewN | apply below_drew1) | exact HB.out)) hb); have n1_ := Aside0.mk (hbox); have n2_ := Aside0.mk ((by rw [hg]; exact (below_size (by repeat (first | (with_reducible first | exact HB.out | apply below_alloc | apply pw_below_drewN | apply below_drew1) | exact HB.out))) : w.heap.size ≤ gb103)); have n3_ := Aside0.mk ((by rw [hg]; exact (below_size (by repeat (first | (with_reducible first | exact HB.out | apply below_alloc | apply pw_below_drewN | apply below_drew1) | exact HB.out))) : w.heap.size ≤ gb103)); clear HB; have HB := n0_; have BK103 := n1_; have GW103 := n2_; have GE103 := n3_; clear n0_ n1_ n2_ n3_; clear hb hbox hg) | ((with_reducible refine gate_dst (N := 3) rfl ?_); refine box_event ?hg (N := 3) ?hd (cs := #[.int .i64 a1_0, .int .i64 a1_1, .int .i64 a1_2, .string a1_3]) (t := 34) ?hr ?_; (case hd => rfl); (case hg => rfl); (case hr => first | (go_simp; done) | (go_simp; rfl)); intro gb104 hg w16 hbox hb; have n0_ := Aside0.mk (blk_below (g := gb103) (o := .cells #[.int .i64 a0_0, .int .i64 a0_1, .int .i64 a0_2, .string a0_3] 34 (0, 0)) (by (with_reducible repeat (first | refine blk_drewN ?_ _ | refine blk_drew ?_ | refine blk_alloc ?_ _)); exact BK103.out) hb); have n1_ := Aside0.mk (below_step (by repeat (first | (with_reducible first | exact HB.out | apply below_alloc | apply pw_below_drewN | apply below_drew1 | refine below_set ?_ GE103.out) | exact HB.out)) hb); have n2_ := Aside0.mk (hbox); have n3_ := Aside0.mk ((by rw [hg]; exact (below_size (by repeat (first | (with_reducible first | exact HB.out | apply below_alloc | apply pw_below_drewN | apply below_drew1 | refine below_set ?_ GE103.out) | exact HB.out))) : w.heap.size ≤ gb104)); have n4_ := Aside0.mk ((by rw [hg]; exact (below_size (by repeat (first | (with_reducible first | exact HB.out | apply below_alloc | apply pw_below_drewN | apply below_drew1 | refine below_set ?_ GE103.out) | exact HB.out))) : w.heap.size ≤ gb104)); have n5_ := Aside0.mk ((by rw [hg]; exact Nat.ne_of_lt (blk_lt (g := gb103) (o := .cells #[.int .i64 a0_0, .int .i64 a0_1, .int .i64 a0_2, .string a0_3] 34 (0, 0)) (by (with_reducible repeat (first | refine blk_drewN ?_ _ | refine blk_drew ?_ | refine blk_alloc ?_ _)); exact BK103.out)) : gb103 ≠ gb104)); have n6_ := Aside0.mk ((by rw [hg]; exact Nat.ne_of_gt (blk_lt (g := gb103) (o := .cells #[.int .i64 a0_0, .int .i64 a0_1, .int .i64 a0_2, .string a0_3] 34 (0, 0)) (by (with_reducible repeat (first | refine blk_drewN ?_ _ | refine blk_drew ?_ | refine blk_alloc ?_ _)); exact BK103.out)) : gb104 ≠ gb103)); clear BK103; clear HB; have BK103 := n0_; have HB := n1_; have BK104 := n2_; have GW104 := n3_; have GE104 := n4_; have NB103_104 := n5_; have NB104_103 := n6_; clear n0_ n1_ n2_ n3_ n4_ n5_ n6_; clear hb hbox hg; have hnb17 := NB103_104.out; have hnc17 := NB104_103.out; have hcz18_0 : w16.cell? ⟨gb103, 0, none⟩ = some (.int .i64 a0_0) := (blk_cell BK103.out 0).trans rfl; have hcz18_1 : w16.cell? ⟨gb103, 1, none⟩ = some (.int .i64 a0_1) := (blk_cell BK103.out 1).trans rfl; have hcz18_2 : w16.cell? ⟨gb103, 2, none⟩ = some (.int .i64 a0_2) := (blk_cell BK103.out 2).trans rfl; have hcz18_3 : w16.cell? ⟨gb103, 3, none⟩ = some (.string a0_3) := (blk_cell BK103.out 3).trans rfl; have hfz18_0 := blk_frozen BK103.out 0; have hfz18_1 := blk_frozen BK103.out 1; have hfz18_2 := blk_frozen BK103.out 2; have hfz18_3 := blk_frozen BK103.out 3; have hcz19_0 : w16.cell? ⟨gb104, 0, none⟩ = some (.int .i64 a1_0) := (blk_cell BK104.out 0).trans rfl; have hcz19_1 : w16.cell? ⟨gb104, 1, none⟩ = some (.int .i64 a1_1) := (blk_cell BK104.out 1).trans rfl; have hcz19_2 : w16.cell? ⟨gb104, 2, none⟩ = some (.int .i64 a1_2) := (blk_cell BK104.out 2).trans rfl; have hcz19_3 : w16.cell? ⟨gb104, 3, none⟩ = some (.string a1_3) := (blk_cell BK104.out 3).trans rfl; have hfz19_0 := blk_frozen BK104.out 0; have hfz19_1 := blk_frozen BK104.out 1; have hfz19_2 := blk_frozen BK104.out 2; have hfz19_3 := blk_frozen BK104.out 3))
      go_ret
      exact ⟨by first | rfl | (simp [errW_none, errW_some] <;> rfl) | (simp [*, errW_none, errW_some] <;> rfl), by repeat (first | (with_reducible first | exact HB.out | apply below_alloc | apply pw_below_drewN | apply below_drew1 | refine below_set ?_ GE103.out | refine below_set ?_ GE104.out) | exact HB.out)⟩

/-! ### queue_byEnd: function 21 -/
/-- What sorts by ends: always the same function. -/
def queue_byEnd.f : Option (Unit) := some ()
set_option maxHeartbeats 4000000 in
set_option maxRecDepth 100000 in
theorem queue_byEnd.calls (r : Unit) (w : World) (h : queue_byEnd.f = some r) :
    Calls Try.prog 21 #[] w fun (e : Ending) (w' : World) => e = .returned (.agg #[.func (.func 34) #[] #[]]) ∧ Below w.heap.size w w' := by
  go_enter Try.func21, Try.ntmps21
  go_wp2_with (first | ((with_reducible refine gate_dst (N := 0) rfl ?_); refine box_event ?hg (N := 0) ?hd (cs := #[.nilFunc]) (t := 40) ?hr ?_; (case hd => rfl); (case hg => rfl); (case hr => first | (go_simp; done) | (go_simp; rfl)); intro gb hg w1 hbox hb; have BK := Aside0.mk hbox; have HB := Aside0.mk hb; have hG := Aside0.mk hg; have hcz : w1.cell? ⟨gb, 0, none⟩ = some .nilFunc := (blk_cell hbox 0).trans rfl; have hfz := blk_frozen hbox 0; clear hbox hb hg))
  refine bodyPost_ret (results_cell_row rfl _ _ gb 40 #[.func (.func 34) #[] #[]] (0, 0) _ rfl (by refine blk_put (cs := #[.nilFunc]) ?_ 0 _ rfl; exact BK.out) Try.underlying40 rfl (by kernel_rfl)) rfl ?_
  exact ⟨rfl, below_set HB.out (by rw [hG.out]; exact Nat.le_refl _)⟩

/-! ### queue_sorter_sorted: function 22 -/
mutual
def queue_sorter_sorted.l0 : Nat → List (S34) → List (S34) → Int → Int → Option ((List (S34)))
  | 0, _, _, _, _ => none
  | k + 1, x5, x11, x12, x13 => if x13 < x12 then (if 0 ≤ x13 then (if x13 < (x11.length : Int) then (queue_sorter_sorted.l1 k x5 x11 x12 x13 (x5.length : Int) 0 ((rd_T34 x11 x13).f0) ((rd_T34 x11 x13).f1) ((rd_T34 x11 x13).f2) ((rd_T34 x11 x13).f3)) else (none)) else (none)) else (some x5)
def queue_sorter_sorted.l1 : Nat → List (S34) → List (S34) → Int → Int → Int → Int → Int → Int → Int → ByteArray → Option ((List (S34)))
  | 0, _, _, _, _, _, _, _, _, _, _ => none
  | k + 1, x5, x11, x12, x13, x18, x19, x108000, x108001, x108002, x108003 => if x19 < x18 then (if 0 ≤ x19 then (if x19 < (x5.length : Int) then ((queue_byEnd_1.f x108000 x108001 x108002 x108003 ((rd_T34 x5 x19).f0) ((rd_T34 x5 x19).f1) ((rd_T34 x5 x19).f2) ((rd_T34 x5 x19).f3)).bind fun t110 => (if t110 = true then ((some (([] : List (S34)) : List (S34))).bind fun y111 => (if x19 ≤ (x5.length : Int) then ((some (x5.drop (x19 : Int).toNat : List (S34))).bind fun y114 => (if y111.length + y114.length < 3518437208883 then ((some (y111 ++ y114 : List (S34))).bind fun y118 => ((some (x5.take (x19 : Int).toNat : List (S34))).bind fun y121 => (if y121.length < 3518437208883 then ((some (y121 ++ [(⟨x108000, x108001, x108002, x108003⟩ : S34)] : List (S34))).bind fun y125 => (if y125.length + y118.length < 3518437208883 then (queue_sorter_sorted.l0 k (y125 ++ y118) x11 x12 (wrap64 (x13 + 1))) else (none))) else (none)))) else (none))) else (none))) else (queue_sorter_sorted.l1 k x5 x11 x12 x13 x18 (wrap64 (x19 + 1)) x108000 x108001 x108002 x108003))) else (none)) else (none)) else (if x5.length < 3518437208883 then (queue_sorter_sorted.l0 k (x5 ++ [(⟨x108000, x108001, x108002, x108003⟩ : S34)]) x11 x12 (wrap64 (x13 + 1))) else (none))
end
def queue_sorter_sorted.f (k : Nat) (a0_0 : Unit) (l1 : List (S34)) : Option ((List (S34))) := queue_sorter_sorted.l0 k ([] : List (S34)) l1 (l1.length : Int) 0
theorem queue_sorter_sorted.mono_l : ∀ k, (∀ y0 y1 y2 y3, LeO (queue_sorter_sorted.l0 k y0 y1 y2 y3) (queue_sorter_sorted.l0 (k + 1) y0 y1 y2 y3)) ∧ (∀ y0 y1 y2 y3 y4 y5 y6 y7 y8 y9, LeO (queue_sorter_sorted.l1 k y0 y1 y2 y3 y4 y5 y6 y7 y8 y9) (queue_sorter_sorted.l1 (k + 1) y0 y1 y2 y3 y4 y5 y6 y7 y8 y9))
  | 0 => ⟨fun _ _ _ _ r h => by simp [queue_sorter_sorted.l0] at h, fun _ _ _ _ _ _ _ _ _ _ r h => by simp [queue_sorter_sorted.l1] at h⟩
  | k + 1 => by
    obtain ⟨ih0, ih1⟩ := queue_sorter_sorted.mono_l k
    refine ⟨?_, ?_⟩
    · intro y0 y1 y2 y3
      unfold queue_sorter_sorted.l0
      repeat' first
      | (with_reducible exact ih0 _ _ _ _)
      | (with_reducible exact ih1 _ _ _ _ _ _ _ _ _ _)
      | (with_reducible exact LeO.refl _)
      | (with_reducible exact LeO.none _)
      | (with_reducible refine LeO.ite ?_ ?_)
      | (with_reducible refine LeO.bind ?_ (fun _ => ?_))
      | exact ih0 _ _ _ _
      | exact ih1 _ _ _ _ _ _ _ _ _ _
      | exact LeO.none _
      | refine LeO.ite ?_ ?_
      | refine LeO.bind ?_ (fun _ => ?_)
    · intro y0 y1 y2 y3 y4 y5 y6 y7 y8 y9
      unfold queue_sorter_sorted.l1
      repeat' first
      | (with_reducible exact ih0 _ _ _ _)
      | (with_reducible exact ih1 _ _ _ _ _ _ _ _ _ _)
      | (with_reducible exact LeO.refl _)
      | (with_reducible exact LeO.none _)
      | (with_reducible refine LeO.ite ?_ ?_)
      | (with_reducible refine LeO.bind ?_ (fun _ => ?_))
      | exact ih0 _ _ _ _
      | exact ih1 _ _ _ _ _ _ _ _ _ _
      | exact LeO.none _
      | refine LeO.ite ?_ ?_
      | refine LeO.bind ?_ (fun _ => ?_)
theorem queue_sorter_sorted.mono : ∀ a0 a1 k, LeO (queue_sorter_sorted.f k a0 a1) (queue_sorter_sorted.f (k + 1) a0 a1) := by
  intro a0 a1 k
  obtain ⟨ih0, ih1⟩ := queue_sorter_sorted.mono_l k
  unfold queue_sorter_sorted.f
  repeat' first
      | (with_reducible exact ih0 _ _ _ _)
      | (with_reducible exact ih1 _ _ _ _ _ _ _ _ _ _)
      | (with_reducible exact LeO.refl _)
      | (with_reducible exact LeO.none _)
      | (with_reducible refine LeO.ite ?_ ?_)
      | (with_reducible refine LeO.bind ?_ (fun _ => ?_))
      | exact ih0 _ _ _ _
      | exact ih1 _ _ _ _ _ _ _ _ _ _
      | exact LeO.none _
      | refine LeO.ite ?_ ?_
      | refine LeO.bind ?_ (fun _ => ?_)
def queue_sorter_sorted.T10 : Bool × List (List Nat × List Nat) := (true, [([], []), ([], []), ([], []), ([0, 1, 2], [0, 1, 2]), ([], []), ([4], [4]), ([3, 5], [3, 5]), ([], []), ([6, 7, 6], [6, 7]), ([8, 8, 0, 1, 2, 3, 4, 5, 6, 7, 8], [0, 8])])
def queue_sorter_sorted.B10 : List Nat := [0, 0, 0, 7, 0, 16, 63, 0, 255, 511]
theorem queue_sorter_sorted.tab10 : rtab .any (opsOf Try.f22 10) = queue_sorter_sorted.T10 := by kernel_rfl
theorem queue_sorter_sorted.bits10 : waitsOk queue_sorter_sorted.T10.2 queue_sorter_sorted.B10 = true := by kernel_rfl
set_option maxHeartbeats 8000000 in
set_option maxRecDepth 100000 in
theorem queue_sorter_sorted.calls (k : Nat) (a0_0 : Unit) (A1 : Option Addr) (c1 : Nat) (l1 : List (S34)) (r : List (S34)) (w : World) (hr1 : Kd.C k34 w A1 l1.length l1) (hc1 : l1.length ≤ c1) (h : queue_sorter_sorted.f k a0_0 l1 = some r) :
    Calls Try.prog 22 #[.agg #[.func (.func 34) #[] #[]], .slice A1 l1.length c1] w fun e w' => ∃ v0_ : Value, e = .returned (v0_) ∧ Kd.R k34 34 w' w.heap.size (fun _ => True) v0_ r ∧ Below w.heap.size w w' := by
  have hu40 := Try.underlying40
  have hu34 := Try.underlying34
  have HR1 := Aside0.mk hr1
  have HC1 := Aside0.mk hc1
  clear hr1 hc1
  have HB := Aside0.mk (Below.refl w.heap.size w)
  have H : (queue_sorter_sorted.l0 k ([] : List (S34)) l1 (l1.length : Int) 0) = some r := h
  clear h
  have H' := Aside0.mk H
  clear H
  go_enter Try.func22, Try.ntmps22
  (try go_wp2_with (first | ((with_reducible refine gate_dst (N := 2) rfl ?_); refine box_event ?hg (N := 2) ?hd (cs := #[.func (.func 34) #[] #[]]) (t := 40) ?hr ?_; (case hd => rfl); (case hg => rfl); (case hr => first | (go_simp; done) | (go_simp; rfl)); intro gb105 hg w3 hbox hb; have n0_ := Aside0.mk (below_step (by repeat (first | (with_reducible first | exact HB.out | apply below_alloc | apply pw_below_drewN | apply below_drew1) | exact HB.out)) hb); have n1_ := Aside0.mk (hbox); have n2_ := Aside0.mk ((by rw [hg]; exact (below_size (by repeat (first | (with_reducible first | exact HB.out | apply below_alloc | apply pw_below_drewN | apply below_drew1) | exact HB.out))) : w.heap.size ≤ gb105)); have n3_ := Aside0.mk ((by rw [hg]; exact (below_size (by repeat (first | (with_reducible first | exact HB.out | apply below_alloc | apply pw_below_drewN | apply below_drew1) | exact HB.out))) : w.heap.size ≤ gb105)); clear HB; have HB := n0_; have BK105 := n1_; have GW105 := n2_; have GE105 := n3_; clear n0_ n1_ n2_ n3_; clear hb hbox hg)))
  go_step3
  (try go_wp2_with (first | ((with_reducible refine gate_dst (N := 2) rfl ?_); refine box_event ?hg (N := 2) ?hd (cs := #[.func (.func 34) #[] #[]]) (t := 40) ?hr ?_; (case hd => rfl); (case hg => rfl); (case hr => first | (go_simp; done) | (go_simp; rfl)); intro gb105 hg w3 hbox hb; have n0_ := Aside0.mk (below_step (by repeat (first | (with_reducible first | exact HB.out | apply below_alloc | apply pw_below_drewN | apply below_drew1) | exact HB.out)) hb); have n1_ := Aside0.mk (hbox); have n2_ := Aside0.mk ((by rw [hg]; exact (below_size (by repeat (first | (with_reducible first | exact HB.out | apply below_alloc | apply pw_below_drewN | apply below_drew1) | exact HB.out))) : w.heap.size ≤ gb105)); have n3_ := Aside0.mk ((by rw [hg]; exact (below_size (by repeat (first | (with_reducible first | exact HB.out | apply below_alloc | apply pw_below_drewN | apply below_drew1) | exact HB.out))) : w.heap.size ≤ gb105)); clear HB; have HB := n0_; have BK105 := n1_; have GW105 := n2_; have GE105 := n3_; clear n0_ n1_ n2_ n3_; clear hb hbox hg)))
  (try go_step3)
  (try go_wp2_with (first | ((with_reducible refine gate_dst (N := 2) rfl ?_); refine box_event ?hg (N := 2) ?hd (cs := #[.func (.func 34) #[] #[]]) (t := 40) ?hr ?_; (case hd => rfl); (case hg => rfl); (case hr => first | (go_simp; done) | (go_simp; rfl)); intro gb105 hg w3 hbox hb; have n0_ := Aside0.mk (below_step (by repeat (first | (with_reducible first | exact HB.out | apply below_alloc | apply pw_below_drewN | apply below_drew1) | exact HB.out)) hb); have n1_ := Aside0.mk (hbox); have n2_ := Aside0.mk ((by rw [hg]; exact (below_size (by repeat (first | (with_reducible first | exact HB.out | apply below_alloc | apply pw_below_drewN | apply below_drew1) | exact HB.out))) : w.heap.size ≤ gb105)); have n3_ := Aside0.mk ((by rw [hg]; exact (below_size (by repeat (first | (with_reducible first | exact HB.out | apply below_alloc | apply pw_below_drewN | apply below_drew1) | exact HB.out))) : w.heap.size ≤ gb105)); clear HB; have HB := n0_; have BK105 := n1_; have GW105 := n2_; have GE105 := n3_; clear n0_ n1_ n2_ n3_; clear hb hbox hg)))
  go_loopg [5, 13] k (fun kq v5 v13 w' => ∃ (x5_1 : List (S34)) (x13_1 : Int), v13 = .int .i64 x13_1 ∧ Aside0 (queue_sorter_sorted.l0 kq x5_1 l1 (l1.length : Int) x13_1 = some r) ∧ Aside0 (kq ≤ k) ∧ Aside0 (Kd.R k34 34 w' w.heap.size (fun _ => True) v5 x5_1) ∧ Aside0 (w'.heap[gb105]? = some (.cells #[.func (.func 34) #[] #[]] 40 (0, 0))) ∧ Aside0 (Below w.heap.size w w'))
  case atStart => exact ⟨(([] : List (S34))), (0), (by first | rfl | (simp; done) | (simp [*]; done)), H', ⟨Nat.le_refl _⟩, ⟨by first | exact Kd.R_nil _ _ _ _ _ | exact Kd.N_nil _ _ _ _ _ | exact Kd.V_nil _ _ _ _ _ | exact Kd.Q_nil _ _ _ _ _ | exact Kd.S_nil _ _ _ _ _⟩, ⟨by (with_reducible repeat (first | refine blk_drewN ?_ _ | refine blk_drew ?_ | refine blk_alloc ?_ _)); exact BK105.out⟩, ⟨by repeat (first | (with_reducible first | exact HB.out | apply below_alloc | apply pw_below_drewN | apply below_drew1 | refine below_set ?_ GE105.out) | exact HB.out)⟩⟩
  case round =>
    clear H'
    try clear c1
    try clear c2
    try clear p2
    obtain ⟨x5_1, x13_1, rfl, HA, HK1, HO_5, BK105, HB⟩ := hrel
    cases gk with
    | zero => exact absurd HA.out (by simp [queue_sorter_sorted.l0])
    | succ k1 =>
      have H := HA.out
      clear HA
      simp only [queue_sorter_sorted.l0] at H
      by_cases c4 : x13_1 < (l1.length : Int)
      · rw [if_pos c4] at H
        have c4b0 : decide (x13_1 < (l1.length : Int)) = true := decide_eq_true c4
        clear c4
        by_cases c5 : 0 ≤ x13_1
        · rw [if_pos c5] at H
          have c5b0 : decide (0 ≤ x13_1) = true := decide_eq_true c5
          clear c5
          by_cases c6 : x13_1 < (l1.length : Int)
          · rw [if_pos c6] at H
            have c6b0 : decide (x13_1 < (l1.length : Int)) = true := decide_eq_true c6
            clear c6
            have H' := Aside0.mk H
            clear H
            have p106 : 0 ≤ (x13_1 : Int) := of_decide_eq_true (by first | (with_reducible assumption) | assumption)
            have q106 : x13_1 < (l1.length : Int) := of_decide_eq_true (by first | (with_reducible assumption) | assumption)
            obtain ⟨ad106, e106, hx106_0, hx106_1, hx106_2, hx106_3⟩ := at_T34 HR1.out x13_1 p106 q106
            cases e106
            replace hx106_0 := (HB.out.cell (World.block_lt_of_cell? w _ hx106_0)).trans hx106_0
            replace hx106_1 := (HB.out.cell (World.block_lt_of_cell? w _ hx106_1)).trans hx106_1
            replace hx106_2 := (HB.out.cell (World.block_lt_of_cell? w _ hx106_2)).trans hx106_2
            replace hx106_3 := (HB.out.cell (World.block_lt_of_cell? w _ hx106_3)).trans hx106_3
            replace p106 := eq_true p106
            replace q106 := eq_true q106
            go_wp2_with (first | ((with_reducible refine gate_dst (N := 7) rfl ?_); refine box_event ?hg (N := 7) ?hd (cs := #[.int .i64 0, .int .i64 0, .int .i64 0, .string (⟨#[]⟩ : ByteArray)]) (t := 34) ?hr ?_; (case hd => rfl); (case hg => rfl); (case hr => first | (go_simp; done) | (go_simp; rfl)); intro gb107 hg w7 hbox hb; have n0_ := Aside0.mk (Kd.R_below (Kd.R_elderB (by (with_reducible repeat (first | apply Kd.R_alloc | apply Kd.R_drewN | apply Kd.R_drew)); exact HO_5.out) gb107 (Nat.le_of_eq hg.symm)) hb); have n1_ := Aside0.mk (blk_below (g := gb105) (o := .cells #[.func (.func 34) #[] #[]] 40 (0, 0)) (by (with_reducible repeat (first | refine blk_drewN ?_ _ | refine blk_drew ?_ | refine blk_alloc ?_ _)); exact BK105.out) hb); have n2_ := Aside0.mk (below_step (by repeat (first | (with_reducible first | exact HB.out | apply below_alloc | apply pw_below_drewN | apply below_drew1 | refine below_set ?_ GE105.out) | exact HB.out)) hb); have n3_ := Aside0.mk (hbox); have n4_ := Aside0.mk ((by rw [hg]; exact (below_size (by repeat (first | (with_reducible first | exact HB.out | apply below_alloc | apply pw_below_drewN | apply below_drew1 | refine below_set ?_ GE105.out) | exact HB.out))) : w.heap.size ≤ gb107)); have n5_ := Aside0.mk ((by rw [hg]; exact (below_size (by repeat (first | (with_reducible first | exact HB.out | apply below_alloc | apply pw_below_drewN | apply below_drew1 | refine below_set ?_ GE105.out) | exact HB.out))) : w.heap.size ≤ gb107)); have n6_ := Aside0.mk ((by rw [hg]; exact Nat.ne_of_lt (blk_lt (g := gb105) (o := .cells #[.func (.func 34) #[] #[]] 40 (0, 0)) (by (with_reducible repeat (first | refine blk_drewN ?_ _ | refine blk_drew ?_ | refine blk_alloc ?_ _)); exact BK105.out)) : gb105 ≠ gb107)); have n7_ := Aside0.mk ((by rw [hg]; exact Nat.ne_of_gt (blk_lt (g := gb105) (o := .cells #[.func (.func 34) #[] #[]] 40 (0, 0)) (by (with_reducible repeat (first | refine blk_drewN ?_ _ | refine blk_drew ?_ | refine blk_alloc ?_ _)); exact BK105.out)) : gb107 ≠ gb105)); clear HO_5; clear BK105; clear HB; have HO_5 := n0_; have BK105 := n1_; have HB := n2_; have BK107 := n3_; have GW107 := n4_; have GE107 := n5_; have NB105_107 := n6_; have NB107_105 := n7_; clear n0_ n1_ n2_ n3_ n4_ n5_ n6_ n7_; clear hb hbox hg; have hnb8 := NB107_105.out; have hnc8 := NB105_107.out; have hcz9_0 : w7.cell? ⟨gb107, 0, none⟩ = some (.int .i64 0) := (blk_cell BK107.out 0).trans rfl; have hcz9_1 : w7.cell? ⟨gb107, 1, none⟩ = some (.int .i64 0) := (blk_cell BK107.out 1).trans rfl; have hcz9_2 : w7.cell? ⟨gb107, 2, none⟩ = some (.int .i64 0) := (blk_cell BK107.out 2).trans rfl; have hcz9_3 : w7.cell? ⟨gb107, 3, none⟩ = some (.string (⟨#[]⟩ : ByteArray)) := (blk_cell BK107.out 3).trans rfl; have hfz9_0 := blk_frozen BK107.out 0; have hfz9_1 := blk_frozen BK107.out 1; have hfz9_2 := blk_frozen BK107.out 2; have hfz9_3 := blk_frozen BK107.out 3; obtain ⟨Ao10, co10, eo10⟩ := Kd.R_slice HO_5.out; subst eo10))
            go_loopg [5, 19] k1 (fun kq v5 v19 w' => ∃ (x19_2 : Int), v19 = .int .i64 x19_2 ∧ v5 = .slice Ao10 x5_1.length co10 ∧ Aside0 (queue_sorter_sorted.l1 kq x5_1 l1 (l1.length : Int) x13_1 (x5_1.length : Int) x19_2 ((rd_T34 l1 x13_1).f0) ((rd_T34 l1 x13_1).f1) ((rd_T34 l1 x13_1).f2) ((rd_T34 l1 x13_1).f3) = some r) ∧ Aside0 (kq ≤ k1) ∧ Aside0 (Kd.R k34 34 w' w.heap.size (fun k_ => k_ ≠ gb107) (.slice Ao10 x5_1.length co10) x5_1) ∧ Aside0 (w'.heap[gb105]? = some (.cells #[.func (.func 34) #[] #[]] 40 (0, 0))) ∧ Aside0 (w'.heap[gb107]? = some (.cells #[.int .i64 ((rd_T34 l1 x13_1).f0), .int .i64 ((rd_T34 l1 x13_1).f1), .int .i64 ((rd_T34 l1 x13_1).f2), .string ((rd_T34 l1 x13_1).f3)] 34 (0, 0))) ∧ Aside0 (Below w.heap.size w w'))
            case atStart => exact ⟨(0), (by first | rfl | (simp; done) | (simp [*]; done)), (by first | rfl | (simp; done) | (simp [*]; done)), H', ⟨Nat.le_refl _⟩, ⟨by (with_reducible repeat (first | apply Kd.R_alloc | apply Kd.R_drewN | apply Kd.R_drew)); exact Kd.R_mono (Kd.R_far (p := ⟨gb107, 3, none⟩) (Kd.R_far (p := ⟨gb107, 2, none⟩) (Kd.R_far (p := ⟨gb107, 1, none⟩) (Kd.R_far (p := ⟨gb107, 0, none⟩) (Kd.R_mono HO_5.out (fun k_ hk => (⟨hk, hk.2⟩ : _ ∧ k_ ≠ gb107))) (fun _ hk => hk.2) (.int .i64 ((rd_T34 l1 x13_1).f0))) (fun _ hk => hk.2) (.int .i64 ((rd_T34 l1 x13_1).f1))) (fun _ hk => hk.2) (.int .i64 ((rd_T34 l1 x13_1).f2))) (fun _ hk => hk.2) (.string ((rd_T34 l1 x13_1).f3))) (fun _ hk => hk.1.2)⟩, ⟨by (with_reducible repeat (first | refine blk_drewN ?_ _ | refine blk_drew ?_ | refine blk_alloc ?_ _)); refine blk_far ?_ NB105_107.out _; (with_reducible repeat (first | refine blk_drewN ?_ _ | refine blk_drew ?_ | refine blk_alloc ?_ _)); refine blk_far ?_ NB105_107.out _; (with_reducible repeat (first | refine blk_drewN ?_ _ | refine blk_drew ?_ | refine blk_alloc ?_ _)); refine blk_far ?_ NB105_107.out _; (with_reducible repeat (first | refine blk_drewN ?_ _ | refine blk_drew ?_ | refine blk_alloc ?_ _)); refine blk_far ?_ NB105_107.out _; (with_reducible repeat (first | refine blk_drewN ?_ _ | refine blk_drew ?_ | refine blk_alloc ?_ _)); exact BK105.out⟩, ⟨by (with_reducible repeat (first | refine blk_drewN ?_ _ | refine blk_drew ?_ | refine blk_alloc ?_ _)); refine blk_put (cs := #[.int .i64 ((rd_T34 l1 x13_1).f0), .int .i64 ((rd_T34 l1 x13_1).f1), .int .i64 ((rd_T34 l1 x13_1).f2), .string (⟨#[]⟩ : ByteArray)]) ?_ 3 _ rfl; (with_reducible repeat (first | refine blk_drewN ?_ _ | refine blk_drew ?_ | refine blk_alloc ?_ _)); refine blk_put (cs := #[.int .i64 ((rd_T34 l1 x13_1).f0), .int .i64 ((rd_T34 l1 x13_1).f1), .int .i64 0, .string (⟨#[]⟩ : ByteArray)]) ?_ 2 _ rfl; (with_reducible repeat (first | refine blk_drewN ?_ _ | refine blk_drew ?_ | refine blk_alloc ?_ _)); refine blk_put (cs := #[.int .i64 ((rd_T34 l1 x13_1).f0), .int .i64 0, .int .i64 0, .string (⟨#[]⟩ : ByteArray)]) ?_ 1 _ rfl; (with_reducible repeat (first | refine blk_drewN ?_ _ | refine blk_drew ?_ | refine blk_alloc ?_ _)); refine blk_put (cs := #[.int .i64 0, .int .i64 0, .int .i64 0, .string (⟨#[]⟩ : ByteArray)]) ?_ 0 _ rfl; (with_reducible repeat (first | refine blk_drewN ?_ _ | refine blk_drew ?_ | refine blk_alloc ?_ _)); exact BK107.out⟩, ⟨by repeat (first | (with_reducible first | exact HB.out | apply below_alloc | apply pw_below_drewN | apply below_drew1 | refine below_set ?_ GE105.out | refine below_set ?_ GE107.out) | exact HB.out)⟩⟩
            case round =>
              clear H'
              try clear c1
              try clear p1
              try clear q1
              try clear hx1
              try clear c2
              try clear p2
              try clear c4
              try clear c4b0
              try clear c5
              try clear c5b0
              try clear c6
              try clear c6b0
              try clear c8
              try clear p10
              try clear q10
              try clear hx10
              try clear hcz9_0
              try clear hcz9_1
              try clear hcz9_2
              try clear hcz9_3
              try clear hfz9_0
              try clear hfz9_1
              try clear hfz9_2
              try clear hfz9_3
              try clear hx106_0
              try clear hx106_1
              try clear hx106_2
              try clear hx106_3
              try clear p106
              try clear p2
              try clear q106
              obtain ⟨x19_2, rfl, rfl, HA, HK2, HO_5, BK105, BK107, HB⟩ := hrel
              cases gk with
              | zero => exact absurd HA.out (by simp [queue_sorter_sorted.l1])
              | succ k2 =>
                have H := HA.out
                clear HA
                simp only [queue_sorter_sorted.l1] at H
                by_cases c11 : x19_2 < (x5_1.length : Int)
                · rw [if_pos c11] at H
                  have c11b0 : decide (x19_2 < (x5_1.length : Int)) = true := decide_eq_true c11
                  clear c11
                  by_cases c12 : 0 ≤ x19_2
                  · rw [if_pos c12] at H
                    have c12b0 : decide (0 ≤ x19_2) = true := decide_eq_true c12
                    clear c12
                    by_cases c13 : x19_2 < (x5_1.length : Int)
                    · rw [if_pos c13] at H
                      have c13b0 : decide (x19_2 < (x5_1.length : Int)) = true := decide_eq_true c13
                      clear c13
                      replace H := Option.bind_eq_some_iff.mp H
                      obtain ⟨t110, A140, H⟩ := H
                      replace H : (if t110 = true then ((some (([] : List (S34)) : List (S34))).bind fun y111 => (if x19_2 ≤ (x5_1.length : Int) then ((some (x5_1.drop (x19_2 : Int).toNat : List (S34))).bind fun y114 => (if y111.length + y114.length < 3518437208883 then ((some (y111 ++ y114 : List (S34))).bind fun y118 => ((some (x5_1.take (x19_2 : Int).toNat : List (S34))).bind fun y121 => (if y121.length < 3518437208883 then ((some (y121 ++ [(⟨((rd_T34 l1 x13_1).f0), ((rd_T34 l1 x13_1).f1), ((rd_T34 l1 x13_1).f2), ((rd_T34 l1 x13_1).f3)⟩ : S34)] : List (S34))).bind fun y125 => (if y125.length + y118.length < 3518437208883 then (queue_sorter_sorted.l0 k2 (y125 ++ y118) l1 (l1.length : Int) (wrap64 (x13_1 + 1))) else (none))) else (none)))) else (none))) else (none))) else (queue_sorter_sorted.l1 k2 x5_1 l1 (l1.length : Int) x13_1 (x5_1.length : Int) (wrap64 (x19_2 + 1)) ((rd_T34 l1 x13_1).f0) ((rd_T34 l1 x13_1).f1) ((rd_T34 l1 x13_1).f2) ((rd_T34 l1 x13_1).f3))) = some r := H
                      have A14 := Aside0.mk A140
                      clear A140
                      by_cases c15 : t110 = true
                      · subst c15
                        have H1 : ((some (([] : List (S34)) : List (S34))).bind fun y111 => (if x19_2 ≤ (x5_1.length : Int) then ((some (x5_1.drop (x19_2 : Int).toNat : List (S34))).bind fun y114 => (if y111.length + y114.length < 3518437208883 then ((some (y111 ++ y114 : List (S34))).bind fun y118 => ((some (x5_1.take (x19_2 : Int).toNat : List (S34))).bind fun y121 => (if y121.length < 3518437208883 then ((some (y121 ++ [(⟨((rd_T34 l1 x13_1).f0), ((rd_T34 l1 x13_1).f1), ((rd_T34 l1 x13_1).f2), ((rd_T34 l1 x13_1).f3)⟩ : S34)] : List (S34))).bind fun y125 => (if y125.length + y118.length < 3518437208883 then (queue_sorter_sorted.l0 k2 (y125 ++ y118) l1 (l1.length : Int) (wrap64 (x13_1 + 1))) else (none))) else (none)))) else (none))) else (none))) = some r := by rw [if_pos rfl] at H; exact H
                        clear H
                        have H := H1
                        clear H1
                        obtain ⟨y111, hy111⟩ : ∃ y_ : List (S34), y_ = (([] : List (S34))) := ⟨_, rfl⟩
                        replace H : (if x19_2 ≤ (x5_1.length : Int) then ((some (x5_1.drop (x19_2 : Int).toNat : List (S34))).bind fun y114 => (if y111.length + y114.length < 3518437208883 then ((some (y111 ++ y114 : List (S34))).bind fun y118 => ((some (x5_1.take (x19_2 : Int).toNat : List (S34))).bind fun y121 => (if y121.length < 3518437208883 then ((some (y121 ++ [(⟨((rd_T34 l1 x13_1).f0), ((rd_T34 l1 x13_1).f1), ((rd_T34 l1 x13_1).f2), ((rd_T34 l1 x13_1).f3)⟩ : S34)] : List (S34))).bind fun y125 => (if y125.length + y118.length < 3518437208883 then (queue_sorter_sorted.l0 k2 (y125 ++ y118) l1 (l1.length : Int) (wrap64 (x13_1 + 1))) else (none))) else (none)))) else (none))) else (none)) = some r := by first | (rw [hy111]; with_reducible exact H) | (have H2_ := (Option.bind_some _ _).symm.trans H; rw [hy111]; with_reducible exact H2_) | (have H2_ := (Option.bind_some _ _).symm.trans H; with_reducible exact H2_) | with_reducible exact H | (rw [hy111]; exact H) | exact H
                        have Ny111 := Aside0.mk hy111
                        clear hy111
                        have c16b0 := eq_true (of_decide_eq_true (by first | (with_reducible assumption) | assumption) : 0 ≤ x19_2)
                        by_cases c17 : x19_2 ≤ (x5_1.length : Int)
                        · rw [if_pos c17] at H
                          have c17b0 := eq_true c17
                          have c17b1 : decide (x19_2 ≤ (x5_1.length : Int)) = true := decide_eq_true c17
                          clear c17
                          obtain ⟨y114, hy114⟩ : ∃ y_ : List (S34), y_ = (x5_1.drop (x19_2 : Int).toNat) := ⟨_, rfl⟩
                          replace H : (if y111.length + y114.length < 3518437208883 then ((some (y111 ++ y114 : List (S34))).bind fun y118 => ((some (x5_1.take (x19_2 : Int).toNat : List (S34))).bind fun y121 => (if y121.length < 3518437208883 then ((some (y121 ++ [(⟨((rd_T34 l1 x13_1).f0), ((rd_T34 l1 x13_1).f1), ((rd_T34 l1 x13_1).f2), ((rd_T34 l1 x13_1).f3)⟩ : S34)] : List (S34))).bind fun y125 => (if y125.length + y118.length < 3518437208883 then (queue_sorter_sorted.l0 k2 (y125 ++ y118) l1 (l1.length : Int) (wrap64 (x13_1 + 1))) else (none))) else (none)))) else (none)) = some r := by first | (rw [hy114]; with_reducible exact H) | (have H2_ := (Option.bind_some _ _).symm.trans H; rw [hy114]; with_reducible exact H2_) | (have H2_ := (Option.bind_some _ _).symm.trans H; with_reducible exact H2_) | with_reducible exact H | (rw [hy114]; exact H) | exact H
                          have Ny114 := Aside0.mk hy114
                          clear hy114
                          by_cases c18 : y111.length + y114.length < 3518437208883
                          · rw [if_pos c18] at H
                            have LMc18 := Aside0.mk c18
                            clear c18
                            obtain ⟨y118, hy118⟩ : ∃ y_ : List (S34), y_ = (y111 ++ y114) := ⟨_, rfl⟩
                            replace H : ((some (x5_1.take (x19_2 : Int).toNat : List (S34))).bind fun y121 => (if y121.length < 3518437208883 then ((some (y121 ++ [(⟨((rd_T34 l1 x13_1).f0), ((rd_T34 l1 x13_1).f1), ((rd_T34 l1 x13_1).f2), ((rd_T34 l1 x13_1).f3)⟩ : S34)] : List (S34))).bind fun y125 => (if y125.length + y118.length < 3518437208883 then (queue_sorter_sorted.l0 k2 (y125 ++ y118) l1 (l1.length : Int) (wrap64 (x13_1 + 1))) else (none))) else (none))) = some r := by first | (rw [hy118]; with_reducible exact H) | (have H2_ := (Option.bind_some _ _).symm.trans H; rw [hy118]; with_reducible exact H2_) | (have H2_ := (Option.bind_some _ _).symm.trans H; with_reducible exact H2_) | with_reducible exact H | (rw [hy118]; exact H) | exact H
                            have Ny118 := Aside0.mk hy118
                            clear hy118
                            have c19b0 := eq_true (of_decide_eq_true (by first | (with_reducible assumption) | assumption) : 0 ≤ x19_2)
                            have c20b0 := eq_true (of_decide_eq_true (by first | (with_reducible assumption) | assumption) : x19_2 ≤ (x5_1.length : Int))
                            obtain ⟨y121, hy121⟩ : ∃ y_ : List (S34), y_ = (x5_1.take (x19_2 : Int).toNat) := ⟨_, rfl⟩
                            replace H : (if y121.length < 3518437208883 then ((some (y121 ++ [(⟨((rd_T34 l1 x13_1).f0), ((rd_T34 l1 x13_1).f1), ((rd_T34 l1 x13_1).f2), ((rd_T34 l1 x13_1).f3)⟩ : S34)] : List (S34))).bind fun y125 => (if y125.length + y118.length < 3518437208883 then (queue_sorter_sorted.l0 k2 (y125 ++ y118) l1 (l1.length : Int) (wrap64 (x13_1 + 1))) else (none))) else (none)) = some r := by first | (rw [hy121]; with_reducible exact H) | (have H2_ := (Option.bind_some _ _).symm.trans H; rw [hy121]; with_reducible exact H2_) | (have H2_ := (Option.bind_some _ _).symm.trans H; with_reducible exact H2_) | with_reducible exact H | (rw [hy121]; exact H) | exact H
                            have Ny121 := Aside0.mk hy121
                            clear hy121
                            by_cases c21 : y121.length < 3518437208883
                            · rw [if_pos c21] at H
                              have LMc21 := Aside0.mk c21
                              clear c21
                              obtain ⟨y125, hy125⟩ : ∃ y_ : List (S34), y_ = (y121 ++ [(⟨((rd_T34 l1 x13_1).f0), ((rd_T34 l1 x13_1).f1), ((rd_T34 l1 x13_1).f2), ((rd_T34 l1 x13_1).f3)⟩ : S34)]) := ⟨_, rfl⟩
                              replace H : (if y125.length + y118.length < 3518437208883 then (queue_sorter_sorted.l0 k2 (y125 ++ y118) l1 (l1.length : Int) (wrap64 (x13_1 + 1))) else (none)) = some r := by first | (rw [hy125]; with_reducible exact H) | (have H2_ := (Option.bind_some _ _).symm.trans H; rw [hy125]; with_reducible exact H2_) | (have H2_ := (Option.bind_some _ _).symm.trans H; with_reducible exact H2_) | with_reducible exact H | (rw [hy125]; exact H) | exact H
                              have Ny125 := Aside0.mk hy125
                              clear hy125
                              by_cases c22 : y125.length + y118.length < 3518437208883
                              · rw [if_pos c22] at H
                                have LMc22 := Aside0.mk c22
                                clear c22
                                obtain ⟨y128, hy128⟩ : ∃ y_ : List (S34), y_ = (y125 ++ y118) := ⟨_, rfl⟩
                                replace H : (queue_sorter_sorted.l0 k2 y128 l1 (l1.length : Int) (wrap64 (x13_1 + 1))) = some r := by first | (rw [hy128]; with_reducible exact H) | (have H2_ := (Option.bind_some _ _).symm.trans H; rw [hy128]; with_reducible exact H2_) | (have H2_ := (Option.bind_some _ _).symm.trans H; with_reducible exact H2_) | with_reducible exact H | (rw [hy128]; exact H) | exact H
                                have Ny128 := Aside0.mk hy128
                                clear hy128
                                have H' := Aside0.mk H
                                clear H
                                have p108 : 0 ≤ (x19_2 : Int) := of_decide_eq_true (by first | (with_reducible assumption) | assumption)
                                have q108 : x19_2 < (x5_1.length : Int) := of_decide_eq_true (by first | (with_reducible assumption) | assumption)
                                obtain ⟨ad108, e108, hx108_0, hx108_1, hx108_2, hx108_3⟩ := at_T34 (Kd.R_reads' HO_5.out).2.2 x19_2 p108 q108
                                cases e108
                                replace p108 := eq_true p108
                                replace q108 := eq_true q108
                                try go_wp2_with (first | ((with_reducible refine gate_dst (N := 9) rfl ?_); refine box_event ?hg (N := 9) ?hd (cs := #[.int .i64 0, .int .i64 0, .int .i64 0, .string (⟨#[]⟩ : ByteArray)]) (t := 34) ?hr ?_; (case hd => rfl); (case hg => rfl); (case hr => first | (go_simp; done) | (go_simp; rfl)); intro gb109 hg w23 hbox hb; have n0_ := Aside0.mk (Kd.R_below (Kd.R_elderB (by (with_reducible repeat (first | apply Kd.R_alloc | apply Kd.R_drewN | apply Kd.R_drew)); exact HO_5.out) gb109 (Nat.le_of_eq hg.symm)) hb); have n1_ := Aside0.mk (blk_below (g := gb105) (o := .cells #[.func (.func 34) #[] #[]] 40 (0, 0)) (by (with_reducible repeat (first | refine blk_drewN ?_ _ | refine blk_drew ?_ | refine blk_alloc ?_ _)); exact BK105.out) hb); have n2_ := Aside0.mk (blk_below (g := gb107) (o := .cells #[.int .i64 ((rd_T34 l1 x13_1).f0), .int .i64 ((rd_T34 l1 x13_1).f1), .int .i64 ((rd_T34 l1 x13_1).f2), .string ((rd_T34 l1 x13_1).f3)] 34 (0, 0)) (by (with_reducible repeat (first | refine blk_drewN ?_ _ | refine blk_drew ?_ | refine blk_alloc ?_ _)); exact BK107.out) hb); have n3_ := Aside0.mk (below_step (by repeat (first | (with_reducible first | exact HB.out | apply below_alloc | apply pw_below_drewN | apply below_drew1 | refine below_set ?_ GE105.out | refine below_set ?_ GE107.out) | exact HB.out)) hb); have n4_ := Aside0.mk (hbox); have n5_ := Aside0.mk ((by rw [hg]; exact (below_size (by repeat (first | (with_reducible first | exact HB.out | apply below_alloc | apply pw_below_drewN | apply below_drew1 | refine below_set ?_ GE105.out | refine below_set ?_ GE107.out) | exact HB.out))) : w.heap.size ≤ gb109)); have n6_ := Aside0.mk ((by rw [hg]; exact (below_size (by repeat (first | (with_reducible first | exact HB.out | apply below_alloc | apply pw_below_drewN | apply below_drew1 | refine below_set ?_ GE105.out | refine below_set ?_ GE107.out) | exact HB.out))) : w.heap.size ≤ gb109)); have n7_ := Aside0.mk ((by rw [hg]; exact Nat.ne_of_lt (blk_lt (g := gb105) (o := .cells #[.func (.func 34) #[] #[]] 40 (0, 0)) (by (with_reducible repeat (first | refine blk_drewN ?_ _ | refine blk_drew ?_ | refine blk_alloc ?_ _)); exact BK105.out)) : gb105 ≠ gb109)); have n8_ := Aside0.mk ((by rw [hg]; exact Nat.ne_of_gt (blk_lt (g := gb105) (o := .cells #[.func (.func 34) #[] #[]] 40 (0, 0)) (by (with_reducible repeat (first | refine blk_drewN ?_ _ | refine blk_drew ?_ | refine blk_alloc ?_ _)); exact BK105.out)) : gb109 ≠ gb105)); have n9_ := Aside0.mk ((by rw [hg]; exact Nat.ne_of_lt (blk_lt (g := gb107) (o := .cells #[.int .i64 ((rd_T34 l1 x13_1).f0), .int .i64 ((rd_T34 l1 x13_1).f1), .int .i64 ((rd_T34 l1 x13_1).f2), .string ((rd_T34 l1 x13_1).f3)] 34 (0, 0)) (by (with_reducible repeat (first | refine blk_drewN ?_ _ | refine blk_drew ?_ | refine blk_alloc ?_ _)); exact BK107.out)) : gb107 ≠ gb109)); have n10_ := Aside0.mk ((by rw [hg]; exact Nat.ne_of_gt (blk_lt (g := gb107) (o := .cells #[.int .i64 ((rd_T34 l1 x13_1).f0), .int .i64 ((rd_T34 l1 x13_1).f1), .int .i64 ((rd_T34 l1 x13_1).f2), .string ((rd_T34 l1 x13_1).f3)] 34 (0, 0)) (by (with_reducible repeat (first | refine blk_drewN ?_ _ | refine blk_drew ?_ | refine blk_alloc ?_ _)); exact BK107.out)) : gb109 ≠ gb107)); clear HO_5; clear BK105; clear BK107; clear HB; have HO_5 := n0_; have BK105 := n1_; have BK107 := n2_; have HB := n3_; have BK109 := n4_; have GW109 := n5_; have GE109 := n6_; have NB105_109 := n7_; have NB109_105 := n8_; have NB107_109 := n9_; have NB109_107 := n10_; clear n0_ n1_ n2_ n3_ n4_ n5_ n6_ n7_ n8_ n9_ n10_; clear hb hbox hg; have hnb24 := NB109_105.out; have hnc24 := NB105_109.out; have hnb25 := NB109_107.out; have hnc25 := NB107_109.out; have hcz26_0 : w23.cell? ⟨gb109, 0, none⟩ = some (.int .i64 0) := (blk_cell BK109.out 0).trans rfl; have hcz26_1 : w23.cell? ⟨gb109, 1, none⟩ = some (.int .i64 0) := (blk_cell BK109.out 1).trans rfl; have hcz26_2 : w23.cell? ⟨gb109, 2, none⟩ = some (.int .i64 0) := (blk_cell BK109.out 2).trans rfl; have hcz26_3 : w23.cell? ⟨gb109, 3, none⟩ = some (.string (⟨#[]⟩ : ByteArray)) := (blk_cell BK109.out 3).trans rfl; have hfz26_0 := blk_frozen BK109.out 0; have hfz26_1 := blk_frozen BK109.out 1; have hfz26_2 := blk_frozen BK109.out 2; have hfz26_3 := blk_frozen BK109.out 3; have hnb27 := NB105_107.out; have hnc27 := NB107_105.out; have hcz28_0 : w23.cell? ⟨gb105, 0, none⟩ = some (.func (.func 34) #[] #[]) := (blk_cell BK105.out 0).trans rfl; have hfz28_0 := blk_frozen BK105.out 0; have hcz29_0 : w23.cell? ⟨gb107, 0, none⟩ = some (.int .i64 ((rd_T34 l1 x13_1).f0)) := (blk_cell BK107.out 0).trans rfl; have hcz29_1 : w23.cell? ⟨gb107, 1, none⟩ = some (.int .i64 ((rd_T34 l1 x13_1).f1)) := (blk_cell BK107.out 1).trans rfl; have hcz29_2 : w23.cell? ⟨gb107, 2, none⟩ = some (.int .i64 ((rd_T34 l1 x13_1).f2)) := (blk_cell BK107.out 2).trans rfl; have hcz29_3 : w23.cell? ⟨gb107, 3, none⟩ = some (.string ((rd_T34 l1 x13_1).f3)) := (blk_cell BK107.out 3).trans rfl; have hfz29_0 := blk_frozen BK107.out 0; have hfz29_1 := blk_frozen BK107.out 1; have hfz29_2 := blk_frozen BK107.out 2; have hfz29_3 := blk_frozen BK107.out 3) | ((with_reducible refine (queue_byEnd_1.calls ((rd_T34 l1 x13_1).f0) ((rd_T34 l1 x13_1).f1) ((rd_T34 l1 x13_1).f2) ((rd_T34 l1 x13_1).f3) ((rd_T34 x5_1 x19_2).f0) ((rd_T34 x5_1 x19_2).f1) ((rd_T34 x5_1 x19_2).f2) ((rd_T34 x5_1 x19_2).f3) true _ A14.out).mono ?_); rintro e w30 ⟨rfl, hb⟩; have n0_ := Aside0.mk (Kd.R_below (by (with_reducible repeat (first | apply Kd.R_alloc | apply Kd.R_drewN | apply Kd.R_drew)); exact (Kd.R_mono (Kd.R_far (p := ⟨gb109, 3, none⟩) (Kd.R_far (p := ⟨gb109, 2, none⟩) (Kd.R_far (p := ⟨gb109, 1, none⟩) (Kd.R_far (p := ⟨gb109, 0, none⟩) (Kd.R_mono HO_5.out (fun k_ hk => (⟨hk, hk.2⟩ : _ ∧ k_ ≠ gb109))) (fun _ hk => hk.2) (.int .i64 ((rd_T34 x5_1 x19_2).f0))) (fun _ hk => hk.2) (.int .i64 ((rd_T34 x5_1 x19_2).f1))) (fun _ hk => hk.2) (.int .i64 ((rd_T34 x5_1 x19_2).f2))) (fun _ hk => hk.2) (.string ((rd_T34 x5_1 x19_2).f3))) (fun _ h_ => h_.1))) hb); have n1_ := Aside0.mk (blk_below (g := gb105) (o := .cells #[.func (.func 34) #[] #[]] 40 (0, 0)) (by (with_reducible repeat (first | refine blk_drewN ?_ _ | refine blk_drew ?_ | refine blk_alloc ?_ _)); refine blk_far ?_ NB105_109.out _; (with_reducible repeat (first | refine blk_drewN ?_ _ | refine blk_drew ?_ | refine blk_alloc ?_ _)); refine blk_far ?_ NB105_109.out _; (with_reducible repeat (first | refine blk_drewN ?_ _ | refine blk_drew ?_ | refine blk_alloc ?_ _)); refine blk_far ?_ NB105_109.out _; (with_reducible repeat (first | refine blk_drewN ?_ _ | refine blk_drew ?_ | refine blk_alloc ?_ _)); refine blk_far ?_ NB105_109.out _; (with_reducible repeat (first | refine blk_drewN ?_ _ | refine blk_drew ?_ | refine blk_alloc ?_ _)); exact BK105.out) hb); have n2_ := Aside0.mk (blk_below (g := gb107) (o := .cells #[.int .i64 ((rd_T34 l1 x13_1).f0), .int .i64 ((rd_T34 l1 x13_1).f1), .int .i64 ((rd_T34 l1 x13_1).f2), .string ((rd_T34 l1 x13_1).f3)] 34 (0, 0)) (by (with_reducible repeat (first | refine blk_drewN ?_ _ | refine blk_drew ?_ | refine blk_alloc ?_ _)); refine blk_far ?_ NB107_109.out _; (with_reducible repeat (first | refine blk_drewN ?_ _ | refine blk_drew ?_ | refine blk_alloc ?_ _)); refine blk_far ?_ NB107_109.out _; (with_reducible repeat (first | refine blk_drewN ?_ _ | refine blk_drew ?_ | refine blk_alloc ?_ _)); refine blk_far ?_ NB107_109.out _; (with_reducible repeat (first | refine blk_drewN ?_ _ | refine blk_drew ?_ | refine blk_alloc ?_ _)); refine blk_far ?_ NB107_109.out _; (with_reducible repeat (first | refine blk_drewN ?_ _ | refine blk_drew ?_ | refine blk_alloc ?_ _)); exact BK107.out) hb); have n3_ := Aside0.mk (blk_below (g := gb109) (o := .cells #[.int .i64 ((rd_T34 x5_1 x19_2).f0), .int .i64 ((rd_T34 x5_1 x19_2).f1), .int .i64 ((rd_T34 x5_1 x19_2).f2), .string ((rd_T34 x5_1 x19_2).f3)] 34 (0, 0)) (by (with_reducible repeat (first | refine blk_drewN ?_ _ | refine blk_drew ?_ | refine blk_alloc ?_ _)); refine blk_put (cs := #[.int .i64 ((rd_T34 x5_1 x19_2).f0), .int .i64 ((rd_T34 x5_1 x19_2).f1), .int .i64 ((rd_T34 x5_1 x19_2).f2), .string (⟨#[]⟩ : ByteArray)]) ?_ 3 _ rfl; (with_reducible repeat (first | refine blk_drewN ?_ _ | refine blk_drew ?_ | refine blk_alloc ?_ _)); refine blk_put (cs := #[.int .i64 ((rd_T34 x5_1 x19_2).f0), .int .i64 ((rd_T34 x5_1 x19_2).f1), .int .i64 0, .string (⟨#[]⟩ : ByteArray)]) ?_ 2 _ rfl; (with_reducible repeat (first | refine blk_drewN ?_ _ | refine blk_drew ?_ | refine blk_alloc ?_ _)); refine blk_put (cs := #[.int .i64 ((rd_T34 x5_1 x19_2).f0), .int .i64 0, .int .i64 0, .string (⟨#[]⟩ : ByteArray)]) ?_ 1 _ rfl; (with_reducible repeat (first | refine blk_drewN ?_ _ | refine blk_drew ?_ | refine blk_alloc ?_ _)); refine blk_put (cs := #[.int .i64 0, .int .i64 0, .int .i64 0, .string (⟨#[]⟩ : ByteArray)]) ?_ 0 _ rfl; (with_reducible repeat (first | refine blk_drewN ?_ _ | refine blk_drew ?_ | refine blk_alloc ?_ _)); exact BK109.out) hb); have n4_ := Aside0.mk (below_step (by repeat (first | (with_reducible first | exact HB.out | apply below_alloc | apply pw_below_drewN | apply below_drew1 | refine below_set ?_ GE105.out | refine below_set ?_ GE107.out | refine below_set ?_ GE109.out) | exact HB.out)) hb); clear HO_5; clear BK105; clear BK107; clear BK109; clear HB; have HO_5 := n0_; have BK105 := n1_; have BK107 := n2_; have BK109 := n3_; have HB := n4_; clear n0_ n1_ n2_ n3_ n4_; (try clear hb); (try clear hb2); (try clear hk); (try clear hi)) | ((with_reducible refine gate_dst (N := 29) rfl ?_); refine Kd.R_lit k34 _ 34 ?hg (N := 29) ?hd (xs := ([] : List (S34))) (inner := []) (ok := fun _ => True) (okp := fun _ => True) ?hr ?hp (fun _ hk => hk) trivial (Below.refl _ _) (Nat.le_refl _) (by simp) ?_; (case hd => rfl); (case hg => rfl); (case hr => first | (go_simp; done) | (go_simp; rfl)); (case hp => exact (Reps.none _ _)); intro v112 w31 ho32 hb hg_ hnew_; clear hg_ hnew_; (first | rw [← Ny111.out] at ho32 | (simp only [Int.reduceToNat] at ho32; rw [← Ny111.out] at ho32)); have n0_ := Aside0.mk (Kd.R_elder' (by (with_reducible repeat (first | apply Kd.R_alloc | apply Kd.R_drewN | apply Kd.R_drew)); exact HO_5.out) (Kd.R_base ho32) hb); have n1_ := Aside0.mk (Kd.R_lower (Kd.R_newB (Kd.R_newB (Kd.R_new' ho32 (Kd.R_lt (by (with_reducible repeat (first | apply Kd.R_alloc | apply Kd.R_drewN | apply Kd.R_drew)); exact HO_5.out))) (g := gb107) (o := .cells #[.int .i64 ((rd_T34 l1 x13_1).f0), .int .i64 ((rd_T34 l1 x13_1).f1), .int .i64 ((rd_T34 l1 x13_1).f2), .string ((rd_T34 l1 x13_1).f3)] 34 (0, 0)) (by (with_reducible repeat (first | refine blk_drewN ?_ _ | refine blk_drew ?_ | refine blk_alloc ?_ _)); exact BK107.out)) (g := gb109) (o := .cells #[.int .i64 ((rd_T34 x5_1 x19_2).f0), .int .i64 ((rd_T34 x5_1 x19_2).f1), .int .i64 ((rd_T34 x5_1 x19_2).f2), .string ((rd_T34 x5_1 x19_2).f3)] 34 (0, 0)) (by (with_reducible repeat (first | refine blk_drewN ?_ _ | refine blk_drew ?_ | refine blk_alloc ?_ _)); exact BK109.out)) (below_size (by repeat (first | (with_reducible first | exact HB.out | apply below_alloc | apply pw_below_drewN | apply below_drew1 | refine below_set ?_ GE105.out | refine below_set ?_ GE107.out | refine below_set ?_ GE109.out) | exact HB.out)))); have n2_ := Aside0.mk (blk_below (g := gb105) (o := .cells #[.func (.func 34) #[] #[]] 40 (0, 0)) (by (with_reducible repeat (first | refine blk_drewN ?_ _ | refine blk_drew ?_ | refine blk_alloc ?_ _)); exact BK105.out) hb); have n3_ := Aside0.mk (blk_below (g := gb107) (o := .cells #[.int .i64 ((rd_T34 l1 x13_1).f0), .int .i64 ((rd_T34 l1 x13_1).f1), .int .i64 ((rd_T34 l1 x13_1).f2), .string ((rd_T34 l1 x13_1).f3)] 34 (0, 0)) (by (with_reducible repeat (first | refine blk_drewN ?_ _ | refine blk_drew ?_ | refine blk_alloc ?_ _)); exact BK107.out) hb); have n4_ := Aside0.mk (blk_below (g := gb109) (o := .cells #[.int .i64 ((rd_T34 x5_1 x19_2).f0), .int .i64 ((rd_T34 x5_1 x19_2).f1), .int .i64 ((rd_T34 x5_1 x19_2).f2), .string ((rd_T34 x5_1 x19_2).f3)] 34 (0, 0)) (by (with_reducible repeat (first | refine blk_drewN ?_ _ | refine blk_drew ?_ | refine blk_alloc ?_ _)); exact BK109.out) hb); have n5_ := Aside0.mk (below_step (by repeat (first | (with_reducible first | exact HB.out | apply below_alloc | apply pw_below_drewN | apply below_drew1 | refine below_set ?_ GE105.out | refine below_set ?_ GE107.out | refine below_set ?_ GE109.out) | exact HB.out)) hb); clear HO_5; clear BK105; clear BK107; clear BK109; clear HB; have HO_5 := n0_; have HO113 := n1_; have BK105 := n2_; have BK107 := n3_; have BK109 := n4_; have HB := n5_; clear n0_ n1_ n2_ n3_ n4_ n5_; clear hb ho32; have q33 : (x19_2 : Int) ≤ ((x5_1.length : Int) : Int) := of_decide_eq_true (by first | (with_reducible assumption) | assumption); obtain ⟨i033, hi033, _, hsz33, _⟩ := info_parts info34; have hroom33 : x5_1.length ≤ co10 := (Kd.R_reads' HO_5.out).2.1; have hC33 : Kd.C k34 _ (some ad108) x5_1.length x5_1 := (Kd.R_reads' HO_5.out).2.2; have q033 : (0 : Int) ≤ (x19_2 : Int) := of_decide_eq_true (by first | (with_reducible assumption) | assumption); have hcut33 := cut_from (P := Try.prog) 22 34 .i64 Try.underlying22 hi033 4 hsz33 (some ad108) x5_1.length co10 x19_2 q033 q33; have hr33 := Kd.C_drop (m := (x19_2 : Int).toNat) (c := co10) hC33 (by omega) hroom33; obtain ⟨A33, hA33⟩ : ∃ A1, A1 = (if co10 = (x19_2 : Int).toNat then (some ad108) else ((some ad108) : Option Addr).map (·.add ((x19_2 : Int).toNat * 4))) := ⟨_, rfl⟩; obtain ⟨c33, hc33⟩ : ∃ c1, c1 = co10 - (x19_2 : Int).toNat := ⟨_, rfl⟩; have hy33 : y114.length = x5_1.length - (x19_2 : Int).toNat := (by rw [Ny114.out, List.length_drop] <;> omega); rw [show (x5_1).drop (x19_2 : Int).toNat = y114 from Ny114.out.symm] at hr33; replace hr33 : Kd.C k34 _ A33 y114.length y114 := (by rw [hA33]; exact hr33); rw [← hy33, ← hA33, ← hc33] at hcut33; have HR117 := Aside0.mk hr33; have HC117 := Aside0.mk (show y114.length ≤ c33 from by rw [hy33, hc33]; exact Nat.sub_le_sub_right hroom33 _); clear hr33 hC33 hroom33 hi033 hsz33 hc33; have KY33 := Aside0.mk hy33; have KA33 := Aside0.mk hA33; clear hy33 hA33; have KL33 := Aside0.mk (show (x19_2 : Int).toNat ≤ x5_1.length from by omega); replace q33 := eq_true q33) | ((with_reducible refine gate_builtin (b := .append) (xs := #[.tmp 29, .tmp 32]) rfl ?_); at_builtin; refine Kd.R_append_rows k34 (w0 := w) w.heap.size rfl (.tmp 29) (.tmp 32) 22 34 (.agg #[(.int .i64 0), (.int .i64 0), (.int .i64 0), (.string ⟨#[]⟩)]) 40 rfl Try.underlying22 info34 rfl (by decide) (by omega) v112 y111 y114 _ _ _ (fun k_ => some k_ ≠ (.slice (some ad108) x5_1.length co10 : Value).ownBlock ∧ k_ ≠ gb107 ∧ k_ ≠ gb109) (fun _ => False) rfl rfl ?aO ?aR (fun _ _ h => h) (fun _ h => h.elim) ?aF ?aB ?aS ?aL ?_; (case aR => repeat (first | exact (by repeat (first | (with_reducible exact HR117.out) | (with_reducible refine Kd.C_alloc ?_ _) | (with_reducible refine Kd.C_drewN ?_ _) | (with_reducible refine Kd.C_drew ?_) | exact HR117.out)) | (with_reducible refine Kd.C_alloc ?_ _) | (with_reducible refine Kd.C_drewN ?_ _) | (with_reducible refine Kd.C_drew ?_))); (case aB => exact (by repeat (first | (with_reducible first | exact HB.out | apply below_alloc | apply pw_below_drewN | apply below_drew1 | refine below_set ?_ GE105.out | refine below_set ?_ GE107.out | refine below_set ?_ GE109.out) | exact HB.out))); (case aF => exact (fun k_ hk => ⟨Kd.fresh' (Kd.R_lt (by (with_reducible repeat (first | apply Kd.R_alloc | apply Kd.R_drewN | apply Kd.R_drew)); exact HO_5.out)) k_ hk, Kd.freshB (g := gb107) (o := .cells #[.int .i64 ((rd_T34 l1 x13_1).f0), .int .i64 ((rd_T34 l1 x13_1).f1), .int .i64 ((rd_T34 l1 x13_1).f2), .string ((rd_T34 l1 x13_1).f3)] 34 (0, 0)) (by (with_reducible repeat (first | refine blk_drewN ?_ _ | refine blk_drew ?_ | refine blk_alloc ?_ _)); exact BK107.out) k_ hk, Kd.freshB (g := gb109) (o := .cells #[.int .i64 ((rd_T34 x5_1 x19_2).f0), .int .i64 ((rd_T34 x5_1 x19_2).f1), .int .i64 ((rd_T34 x5_1 x19_2).f2), .string ((rd_T34 x5_1 x19_2).f3)] 34 (0, 0)) (by (with_reducible repeat (first | refine blk_drewN ?_ _ | refine blk_drew ?_ | refine blk_alloc ?_ _)); exact BK109.out) k_ hk⟩)); (case aO => exact (by (with_reducible repeat (first | apply Kd.R_alloc | apply Kd.R_drewN | apply Kd.R_drew)); exact Kd.R_mono HO113.out (fun _ hk => ⟨hk.1.1.2, ⟨hk.1.2, hk.2⟩⟩))); (case aS => exact (below_size (by repeat (first | (with_reducible first | exact HB.out | apply below_alloc | apply pw_below_drewN | apply below_drew1 | refine below_set ?_ GE105.out | refine below_set ?_ GE107.out | refine below_set ?_ GE109.out) | exact HB.out)))); (case aL => have := LMc18.out; omega); intro v119 w34 ho hb hg hat; rw [← Ny118.out] at ho; have n0_ := Aside0.mk (Kd.R_after (ok := (fun k_ => k_ ≠ gb107 ∧ k_ ≠ gb109)) (by (with_reducible repeat (first | apply Kd.R_alloc | apply Kd.R_drewN | apply Kd.R_drew)); exact HO_5.out) hg hat); have n1_ := Aside0.mk (blk_grown (g := gb105) (o := .cells #[.func (.func 34) #[] #[]] 40 (0, 0)) (by (with_reducible repeat (first | refine blk_drewN ?_ _ | refine blk_drew ?_ | refine blk_alloc ?_ _)); exact BK105.out) hg (Kd.R_ne HO113.out BK105.out (by decide))); have n2_ := Aside0.mk (blk_grown (g := gb107) (o := .cells #[.int .i64 ((rd_T34 l1 x13_1).f0), .int .i64 ((rd_T34 l1 x13_1).f1), .int .i64 ((rd_T34 l1 x13_1).f2), .string ((rd_T34 l1 x13_1).f3)] 34 (0, 0)) (by (with_reducible repeat (first | refine blk_drewN ?_ _ | refine blk_drew ?_ | refine blk_alloc ?_ _)); exact BK107.out) hg (Kd.R_away HO113.out (fun _ hk => hk.1.2))); have n3_ := Aside0.mk (blk_grown (g := gb109) (o := .cells #[.int .i64 ((rd_T34 x5_1 x19_2).f0), .int .i64 ((rd_T34 x5_1 x19_2).f1), .int .i64 ((rd_T34 x5_1 x19_2).f2), .string ((rd_T34 x5_1 x19_2).f3)] 34 (0, 0)) (by (with_reducible repeat (first | refine blk_drewN ?_ _ | refine blk_drew ?_ | refine blk_alloc ?_ _)); exact BK109.out) hg (Kd.R_away HO113.out (fun _ hk => hk.2))); have n4_ := Aside0.mk (hb); have n5_ := Aside0.mk ((show Kd.C k34 w34 A33 y114.length y114 from by rw [Ny114.out, KA33.out]; exact Kd.C_drop (m := (x19_2 : Int).toNat) (c := co10) ((Kd.R_reads' (Kd.R_after (ok := (fun k_ => k_ ≠ gb107 ∧ k_ ≠ gb109)) (by (with_reducible repeat (first | apply Kd.R_alloc | apply Kd.R_drewN | apply Kd.R_drew)); exact HO_5.out) hg hat)).2.2) KL33.out ((Kd.R_reads' (Kd.R_after (ok := (fun k_ => k_ ≠ gb107 ∧ k_ ≠ gb109)) (by (with_reducible repeat (first | apply Kd.R_alloc | apply Kd.R_drewN | apply Kd.R_drew)); exact HO_5.out) hg hat)).2.1))); have n6_ := Aside0.mk (ho); clear HO_5; clear BK105; clear BK107; clear BK109; clear HB; clear HR117; clear HO113; have HO_5 := n0_; have BK105 := n1_; have BK107 := n2_; have BK109 := n3_; have HB := n4_; have HR117 := n5_; have HO120 := n6_; clear n0_ n1_ n2_ n3_ n4_ n5_ n6_; clear ho hb hg hat))
                                have n0_ := Aside0.mk (Kd.R_drew HO_5.out)
                                have n1_ := Aside0.mk (Kd.R_drew HO120.out)
                                have n2_ := Aside0.mk (blk_drew BK105.out)
                                have n3_ := Aside0.mk (blk_drew BK107.out)
                                have n4_ := Aside0.mk (blk_drew BK109.out)
                                have n5_ := Aside0.mk (Kd.C_drew HR117.out)
                                have n6_ := Aside0.mk (below_drew1 HB.out)
                                clear HO_5
                                clear HO120
                                clear BK105
                                clear BK107
                                clear BK109
                                clear HR117
                                clear HB
                                have HO_5 := n0_
                                have HO120 := n1_
                                have BK105 := n2_
                                have BK107 := n3_
                                have BK109 := n4_
                                have HR117 := n5_
                                have HB := n6_
                                clear n0_ n1_ n2_ n3_ n4_ n5_ n6_
                                have q36 : (x19_2 : Int) ≤ ((x5_1.length : Int) : Int) := of_decide_eq_true (by first | (with_reducible assumption) | assumption)
                                obtain ⟨i036, hi036, _, hsz36, _⟩ := info_parts info34
                                have hroom36 : x5_1.length ≤ co10 := (Kd.R_reads' HO_5.out).2.1
                                have hC36 : Kd.C k34 _ (some ad108) x5_1.length x5_1 := (Kd.R_reads' HO_5.out).2.2
                                have hcut36 := Com.cut_cap (P := Try.prog) 22 34 .i64 Try.underlying22 hi036 (some ad108) x5_1.length co10 x19_2 (of_decide_eq_true (by first | (with_reducible assumption) | assumption)) q36 hroom36
                                have hr36 := Kd.C_take (m := (x19_2 : Int).toNat) hC36 (by omega)
                                have hy36 : y121.length = (x19_2 : Int).toNat := (by rw [Ny121.out, List.length_take]; omega)
                                rw [← Ny121.out] at hr36
                                rw [← hy36] at hcut36
                                have HR124 := Aside0.mk hr36
                                have HC124 := Aside0.mk (show y121.length ≤ y121.length from Nat.le_refl _)
                                clear hr36 hC36 hroom36 hi036 hsz36
                                have KY36 := Aside0.mk hy36
                                clear hy36
                                have KL36 := Aside0.mk (show (x19_2 : Int).toNat ≤ x5_1.length from by omega)
                                replace q36 := eq_true q36
                                refine start_ (n := 10) (S := fun w' => w'.cell? ⟨gb107, 0, none⟩ = some (.int .i64 ((rd_T34 l1 x13_1).f0)) ∧ w'.cell? ⟨gb107, 1, none⟩ = some (.int .i64 ((rd_T34 l1 x13_1).f1)) ∧ w'.cell? ⟨gb107, 2, none⟩ = some (.int .i64 ((rd_T34 l1 x13_1).f2)) ∧ w'.cell? ⟨gb107, 3, none⟩ = some (.string ((rd_T34 l1 x13_1).f3))) (ds := []) #[false, false, false, false, false, false, false, false, false, false] (by kernel_rfl) rfl rfl ⟨(blk_cell BK107.out 0).trans rfl, (blk_cell BK107.out 1).trans rfl, (blk_cell BK107.out 2).trans rfl, (blk_cell BK107.out 3).trans rfl⟩ (fun hHeld => ?_); refine with_tabW queue_sorter_sorted.tab10 queue_sorter_sorted.bits10 (fun HT_ HW_ => ?_)
                                generalize w34.drew = w35 at HO_5 HO120 BK105 BK107 BK109 HR117 HB HR124 hHeld ⊢
                                refine pure_ (i := 0) (N := some 34) (v := ?_) (a' := ?_) #[true, false, false, false, false, false, false, false, false, false] rfl rfl (any_of HT_.out (by kernel_rfl)) (fun _ _ _ h => h) (Or.inl ⟨by rfl, ?_⟩) ?_ ?_
                                rotate_left
                                · intro w'
                                  go_simp
                                  with_reducible rfl
                                rotate_left
                                · simp only [Act.put, List.setIfInBounds_toArray, List.set_cons_zero, List.set_cons_succ, i64_w, i32_w]
                                  rfl
                                refine pure_ (i := 1) (N := some 35) (v := ?_) (a' := ?_) #[true, true, false, false, false, false, false, false, false, false] rfl rfl (any_of HT_.out (by kernel_rfl)) (fun _ _ _ h => h) (Or.inl ⟨by rfl, ?_⟩) ?_ ?_
                                rotate_left
                                · intro w'
                                  go_simp
                                  with_reducible rfl
                                rotate_left
                                · simp only [Act.put, List.setIfInBounds_toArray, List.set_cons_zero, List.set_cons_succ, i64_w, i32_w]
                                  rfl
                                refine pure_ (i := 2) (N := some 36) (v := ?_) (a' := ?_) #[true, true, true, false, false, false, false, false, false, false] rfl rfl (any_of HT_.out (by kernel_rfl)) (fun _ _ _ h => h) (Or.inl ⟨by rfl, ?_⟩) ?_ ?_
                                rotate_left
                                · intro w'
                                  go_simp
                                  with_reducible rfl
                                rotate_left
                                · simp only [Act.put, List.setIfInBounds_toArray, List.set_cons_zero, List.set_cons_succ, i64_w, i32_w]
                                  rfl
                                refine pure_ (i := 3) (N := some 37) (v := ?_) (a' := ?_) #[true, true, true, true, false, false, false, false, false, false] rfl rfl (any_of HT_.out (by kernel_rfl)) (fun _ _ _ h => h) (Or.inl ⟨by rfl, ?_⟩) ?_ ?_
                                rotate_left
                                · intro w'
                                  go_simp
                                  with_reducible rfl
                                rotate_left
                                · simp only [Act.put, List.setIfInBounds_toArray, List.set_cons_zero, List.set_cons_succ, i64_w, i32_w]
                                  rfl
                                refine pure_ (i := 7) (N := some 41) (v := ?_) (a' := ?_) #[true, true, true, true, false, false, false, true, false, false] rfl rfl (any_of HT_.out (by kernel_rfl)) (fun _ _ _ h => h) (Or.inl ⟨by rfl, ?_⟩) ?_ ?_
                                rotate_left
                                · intro w'
                                  go_simp
                                  with_reducible rfl
                                rotate_left
                                · simp only [Act.put, List.setIfInBounds_toArray, List.set_cons_zero, List.set_cons_succ, i64_w, i32_w]
                                  rfl
                                refine take_ (i := 4) (N := some 38) (v := ?_) (a' := ?_) #[true, true, true, true, true, false, false, true, false, false] rfl rfl (take_ofW HT_.out HW_.out (by kernel_rfl)) (fun _ _ _ h => h) (Or.inl ⟨by rfl, ?_⟩) hHeld ?_ ?_
                                rotate_left
                                · rintro w' ⟨s0, s1, s2, s3⟩
                                  go_simp
                                  with_reducible rfl
                                rotate_left
                                · simp only [Act.put, List.setIfInBounds_toArray, List.set_cons_zero, List.set_cons_succ, i64_w, i32_w]
                                  rfl
                                refine one_ (i := 5) (N := some 39) #[true, true, true, true, true, true, false, true, false, false] rfl rfl (one_of HT_.out (by kernel_rfl)) (by decide) (fun K hK => ?_)
                                refine value_ (w1 := ?_) (v := ?_) (by rfl) rfl ?_ ?_
                                rotate_left 2
                                · go_simp
                                  constructor
                                  · rfl
                                  · rfl
                                refine hK.out _ _ ⟨(blk_cell (blk_alloc BK107.out _) 0).trans rfl, (blk_cell (blk_alloc BK107.out _) 1).trans rfl, (blk_cell (blk_alloc BK107.out _) 2).trans rfl, (blk_cell (blk_alloc BK107.out _) 3).trans rfl⟩ (fun hHeld => ?_)
                                clear hK K
                                refine norm_ (a' := ?_) ?_ ?_
                                rotate_left
                                · show Act.put _ (some 39) _ = _
                                  simp only [Act.put, List.setIfInBounds_toArray, List.set_cons_zero, List.set_cons_succ, i64_w, i32_w]
                                  rfl
                                refine one_ (i := 6) (N := some 40) #[true, true, true, true, true, true, true, true, false, false] rfl rfl (one_of HT_.out (by kernel_rfl)) (by decide) (fun K hK => ?_)
                                refine Kd.R_append_cap_step k34 (w0 := w) w.heap.size (by rfl) (.tmp 37) (.tmp 39) 22 34 (.agg #[(.int .i64 0), (.int .i64 0), (.int .i64 0), (.string ⟨#[]⟩)]) 40 rfl Try.underlying22 info34 rfl (by decide) (by omega) (some ad108) y121 (⟨((rd_T34 l1 x13_1).f0), ((rd_T34 l1 x13_1).f1), ((rd_T34 l1 x13_1).f2), ((rd_T34 l1 x13_1).f3)⟩ : S34) [.int .i64 ((rd_T34 l1 x13_1).f0), .int .i64 ((rd_T34 l1 x13_1).f1), .int .i64 ((rd_T34 l1 x13_1).f2), .string ((rd_T34 l1 x13_1).f3)] (fun k_ => some k_ ≠ (.slice (some ad108) x5_1.length co10 : Value).ownBlock ∧ some k_ ≠ (v119 : Value).ownBlock ∧ k_ ≠ gb107 ∧ k_ ≠ gb109) rfl rfl (fun _ _ _ _ _ _ h => h) ?aP ?aF ?aO ?aB ?aS ?aL ?_
                                (case aP => exact k34_mk _ (⟨((rd_T34 l1 x13_1).f0), ((rd_T34 l1 x13_1).f1), ((rd_T34 l1 x13_1).f2), ((rd_T34 l1 x13_1).f3)⟩ : S34))
                                (case aB => exact (by repeat (first | (with_reducible first | exact HB.out | apply below_alloc | apply pw_below_drewN | apply below_drew1 | refine below_set ?_ GE105.out | refine below_set ?_ GE107.out | refine below_set ?_ GE109.out) | exact HB.out)))
                                (case aF => exact (fun k_ hk => ⟨Kd.fresh' (Kd.R_lt (by (with_reducible repeat (first | apply Kd.R_alloc | apply Kd.R_drewN | apply Kd.R_drew)); exact HO_5.out)) k_ hk, Kd.fresh' (Kd.R_lt (by (with_reducible repeat (first | apply Kd.R_alloc | apply Kd.R_drewN | apply Kd.R_drew)); exact HO120.out)) k_ hk, Kd.freshB (g := gb107) (o := .cells #[.int .i64 ((rd_T34 l1 x13_1).f0), .int .i64 ((rd_T34 l1 x13_1).f1), .int .i64 ((rd_T34 l1 x13_1).f2), .string ((rd_T34 l1 x13_1).f3)] 34 (0, 0)) (by (with_reducible repeat (first | refine blk_drewN ?_ _ | refine blk_drew ?_ | refine blk_alloc ?_ _)); exact BK107.out) k_ hk, Kd.freshB (g := gb109) (o := .cells #[.int .i64 ((rd_T34 x5_1 x19_2).f0), .int .i64 ((rd_T34 x5_1 x19_2).f1), .int .i64 ((rd_T34 x5_1 x19_2).f2), .string ((rd_T34 x5_1 x19_2).f3)] 34 (0, 0)) (by (with_reducible repeat (first | refine blk_drewN ?_ _ | refine blk_drew ?_ | refine blk_alloc ?_ _)); exact BK109.out) k_ hk⟩))
                                (case aO => exact (by repeat (first | exact (by repeat (first | (with_reducible exact HR124.out) | (with_reducible refine Kd.C_alloc ?_ _) | (with_reducible refine Kd.C_drewN ?_ _) | (with_reducible refine Kd.C_drew ?_) | exact HR124.out)) | (with_reducible refine Kd.C_alloc ?_ _) | (with_reducible refine Kd.C_drewN ?_ _) | (with_reducible refine Kd.C_drew ?_))))
                                (case aS => exact (below_size (by repeat (first | (with_reducible first | exact HB.out | apply below_alloc | apply pw_below_drewN | apply below_drew1 | refine below_set ?_ GE105.out | refine below_set ?_ GE107.out | refine below_set ?_ GE109.out) | exact HB.out))))
                                (case aL => have := LMc21.out; omega)
                                intro v126 w37 ho hb hg hat
                                rw [← Ny125.out] at ho
                                have n0_ := Aside0.mk (Kd.R_after (Kd.R_apart_nil (by (with_reducible repeat (first | apply Kd.R_alloc | apply Kd.R_drewN | apply Kd.R_drew)); exact HO_5.out)) hg hat)
                                have n1_ := Aside0.mk (blk_grown (g := gb105) (o := .cells #[.func (.func 34) #[] #[]] 40 (0, 0)) (by (with_reducible repeat (first | refine blk_drewN ?_ _ | refine blk_drew ?_ | refine blk_alloc ?_ _)); exact BK105.out) hg (by simp [Value.ownBlock]))
                                have n2_ := Aside0.mk (blk_grown (g := gb107) (o := .cells #[.int .i64 ((rd_T34 l1 x13_1).f0), .int .i64 ((rd_T34 l1 x13_1).f1), .int .i64 ((rd_T34 l1 x13_1).f2), .string ((rd_T34 l1 x13_1).f3)] 34 (0, 0)) (by (with_reducible repeat (first | refine blk_drewN ?_ _ | refine blk_drew ?_ | refine blk_alloc ?_ _)); exact BK107.out) hg (by simp [Value.ownBlock]))
                                have n3_ := Aside0.mk (blk_grown (g := gb109) (o := .cells #[.int .i64 ((rd_T34 x5_1 x19_2).f0), .int .i64 ((rd_T34 x5_1 x19_2).f1), .int .i64 ((rd_T34 x5_1 x19_2).f2), .string ((rd_T34 x5_1 x19_2).f3)] 34 (0, 0)) (by (with_reducible repeat (first | refine blk_drewN ?_ _ | refine blk_drew ?_ | refine blk_alloc ?_ _)); exact BK109.out) hg (by simp [Value.ownBlock]))
                                have n4_ := Aside0.mk (Kd.R_after (Kd.R_apart_nil (by (with_reducible repeat (first | apply Kd.R_alloc | apply Kd.R_drewN | apply Kd.R_drew)); exact HO120.out)) hg hat)
                                have n5_ := Aside0.mk (hb)
                                have n6_ := Aside0.mk ((show Kd.C k34 w37 A33 y114.length y114 from by rw [Ny114.out, KA33.out]; exact Kd.C_drop (m := (x19_2 : Int).toNat) (c := co10) ((Kd.R_reads' (Kd.R_after (Kd.R_apart_nil (by (with_reducible repeat (first | apply Kd.R_alloc | apply Kd.R_drewN | apply Kd.R_drew)); exact HO_5.out)) hg hat)).2.2) KL33.out ((Kd.R_reads' (Kd.R_after (Kd.R_apart_nil (by (with_reducible repeat (first | apply Kd.R_alloc | apply Kd.R_drewN | apply Kd.R_drew)); exact HO_5.out)) hg hat)).2.1)))
                                have n7_ := Aside0.mk ((show Kd.C k34 w37 (some ad108) y121.length y121 from by rw [Ny121.out]; exact Kd.C_take (m := (x19_2 : Int).toNat) ((Kd.R_reads' (Kd.R_after (Kd.R_apart_nil (by (with_reducible repeat (first | apply Kd.R_alloc | apply Kd.R_drewN | apply Kd.R_drew)); exact HO_5.out)) hg hat)).2.2) KL36.out))
                                have n8_ := Aside0.mk (ho)
                                clear HO_5
                                clear BK105
                                clear BK107
                                clear BK109
                                clear HO120
                                clear HB
                                clear HR117
                                clear HR124
                                have HO_5 := n0_
                                have BK105 := n1_
                                have BK107 := n2_
                                have BK109 := n3_
                                have HO120 := n4_
                                have HB := n5_
                                have HR117 := n6_
                                have HR124 := n7_
                                have HO127 := n8_
                                clear n0_ n1_ n2_ n3_ n4_ n5_ n6_ n7_ n8_
                                clear ho hb hg hat
                                obtain ⟨Ao39, co39, eo39⟩ := Kd.R_slice HO120.out
                                (first | subst eo39 | (injection eo39 with f1_ f2_ f3_; have f4_ := f1_.symm; have f5_ := f3_.symm; clear f1_ f2_ f3_; subst f4_; subst f5_))
                                refine hK.out _ _ ⟨(blk_cell BK107.out 0).trans rfl, (blk_cell BK107.out 1).trans rfl, (blk_cell BK107.out 2).trans rfl, (blk_cell BK107.out 3).trans rfl⟩ (fun hHeld => ?_)
                                clear hK K
                                refine norm_ (a' := ?_) ?_ ?_
                                rotate_left
                                · show Act.put _ (some 40) _ = _
                                  simp only [Act.put, List.setIfInBounds_toArray, List.set_cons_zero, List.set_cons_succ, i64_w, i32_w]
                                  rfl
                                refine one_ (i := 8) (N := some 42) #[true, true, true, true, true, true, true, true, true, false] rfl rfl (one_of HT_.out (by kernel_rfl)) (by decide) (fun K hK => ?_)
                                refine Kd.R_append_rows_step k34 (w0 := w) w.heap.size (by rfl) (.tmp 40) (.tmp 41) 22 34 (.agg #[(.int .i64 0), (.int .i64 0), (.int .i64 0), (.string ⟨#[]⟩)]) 40 rfl Try.underlying22 info34 rfl (by decide) (by omega) v126 y125 y118 _ _ _ (fun k_ => some k_ ≠ (.slice (some ad108) x5_1.length co10 : Value).ownBlock ∧ some k_ ≠ (.slice Ao39 y118.length co39 : Value).ownBlock ∧ k_ ≠ gb107 ∧ k_ ≠ gb109) (fun _ => False) rfl rfl ?aO ?aR (fun _ _ h => h) (fun _ h => h.elim) ?aF ?aB ?aS ?aL ?_
                                (case aR => repeat (first | exact (Kd.R_reads' HO120.out).2.2 | (with_reducible refine Kd.C_alloc ?_ _) | (with_reducible refine Kd.C_drewN ?_ _) | (with_reducible refine Kd.C_drew ?_)))
                                (case aB => exact (by repeat (first | (with_reducible first | exact HB.out | apply below_alloc | apply pw_below_drewN | apply below_drew1 | refine below_set ?_ GE105.out | refine below_set ?_ GE107.out | refine below_set ?_ GE109.out) | exact HB.out)))
                                (case aF => exact (fun k_ hk => ⟨Kd.fresh' (Kd.R_lt (by (with_reducible repeat (first | apply Kd.R_alloc | apply Kd.R_drewN | apply Kd.R_drew)); exact HO_5.out)) k_ hk, Kd.fresh' (Kd.R_lt (by (with_reducible repeat (first | apply Kd.R_alloc | apply Kd.R_drewN | apply Kd.R_drew)); exact HO120.out)) k_ hk, Kd.freshB (g := gb107) (o := .cells #[.int .i64 ((rd_T34 l1 x13_1).f0), .int .i64 ((rd_T34 l1 x13_1).f1), .int .i64 ((rd_T34 l1 x13_1).f2), .string ((rd_T34 l1 x13_1).f3)] 34 (0, 0)) (by (with_reducible repeat (first | refine blk_drewN ?_ _ | refine blk_drew ?_ | refine blk_alloc ?_ _)); exact BK107.out) k_ hk, Kd.freshB (g := gb109) (o := .cells #[.int .i64 ((rd_T34 x5_1 x19_2).f0), .int .i64 ((rd_T34 x5_1 x19_2).f1), .int .i64 ((rd_T34 x5_1 x19_2).f2), .string ((rd_T34 x5_1 x19_2).f3)] 34 (0, 0)) (by (with_reducible repeat (first | refine blk_drewN ?_ _ | refine blk_drew ?_ | refine blk_alloc ?_ _)); exact BK109.out) k_ hk⟩))
                                (case aO => exact (by (with_reducible repeat (first | apply Kd.R_alloc | apply Kd.R_drewN | apply Kd.R_drew)); exact HO127.out))
                                (case aS => exact (below_size (by repeat (first | (with_reducible first | exact HB.out | apply below_alloc | apply pw_below_drewN | apply below_drew1 | refine below_set ?_ GE105.out | refine below_set ?_ GE107.out | refine below_set ?_ GE109.out) | exact HB.out))))
                                (case aL => have := LMc22.out; omega)
                                intro v129 w38 ho hb hg hat
                                rw [← Ny128.out] at ho
                                have n0_ := Aside0.mk (Kd.R_after (ok := (fun k_ => some k_ ≠ (.slice Ao39 y118.length co39 : Value).ownBlock ∧ k_ ≠ gb107 ∧ k_ ≠ gb109)) (by (with_reducible repeat (first | apply Kd.R_alloc | apply Kd.R_drewN | apply Kd.R_drew)); exact Kd.R_mono HO_5.out (fun _ hk => ⟨⟨hk.1.2, ⟨hk.1.1.1, hk.1.1.2⟩⟩, hk.2⟩)) hg hat)
                                have n1_ := Aside0.mk (blk_grown (g := gb105) (o := .cells #[.func (.func 34) #[] #[]] 40 (0, 0)) (by (with_reducible repeat (first | refine blk_drewN ?_ _ | refine blk_drew ?_ | refine blk_alloc ?_ _)); exact BK105.out) hg (Kd.R_ne HO127.out BK105.out (by decide)))
                                have n2_ := Aside0.mk (blk_grown (g := gb107) (o := .cells #[.int .i64 ((rd_T34 l1 x13_1).f0), .int .i64 ((rd_T34 l1 x13_1).f1), .int .i64 ((rd_T34 l1 x13_1).f2), .string ((rd_T34 l1 x13_1).f3)] 34 (0, 0)) (by (with_reducible repeat (first | refine blk_drewN ?_ _ | refine blk_drew ?_ | refine blk_alloc ?_ _)); exact BK107.out) hg (Kd.R_away HO127.out (fun _ hk => hk.2.2.1)))
                                have n3_ := Aside0.mk (blk_grown (g := gb109) (o := .cells #[.int .i64 ((rd_T34 x5_1 x19_2).f0), .int .i64 ((rd_T34 x5_1 x19_2).f1), .int .i64 ((rd_T34 x5_1 x19_2).f2), .string ((rd_T34 x5_1 x19_2).f3)] 34 (0, 0)) (by (with_reducible repeat (first | refine blk_drewN ?_ _ | refine blk_drew ?_ | refine blk_alloc ?_ _)); exact BK109.out) hg (Kd.R_away HO127.out (fun _ hk => hk.2.2.2)))
                                have n4_ := Aside0.mk (Kd.R_after (ok := (fun k_ => some k_ ≠ (.slice (some ad108) x5_1.length co10 : Value).ownBlock ∧ k_ ≠ gb107 ∧ k_ ≠ gb109)) (by (with_reducible repeat (first | apply Kd.R_alloc | apply Kd.R_drewN | apply Kd.R_drew)); exact HO120.out) hg hat)
                                have n5_ := Aside0.mk (hb)
                                have n6_ := Aside0.mk ((show Kd.C k34 w38 A33 y114.length y114 from by rw [Ny114.out, KA33.out]; exact Kd.C_drop (m := (x19_2 : Int).toNat) (c := co10) ((Kd.R_reads' (Kd.R_after (ok := (fun k_ => some k_ ≠ (.slice Ao39 y118.length co39 : Value).ownBlock ∧ k_ ≠ gb107 ∧ k_ ≠ gb109)) (by (with_reducible repeat (first | apply Kd.R_alloc | apply Kd.R_drewN | apply Kd.R_drew)); exact Kd.R_mono HO_5.out (fun _ hk => ⟨⟨hk.1.2, ⟨hk.1.1.1, hk.1.1.2⟩⟩, hk.2⟩)) hg hat)).2.2) KL33.out ((Kd.R_reads' (Kd.R_after (ok := (fun k_ => some k_ ≠ (.slice Ao39 y118.length co39 : Value).ownBlock ∧ k_ ≠ gb107 ∧ k_ ≠ gb109)) (by (with_reducible repeat (first | apply Kd.R_alloc | apply Kd.R_drewN | apply Kd.R_drew)); exact Kd.R_mono HO_5.out (fun _ hk => ⟨⟨hk.1.2, ⟨hk.1.1.1, hk.1.1.2⟩⟩, hk.2⟩)) hg hat)).2.1)))
                                have n7_ := Aside0.mk ((show Kd.C k34 w38 (some ad108) y121.length y121 from by rw [Ny121.out]; exact Kd.C_take (m := (x19_2 : Int).toNat) ((Kd.R_reads' (Kd.R_after (ok := (fun k_ => some k_ ≠ (.slice Ao39 y118.length co39 : Value).ownBlock ∧ k_ ≠ gb107 ∧ k_ ≠ gb109)) (by (with_reducible repeat (first | apply Kd.R_alloc | apply Kd.R_drewN | apply Kd.R_drew)); exact Kd.R_mono HO_5.out (fun _ hk => ⟨⟨hk.1.2, ⟨hk.1.1.1, hk.1.1.2⟩⟩, hk.2⟩)) hg hat)).2.2) KL36.out))
                                have n8_ := Aside0.mk (ho)
                                clear HO_5
                                clear BK105
                                clear BK107
                                clear BK109
                                clear HO120
                                clear HB
                                clear HR117
                                clear HR124
                                clear HO127
                                have HO_5 := n0_
                                have BK105 := n1_
                                have BK107 := n2_
                                have BK109 := n3_
                                have HO120 := n4_
                                have HB := n5_
                                have HR117 := n6_
                                have HR124 := n7_
                                have HO130 := n8_
                                clear n0_ n1_ n2_ n3_ n4_ n5_ n6_ n7_ n8_
                                clear ho hb hg hat
                                refine hK.out _ _ ⟨(blk_cell BK107.out 0).trans rfl, (blk_cell BK107.out 1).trans rfl, (blk_cell BK107.out 2).trans rfl, (blk_cell BK107.out 3).trans rfl⟩ (fun hHeld => ?_)
                                clear hK K
                                refine norm_ (a' := ?_) ?_ ?_
                                rotate_left
                                · show Act.put _ (some 42) _ = _
                                  simp only [Act.put, List.setIfInBounds_toArray, List.set_cons_zero, List.set_cons_succ, i64_w, i32_w]
                                  rfl
                                refine pure_ (i := 9) (N := some 5) (v := ?_) (a' := ?_) #[true, true, true, true, true, true, true, true, true, true] rfl rfl (any_of HT_.out (by kernel_rfl)) (fun _ _ _ h => h) (Or.inl ⟨by rfl, ?_⟩) ?_ ?_
                                rotate_left
                                · intro w'
                                  go_simp
                                  with_reducible rfl
                                rotate_left
                                · simp only [Act.put, List.setIfInBounds_toArray, List.set_cons_zero, List.set_cons_succ, i64_w, i32_w]
                                  rfl
                                refine done_ (done_of HT_.out (by kernel_rfl)) ?_
                                try go_wp2
                                go_roundg k2
                                case measure => have := HK1.out; have := HK2.out; omega
                                case rel => exact ⟨(y128), (wrap64 (x13_1 + 1)), (by first | rfl | (simp; done) | (simp [*]; done)), H', ⟨by have := HK1.out; have := HK2.out; omega⟩, ⟨by (with_reducible repeat (first | apply Kd.R_alloc | apply Kd.R_drewN | apply Kd.R_drew)); exact Kd.R_mono HO130.out (fun _ hk => trivial)⟩, ⟨by (with_reducible repeat (first | refine blk_drewN ?_ _ | refine blk_drew ?_ | refine blk_alloc ?_ _)); exact BK105.out⟩, ⟨by repeat (first | (with_reducible first | exact HB.out | apply below_alloc | apply pw_below_drewN | apply below_drew1 | refine below_set ?_ GE105.out | refine below_set ?_ GE107.out | refine below_set ?_ GE109.out) | exact HB.out)⟩⟩
                              · rw [if_neg c22] at H
                                exact absurd H (by simp)
                            · rw [if_neg c21] at H
                              exact absurd H (by simp)
                          · rw [if_neg c18] at H
                            exact absurd H (by simp)
                        · rw [if_neg c17] at H
                          exact absurd H (by simp)
                      · replace c15 := Bool.eq_false_iff.mpr c15
                        subst c15
                        have H1 : (queue_sorter_sorted.l1 k2 x5_1 l1 (l1.length : Int) x13_1 (x5_1.length : Int) (wrap64 (x19_2 + 1)) ((rd_T34 l1 x13_1).f0) ((rd_T34 l1 x13_1).f1) ((rd_T34 l1 x13_1).f2) ((rd_T34 l1 x13_1).f3)) = some r := by rw [if_neg (show ¬ (false = true) by decide)] at H; exact H
                        clear H
                        have H := H1
                        clear H1
                        have H' := Aside0.mk H
                        clear H
                        have p108 : 0 ≤ (x19_2 : Int) := of_decide_eq_true (by first | (with_reducible assumption) | assumption)
                        have q108 : x19_2 < (x5_1.length : Int) := of_decide_eq_true (by first | (with_reducible assumption) | assumption)
                        obtain ⟨ad108, e108, hx108_0, hx108_1, hx108_2, hx108_3⟩ := at_T34 (Kd.R_reads' HO_5.out).2.2 x19_2 p108 q108
                        cases e108
                        replace p108 := eq_true p108
                        replace q108 := eq_true q108
                        go_wp2_with (first | ((with_reducible refine gate_dst (N := 9) rfl ?_); refine box_event ?hg (N := 9) ?hd (cs := #[.int .i64 0, .int .i64 0, .int .i64 0, .string (⟨#[]⟩ : ByteArray)]) (t := 34) ?hr ?_; (case hd => rfl); (case hg => rfl); (case hr => first | (go_simp; done) | (go_simp; rfl)); intro gb109 hg w40 hbox hb; have n0_ := Aside0.mk (Kd.R_below (Kd.R_elderB (by (with_reducible repeat (first | apply Kd.R_alloc | apply Kd.R_drewN | apply Kd.R_drew)); exact HO_5.out) gb109 (Nat.le_of_eq hg.symm)) hb); have n1_ := Aside0.mk (blk_below (g := gb105) (o := .cells #[.func (.func 34) #[] #[]] 40 (0, 0)) (by (with_reducible repeat (first | refine blk_drewN ?_ _ | refine blk_drew ?_ | refine blk_alloc ?_ _)); exact BK105.out) hb); have n2_ := Aside0.mk (blk_below (g := gb107) (o := .cells #[.int .i64 ((rd_T34 l1 x13_1).f0), .int .i64 ((rd_T34 l1 x13_1).f1), .int .i64 ((rd_T34 l1 x13_1).f2), .string ((rd_T34 l1 x13_1).f3)] 34 (0, 0)) (by (with_reducible repeat (first | refine blk_drewN ?_ _ | refine blk_drew ?_ | refine blk_alloc ?_ _)); exact BK107.out) hb); have n3_ := Aside0.mk (below_step (by repeat (first | (with_reducible first | exact HB.out | apply below_alloc | apply pw_below_drewN | apply below_drew1 | refine below_set ?_ GE105.out | refine below_set ?_ GE107.out) | exact HB.out)) hb); have n4_ := Aside0.mk (hbox); have n5_ := Aside0.mk ((by rw [hg]; exact (below_size (by repeat (first | (with_reducible first | exact HB.out | apply below_alloc | apply pw_below_drewN | apply below_drew1 | refine below_set ?_ GE105.out | refine below_set ?_ GE107.out) | exact HB.out))) : w.heap.size ≤ gb109)); have n6_ := Aside0.mk ((by rw [hg]; exact (below_size (by repeat (first | (with_reducible first | exact HB.out | apply below_alloc | apply pw_below_drewN | apply below_drew1 | refine below_set ?_ GE105.out | refine below_set ?_ GE107.out) | exact HB.out))) : w.heap.size ≤ gb109)); have n7_ := Aside0.mk ((by rw [hg]; exact Nat.ne_of_lt (blk_lt (g := gb105) (o := .cells #[.func (.func 34) #[] #[]] 40 (0, 0)) (by (with_reducible repeat (first | refine blk_drewN ?_ _ | refine blk_drew ?_ | refine blk_alloc ?_ _)); exact BK105.out)) : gb105 ≠ gb109)); have n8_ := Aside0.mk ((by rw [hg]; exact Nat.ne_of_gt (blk_lt (g := gb105) (o := .cells #[.func (.func 34) #[] #[]] 40 (0, 0)) (by (with_reducible repeat (first | refine blk_drewN ?_ _ | refine blk_drew ?_ | refine blk_alloc ?_ _)); exact BK105.out)) : gb109 ≠ gb105)); have n9_ := Aside0.mk ((by rw [hg]; exact Nat.ne_of_lt (blk_lt (g := gb107) (o := .cells #[.int .i64 ((rd_T34 l1 x13_1).f0), .int .i64 ((rd_T34 l1 x13_1).f1), .int .i64 ((rd_T34 l1 x13_1).f2), .string ((rd_T34 l1 x13_1).f3)] 34 (0, 0)) (by (with_reducible repeat (first | refine blk_drewN ?_ _ | refine blk_drew ?_ | refine blk_alloc ?_ _)); exact BK107.out)) : gb107 ≠ gb109)); have n10_ := Aside0.mk ((by rw [hg]; exact Nat.ne_of_gt (blk_lt (g := gb107) (o := .cells #[.int .i64 ((rd_T34 l1 x13_1).f0), .int .i64 ((rd_T34 l1 x13_1).f1), .int .i64 ((rd_T34 l1 x13_1).f2), .string ((rd_T34 l1 x13_1).f3)] 34 (0, 0)) (by (with_reducible repeat (first | refine blk_drewN ?_ _ | refine blk_drew ?_ | refine blk_alloc ?_ _)); exact BK107.out)) : gb109 ≠ gb107)); clear HO_5; clear BK105; clear BK107; clear HB; have HO_5 := n0_; have BK105 := n1_; have BK107 := n2_; have HB := n3_; have BK109 := n4_; have GW109 := n5_; have GE109 := n6_; have NB105_109 := n7_; have NB109_105 := n8_; have NB107_109 := n9_; have NB109_107 := n10_; clear n0_ n1_ n2_ n3_ n4_ n5_ n6_ n7_ n8_ n9_ n10_; clear hb hbox hg; have hnb41 := NB109_105.out; have hnc41 := NB105_109.out; have hnb42 := NB109_107.out; have hnc42 := NB107_109.out; have hcz43_0 : w40.cell? ⟨gb109, 0, none⟩ = some (.int .i64 0) := (blk_cell BK109.out 0).trans rfl; have hcz43_1 : w40.cell? ⟨gb109, 1, none⟩ = some (.int .i64 0) := (blk_cell BK109.out 1).trans rfl; have hcz43_2 : w40.cell? ⟨gb109, 2, none⟩ = some (.int .i64 0) := (blk_cell BK109.out 2).trans rfl; have hcz43_3 : w40.cell? ⟨gb109, 3, none⟩ = some (.string (⟨#[]⟩ : ByteArray)) := (blk_cell BK109.out 3).trans rfl; have hfz43_0 := blk_frozen BK109.out 0; have hfz43_1 := blk_frozen BK109.out 1; have hfz43_2 := blk_frozen BK109.out 2; have hfz43_3 := blk_frozen BK109.out 3; have hnb44 := NB105_107.out; have hnc44 := NB107_105.out; have hcz45_0 : w40.cell? ⟨gb105, 0, none⟩ = some (.func (.func 34) #[] #[]) := (blk_cell BK105.out 0).trans rfl; have hfz45_0 := blk_frozen BK105.out 0; have hcz46_0 : w40.cell? ⟨gb107, 0, none⟩ = some (.int .i64 ((rd_T34 l1 x13_1).f0)) := (blk_cell BK107.out 0).trans rfl; have hcz46_1 : w40.cell? ⟨gb107, 1, none⟩ = some (.int .i64 ((rd_T34 l1 x13_1).f1)) := (blk_cell BK107.out 1).trans rfl; have hcz46_2 : w40.cell? ⟨gb107, 2, none⟩ = some (.int .i64 ((rd_T34 l1 x13_1).f2)) := (blk_cell BK107.out 2).trans rfl; have hcz46_3 : w40.cell? ⟨gb107, 3, none⟩ = some (.string ((rd_T34 l1 x13_1).f3)) := (blk_cell BK107.out 3).trans rfl; have hfz46_0 := blk_frozen BK107.out 0; have hfz46_1 := blk_frozen BK107.out 1; have hfz46_2 := blk_frozen BK107.out 2; have hfz46_3 := blk_frozen BK107.out 3) | ((with_reducible refine (queue_byEnd_1.calls ((rd_T34 l1 x13_1).f0) ((rd_T34 l1 x13_1).f1) ((rd_T34 l1 x13_1).f2) ((rd_T34 l1 x13_1).f3) ((rd_T34 x5_1 x19_2).f0) ((rd_T34 x5_1 x19_2).f1) ((rd_T34 x5_1 x19_2).f2) ((rd_T34 x5_1 x19_2).f3) false _ A14.out).mono ?_); rintro e w47 ⟨rfl, hb⟩; have n0_ := Aside0.mk (Kd.R_below (by (with_reducible repeat (first | apply Kd.R_alloc | apply Kd.R_drewN | apply Kd.R_drew)); exact (Kd.R_mono (Kd.R_far (p := ⟨gb109, 3, none⟩) (Kd.R_far (p := ⟨gb109, 2, none⟩) (Kd.R_far (p := ⟨gb109, 1, none⟩) (Kd.R_far (p := ⟨gb109, 0, none⟩) (Kd.R_mono HO_5.out (fun k_ hk => (⟨hk, hk.2⟩ : _ ∧ k_ ≠ gb109))) (fun _ hk => hk.2) (.int .i64 ((rd_T34 x5_1 x19_2).f0))) (fun _ hk => hk.2) (.int .i64 ((rd_T34 x5_1 x19_2).f1))) (fun _ hk => hk.2) (.int .i64 ((rd_T34 x5_1 x19_2).f2))) (fun _ hk => hk.2) (.string ((rd_T34 x5_1 x19_2).f3))) (fun _ h_ => h_.1))) hb); have n1_ := Aside0.mk (blk_below (g := gb105) (o := .cells #[.func (.func 34) #[] #[]] 40 (0, 0)) (by (with_reducible repeat (first | refine blk_drewN ?_ _ | refine blk_drew ?_ | refine blk_alloc ?_ _)); refine blk_far ?_ NB105_109.out _; (with_reducible repeat (first | refine blk_drewN ?_ _ | refine blk_drew ?_ | refine blk_alloc ?_ _)); refine blk_far ?_ NB105_109.out _; (with_reducible repeat (first | refine blk_drewN ?_ _ | refine blk_drew ?_ | refine blk_alloc ?_ _)); refine blk_far ?_ NB105_109.out _; (with_reducible repeat (first | refine blk_drewN ?_ _ | refine blk_drew ?_ | refine blk_alloc ?_ _)); refine blk_far ?_ NB105_109.out _; (with_reducible repeat (first | refine blk_drewN ?_ _ | refine blk_drew ?_ | refine blk_alloc ?_ _)); exact BK105.out) hb); have n2_ := Aside0.mk (blk_below (g := gb107) (o := .cells #[.int .i64 ((rd_T34 l1 x13_1).f0), .int .i64 ((rd_T34 l1 x13_1).f1), .int .i64 ((rd_T34 l1 x13_1).f2), .string ((rd_T34 l1 x13_1).f3)] 34 (0, 0)) (by (with_reducible repeat (first | refine blk_drewN ?_ _ | refine blk_drew ?_ | refine blk_alloc ?_ _)); refine blk_far ?_ NB107_109.out _; (with_reducible repeat (first | refine blk_drewN ?_ _ | refine blk_drew ?_ | refine blk_alloc ?_ _)); refine blk_far ?_ NB107_109.out _; (with_reducible repeat (first | refine blk_drewN ?_ _ | refine blk_drew ?_ | refine blk_alloc ?_ _)); refine blk_far ?_ NB107_109.out _; (with_reducible repeat (first | refine blk_drewN ?_ _ | refine blk_drew ?_ | refine blk_alloc ?_ _)); refine blk_far ?_ NB107_109.out _; (with_reducible repeat (first | refine blk_drewN ?_ _ | refine blk_drew ?_ | refine blk_alloc ?_ _)); exact BK107.out) hb); have n3_ := Aside0.mk (blk_below (g := gb109) (o := .cells #[.int .i64 ((rd_T34 x5_1 x19_2).f0), .int .i64 ((rd_T34 x5_1 x19_2).f1), .int .i64 ((rd_T34 x5_1 x19_2).f2), .string ((rd_T34 x5_1 x19_2).f3)] 34 (0, 0)) (by (with_reducible repeat (first | refine blk_drewN ?_ _ | refine blk_drew ?_ | refine blk_alloc ?_ _)); refine blk_put (cs := #[.int .i64 ((rd_T34 x5_1 x19_2).f0), .int .i64 ((rd_T34 x5_1 x19_2).f1), .int .i64 ((rd_T34 x5_1 x19_2).f2), .string (⟨#[]⟩ : ByteArray)]) ?_ 3 _ rfl; (with_reducible repeat (first | refine blk_drewN ?_ _ | refine blk_drew ?_ | refine blk_alloc ?_ _)); refine blk_put (cs := #[.int .i64 ((rd_T34 x5_1 x19_2).f0), .int .i64 ((rd_T34 x5_1 x19_2).f1), .int .i64 0, .string (⟨#[]⟩ : ByteArray)]) ?_ 2 _ rfl; (with_reducible repeat (first | refine blk_drewN ?_ _ | refine blk_drew ?_ | refine blk_alloc ?_ _)); refine blk_put (cs := #[.int .i64 ((rd_T34 x5_1 x19_2).f0), .int .i64 0, .int .i64 0, .string (⟨#[]⟩ : ByteArray)]) ?_ 1 _ rfl; (with_reducible repeat (first | refine blk_drewN ?_ _ | refine blk_drew ?_ | refine blk_alloc ?_ _)); refine blk_put (cs := #[.int .i64 0, .int .i64 0, .int .i64 0, .string (⟨#[]⟩ : ByteArray)]) ?_ 0 _ rfl; (with_reducible repeat (first | refine blk_drewN ?_ _ | refine blk_drew ?_ | refine blk_alloc ?_ _)); exact BK109.out) hb); have n4_ := Aside0.mk (below_step (by repeat (first | (with_reducible first | exact HB.out | apply below_alloc | apply pw_below_drewN | apply below_drew1 | refine below_set ?_ GE105.out | refine below_set ?_ GE107.out | refine below_set ?_ GE109.out) | exact HB.out)) hb); clear HO_5; clear BK105; clear BK107; clear BK109; clear HB; have HO_5 := n0_; have BK105 := n1_; have BK107 := n2_; have BK109 := n3_; have HB := n4_; clear n0_ n1_ n2_ n3_ n4_; (try clear hb); (try clear hb2); (try clear hk); (try clear hi)))
                        go_roundg k2
                        case measure => have := HK1.out; have := HK2.out; omega
                        case rel => exact ⟨(wrap64 (x19_2 + 1)), (by first | rfl | (simp; done) | (simp [*]; done)), (by first | rfl | (simp; done) | (simp [*]; done)), H', ⟨by have := HK1.out; have := HK2.out; omega⟩, ⟨by (with_reducible repeat (first | apply Kd.R_alloc | apply Kd.R_drewN | apply Kd.R_drew)); exact Kd.R_mono HO_5.out (fun _ hk => hk.1)⟩, ⟨by (with_reducible repeat (first | refine blk_drewN ?_ _ | refine blk_drew ?_ | refine blk_alloc ?_ _)); exact BK105.out⟩, ⟨by (with_reducible repeat (first | refine blk_drewN ?_ _ | refine blk_drew ?_ | refine blk_alloc ?_ _)); exact BK107.out⟩, ⟨by repeat (first | (with_reducible first | exact HB.out | apply below_alloc | apply pw_below_drewN | apply below_drew1 | refine below_set ?_ GE105.out | refine below_set ?_ GE107.out | refine below_set ?_ GE109.out) | exact HB.out)⟩⟩
                    · rw [if_neg c13] at H
                      exact absurd H (by simp)
                  · rw [if_neg c12] at H
                    exact absurd H (by simp)
                · rw [if_neg c11] at H
                  have c11b0 : decide (x19_2 < (x5_1.length : Int)) = false := decide_eq_false c11
                  clear c11
                  by_cases c48 : x5_1.length < 3518437208883
                  · rw [if_pos c48] at H
                    have LMc48 := Aside0.mk c48
                    clear c48
                    obtain ⟨y131, hy131⟩ : ∃ y_ : List (S34), y_ = (x5_1 ++ [(⟨((rd_T34 l1 x13_1).f0), ((rd_T34 l1 x13_1).f1), ((rd_T34 l1 x13_1).f2), ((rd_T34 l1 x13_1).f3)⟩ : S34)]) := ⟨_, rfl⟩
                    replace H : (queue_sorter_sorted.l0 k2 y131 l1 (l1.length : Int) (wrap64 (x13_1 + 1))) = some r := by first | (rw [hy131]; with_reducible exact H) | (have H2_ := (Option.bind_some _ _).symm.trans H; rw [hy131]; with_reducible exact H2_) | (have H2_ := (Option.bind_some _ _).symm.trans H; with_reducible exact H2_) | with_reducible exact H | (rw [hy131]; exact H) | exact H
                    have Ny131 := Aside0.mk hy131
                    clear hy131
                    have H' := Aside0.mk H
                    clear H
                    have hnb49 := NB107_105.out
                    have hnc49 := NB105_107.out
                    have hcz50_0 : wr.cell? ⟨gb107, 0, none⟩ = some (.int .i64 ((rd_T34 l1 x13_1).f0)) := (blk_cell BK107.out 0).trans rfl
                    have hcz50_1 : wr.cell? ⟨gb107, 1, none⟩ = some (.int .i64 ((rd_T34 l1 x13_1).f1)) := (blk_cell BK107.out 1).trans rfl
                    have hcz50_2 : wr.cell? ⟨gb107, 2, none⟩ = some (.int .i64 ((rd_T34 l1 x13_1).f2)) := (blk_cell BK107.out 2).trans rfl
                    have hcz50_3 : wr.cell? ⟨gb107, 3, none⟩ = some (.string ((rd_T34 l1 x13_1).f3)) := (blk_cell BK107.out 3).trans rfl
                    have hfz50_0 := blk_frozen BK107.out 0
                    have hfz50_1 := blk_frozen BK107.out 1
                    have hfz50_2 := blk_frozen BK107.out 2
                    have hfz50_3 := blk_frozen BK107.out 3
                    go_wp2_with (first | ((with_reducible refine gate_builtin (b := .append) (xs := #[.tmp 44, .tmp 46]) rfl ?_); at_builtin; refine Kd.R_append k34 (w0 := w) w.heap.size rfl (.tmp 44) (.tmp 46) 22 34 (.agg #[(.int .i64 0), (.int .i64 0), (.int .i64 0), (.string ⟨#[]⟩)]) 40 rfl Try.underlying22 info34 rfl (by decide) (by omega) (.slice Ao10 x5_1.length co10) x5_1 (⟨((rd_T34 l1 x13_1).f0), ((rd_T34 l1 x13_1).f1), ((rd_T34 l1 x13_1).f2), ((rd_T34 l1 x13_1).f3)⟩ : S34) [.int .i64 ((rd_T34 l1 x13_1).f0), .int .i64 ((rd_T34 l1 x13_1).f1), .int .i64 ((rd_T34 l1 x13_1).f2), .string ((rd_T34 l1 x13_1).f3)] (fun k_ => k_ ≠ gb107) (fun _ => False) rfl rfl ?aP (fun _ hk => hk.elim) ?aF ?aO ?aB ?aS ?aL ?_; (case aP => exact k34_mkM _ _ _ (⟨((rd_T34 l1 x13_1).f0), ((rd_T34 l1 x13_1).f1), ((rd_T34 l1 x13_1).f2), ((rd_T34 l1 x13_1).f3)⟩ : S34)); (case aB => exact (by repeat (first | (with_reducible first | exact HB.out | apply below_alloc | apply pw_below_drewN | apply below_drew1 | refine below_set ?_ GE105.out | refine below_set ?_ GE107.out) | exact HB.out))); (case aF => exact (fun k_ hk => Kd.freshB (g := gb107) (o := .cells #[.int .i64 ((rd_T34 l1 x13_1).f0), .int .i64 ((rd_T34 l1 x13_1).f1), .int .i64 ((rd_T34 l1 x13_1).f2), .string ((rd_T34 l1 x13_1).f3)] 34 (0, 0)) (by (with_reducible repeat (first | refine blk_drewN ?_ _ | refine blk_drew ?_ | refine blk_alloc ?_ _)); exact BK107.out) k_ hk)); (case aO => exact (by (with_reducible repeat (first | apply Kd.R_alloc | apply Kd.R_drewN | apply Kd.R_drew)); exact HO_5.out)); (case aS => exact (below_size (by repeat (first | (with_reducible first | exact HB.out | apply below_alloc | apply pw_below_drewN | apply below_drew1 | refine below_set ?_ GE105.out | refine below_set ?_ GE107.out) | exact HB.out)))); (case aL => have := LMc48.out; omega); intro v132 w51 ho hb hg hat; rw [← Ny131.out] at ho; have n0_ := Aside0.mk (blk_grown (g := gb105) (o := .cells #[.func (.func 34) #[] #[]] 40 (0, 0)) (by (with_reducible repeat (first | refine blk_drewN ?_ _ | refine blk_drew ?_ | refine blk_alloc ?_ _)); exact BK105.out) hg (Kd.R_ne HO_5.out BK105.out (by decide))); have n1_ := Aside0.mk (blk_grown (g := gb107) (o := .cells #[.int .i64 ((rd_T34 l1 x13_1).f0), .int .i64 ((rd_T34 l1 x13_1).f1), .int .i64 ((rd_T34 l1 x13_1).f2), .string ((rd_T34 l1 x13_1).f3)] 34 (0, 0)) (by (with_reducible repeat (first | refine blk_drewN ?_ _ | refine blk_drew ?_ | refine blk_alloc ?_ _)); exact BK107.out) hg (Kd.R_away HO_5.out (fun _ hk => hk))); have n2_ := Aside0.mk (hb); have n3_ := Aside0.mk (ho); clear BK105; clear BK107; clear HB; clear HO_5; have BK105 := n0_; have BK107 := n1_; have HB := n2_; have HO133 := n3_; clear n0_ n1_ n2_ n3_; clear ho hb hg hat))
                    go_roundg k2
                    case measure => have := HK1.out; have := HK2.out; omega
                    case rel => exact ⟨(y131), (wrap64 (x13_1 + 1)), (by first | rfl | (simp; done) | (simp [*]; done)), H', ⟨by have := HK1.out; have := HK2.out; omega⟩, ⟨by (with_reducible repeat (first | apply Kd.R_alloc | apply Kd.R_drewN | apply Kd.R_drew)); exact Kd.R_mono HO133.out (fun _ hk => trivial)⟩, ⟨by (with_reducible repeat (first | refine blk_drewN ?_ _ | refine blk_drew ?_ | refine blk_alloc ?_ _)); exact BK105.out⟩, ⟨by repeat (first | (with_reducible first | exact HB.out | apply below_alloc | apply pw_below_drewN | apply below_drew1 | refine below_set ?_ GE105.out | refine below_set ?_ GE107.out) | exact HB.out)⟩⟩
                  · rw [if_neg c48] at H
                    exact absurd H (by simp)
          · rw [if_neg c6] at H
            exact absurd H (by simp)
        · rw [if_neg c5] at H
          exact absurd H (by simp)
      · rw [if_neg c4] at H
        have c4b0 : decide (x13_1 < (l1.length : Int)) = false := decide_eq_false c4
        clear c4
        obtain rfl := Option.some.inj H
        go_wp2
        (try rw [Exit.noGoto_ret])
        go_ret
        exact ⟨_, by first | rfl | (simp [errW_none, errW_some] <;> rfl) | (simp [*, errW_none, errW_some] <;> rfl), by (with_reducible repeat (first | apply Kd.R_alloc | apply Kd.R_drewN | apply Kd.R_drew)); exact HO_5.out, by repeat (first | (with_reducible first | exact HB.out | apply below_alloc | apply pw_below_drewN | apply below_drew1 | refine below_set ?_ GE105.out) | exact HB.out)⟩

/-! ### addr_Right: function 42 -/
def addr_Right.f (a0 : Int) : Option (Bool) := if a0 ≥ 0 then (some (decide (a0 ≤ 4294967295))) else (some false)
set_option maxHeartbeats 8000000 in
set_option maxRecDepth 100000 in
theorem addr_Right.calls (a0 : Int) (r : Bool) (w : World) (h : addr_Right.f a0 = some r) :
    Calls Try.prog 42 #[.int .i64 a0] w fun e w' => e = .returned (.bool r) ∧ Drawn0 w w' := by
  have H : (if a0 ≥ 0 then (some (decide (a0 ≤ 4294967295))) else (some false)) = some r := h
  clear h
  by_cases c2 : a0 ≥ 0
  · rw [if_pos c2] at H
    have c2b0 : decide (0 ≤ a0) = true := decide_eq_true c2
    clear c2
    obtain rfl := Option.some.inj H
    go_enter Try.func42, Try.ntmps42
    go_wp2
    go_ret
    exact ⟨by first | rfl | (simp; done) | (simp [*]; done), by repeat (first | exact Drawn0.refl _ | apply Drawn0.step)⟩
  · rw [if_neg c2] at H
    have c2b0 : decide (0 ≤ a0) = false := decide_eq_false c2
    clear c2
    obtain rfl := Option.some.inj H
    go_enter Try.func42, Try.ntmps42
    go_wp2
    go_ret
    exact ⟨by first | rfl | (simp; done) | (simp [*]; done), by repeat (first | exact Drawn0.refl _ | apply Drawn0.step)⟩

/-! ### key_Right: function 43 -/
def key_Right.f (a0 : ByteArray) : Option (Bool) := if (a0.size : Int) = 0 then (some false) else (if 0 < (a0.size : Int) then (if (bt a0 0) = 105 then (if (wrap64 ((a0.size : Int) - 1)) ≥ 2 then (some (decide ((wrap64 ((a0.size : Int) - 1)) ≤ 255))) else (some false)) else (if (bt a0 0) = 104 then (if (wrap64 ((a0.size : Int) - 1)) ≥ 2 then (some (decide ((wrap64 ((a0.size : Int) - 1)) ≤ 17))) else (some false)) else (some false))) else (none))
set_option maxHeartbeats 8000000 in
set_option maxRecDepth 100000 in
theorem key_Right.calls (a0 : ByteArray) (r : Bool) (w : World) (h : key_Right.f a0 = some r) :
    Calls Try.prog 43 #[.string a0] w fun e w' => e = .returned (.bool r) ∧ Drawn0 w w' := by
  have H : (if (a0.size : Int) = 0 then (some false) else (if 0 < (a0.size : Int) then (if (bt a0 0) = 105 then (if (wrap64 ((a0.size : Int) - 1)) ≥ 2 then (some (decide ((wrap64 ((a0.size : Int) - 1)) ≤ 255))) else (some false)) else (if (bt a0 0) = 104 then (if (wrap64 ((a0.size : Int) - 1)) ≥ 2 then (some (decide ((wrap64 ((a0.size : Int) - 1)) ≤ 17))) else (some false)) else (some false))) else (none))) = some r := h
  clear h
  by_cases c2 : (a0.size : Int) = 0
  · rw [if_pos c2] at H
    have c2b0 : ((a0.size : Int) == 0) = true := beq_iff_eq.mpr c2
    have c2b1 : ((a0.size : Int) != 0) = false := bne_eq_false_iff_eq.mpr c2
    clear c2
    obtain rfl := Option.some.inj H
    go_enter Try.func43, Try.ntmps43
    go_wp2
    go_ret
    exact ⟨by first | rfl | (simp; done) | (simp [*]; done), by repeat (first | exact Drawn0.refl _ | apply Drawn0.step)⟩
  · rw [if_neg c2] at H
    have c2b0 : ((a0.size : Int) == 0) = false := beq_eq_false_iff_ne.mpr c2
    have c2b1 : ((a0.size : Int) != 0) = true := bne_iff_ne.mpr c2
    by_cases c3 : 0 < (a0.size : Int)
    · rw [if_pos c3] at H
      have c3b0 : decide (0 < (a0.size : Int)) = true := decide_eq_true c3
      have c3b1 : decide (0 < a0.size) = true := decide_eq_true (by omega)
      clear c3
      by_cases c5 : (bt a0 0) = 105
      · rw [if_pos c5] at H
        have c5b0 : ((bt a0 0) == 105) = true := beq_iff_eq.mpr c5
        have c5b1 : ((bt a0 0) != 105) = false := bne_eq_false_iff_eq.mpr c5
        clear c5
        by_cases c6 : (wrap64 ((a0.size : Int) - 1)) ≥ 2
        · rw [if_pos c6] at H
          have c6b0 : decide (2 ≤ (wrap64 ((a0.size : Int) - 1))) = true := decide_eq_true c6
          clear c6
          obtain rfl := Option.some.inj H
          have p4 : 0 ≤ (0 : Int) := (by omega)
          have q4 : 0 < a0.size := (by have : (0 : Int) < (a0.size : Int) := of_decide_eq_true (by first | (with_reducible assumption) | assumption); omega)
          have hx4 : ∀ h : 0 < a0.size, ((a0[0]'h).toNat : Int) = bt a0 0 := bt_at a0 0
          clear p4
          have qi4 : (0 < (a0.size : Int)) = True := eq_true (of_decide_eq_true (by first | (with_reducible assumption) | assumption))
          replace q4 := eq_true q4
          go_enter Try.func43, Try.ntmps43
          go_wp2
          go_ret
          exact ⟨by first | rfl | (simp; done) | (simp [*]; done), by repeat (first | exact Drawn0.refl _ | apply Drawn0.step)⟩
        · rw [if_neg c6] at H
          have c6b0 : decide (2 ≤ (wrap64 ((a0.size : Int) - 1))) = false := decide_eq_false c6
          clear c6
          obtain rfl := Option.some.inj H
          have p4 : 0 ≤ (0 : Int) := (by omega)
          have q4 : 0 < a0.size := (by have : (0 : Int) < (a0.size : Int) := of_decide_eq_true (by first | (with_reducible assumption) | assumption); omega)
          have hx4 : ∀ h : 0 < a0.size, ((a0[0]'h).toNat : Int) = bt a0 0 := bt_at a0 0
          clear p4
          have qi4 : (0 < (a0.size : Int)) = True := eq_true (of_decide_eq_true (by first | (with_reducible assumption) | assumption))
          replace q4 := eq_true q4
          go_enter Try.func43, Try.ntmps43
          go_wp2
          go_ret
          exact ⟨by first | rfl | (simp; done) | (simp [*]; done), by repeat (first | exact Drawn0.refl _ | apply Drawn0.step)⟩
      · rw [if_neg c5] at H
        have c5b0 : ((bt a0 0) == 105) = false := beq_eq_false_iff_ne.mpr c5
        have c5b1 : ((bt a0 0) != 105) = true := bne_iff_ne.mpr c5
        by_cases c7 : (bt a0 0) = 104
        · rw [if_pos c7] at H
          have c7b0 : ((bt a0 0) == 104) = true := beq_iff_eq.mpr c7
          have c7b1 : ((bt a0 0) != 104) = false := bne_eq_false_iff_eq.mpr c7
          clear c7
          by_cases c8 : (wrap64 ((a0.size : Int) - 1)) ≥ 2
          · rw [if_pos c8] at H
            have c8b0 : decide (2 ≤ (wrap64 ((a0.size : Int) - 1))) = true := decide_eq_true c8
            clear c8
            obtain rfl := Option.some.inj H
            have p4 : 0 ≤ (0 : Int) := (by omega)
            have q4 : 0 < a0.size := (by have : (0 : Int) < (a0.size : Int) := of_decide_eq_true (by first | (with_reducible assumption) | assumption); omega)
            have hx4 : ∀ h : 0 < a0.size, ((a0[0]'h).toNat : Int) = bt a0 0 := bt_at a0 0
            clear p4
            have qi4 : (0 < (a0.size : Int)) = True := eq_true (of_decide_eq_true (by first | (with_reducible assumption) | assumption))
            replace q4 := eq_true q4
            go_enter Try.func43, Try.ntmps43
            go_wp2
            go_ret
            exact ⟨by first | rfl | (simp; done) | (simp [*]; done), by repeat (first | exact Drawn0.refl _ | apply Drawn0.step)⟩
          · rw [if_neg c8] at H
            have c8b0 : decide (2 ≤ (wrap64 ((a0.size : Int) - 1))) = false := decide_eq_false c8
            clear c8
            obtain rfl := Option.some.inj H
            have p4 : 0 ≤ (0 : Int) := (by omega)
            have q4 : 0 < a0.size := (by have : (0 : Int) < (a0.size : Int) := of_decide_eq_true (by first | (with_reducible assumption) | assumption); omega)
            have hx4 : ∀ h : 0 < a0.size, ((a0[0]'h).toNat : Int) = bt a0 0 := bt_at a0 0
            clear p4
            have qi4 : (0 < (a0.size : Int)) = True := eq_true (of_decide_eq_true (by first | (with_reducible assumption) | assumption))
            replace q4 := eq_true q4
            go_enter Try.func43, Try.ntmps43
            go_wp2
            go_ret
            exact ⟨by first | rfl | (simp; done) | (simp [*]; done), by repeat (first | exact Drawn0.refl _ | apply Drawn0.step)⟩
        · rw [if_neg c7] at H
          have c7b0 : ((bt a0 0) == 104) = false := beq_eq_false_iff_ne.mpr c7
          have c7b1 : ((bt a0 0) != 104) = true := bne_iff_ne.mpr c7
          obtain rfl := Option.some.inj H
          have p4 : 0 ≤ (0 : Int) := (by omega)
          have q4 : 0 < a0.size := (by have : (0 : Int) < (a0.size : Int) := of_decide_eq_true (by first | (with_reducible assumption) | assumption); omega)
          have hx4 : ∀ h : 0 < a0.size, ((a0[0]'h).toNat : Int) = bt a0 0 := bt_at a0 0
          clear p4
          have qi4 : (0 < (a0.size : Int)) = True := eq_true (of_decide_eq_true (by first | (with_reducible assumption) | assumption))
          replace q4 := eq_true q4
          go_enter Try.func43, Try.ntmps43
          go_wp2
          go_ret
          exact ⟨by first | rfl | (simp; done) | (simp [*]; done), by repeat (first | exact Drawn0.refl _ | apply Drawn0.step)⟩
    · rw [if_neg c3] at H
      exact absurd H (by simp)

/-! ### record_Right: function 40 -/
def record_Right.f (a0_0 : Int) (a0_1 : Int) (a0_2 : Int) (a0_3 : ByteArray) : Option (Bool) := (addr_Right.f a0_0).bind fun t135 => (if t135 = true then (if a0_1 ≥ 1 then (if a0_1 ≤ 3 then (if a0_2 ≥ 0 then (if a0_2 ≤ 1125899906842624 then ((key_Right.f a0_3).bind fun t136 => (some t136)) else (some false)) else (some false)) else (some false)) else (some false)) else (some false))
set_option maxHeartbeats 8000000 in
set_option maxRecDepth 100000 in
theorem record_Right.calls (a0_0 : Int) (a0_1 : Int) (a0_2 : Int) (a0_3 : ByteArray) (r : Bool) (w : World) (h : record_Right.f a0_0 a0_1 a0_2 a0_3 = some r) :
    Calls Try.prog 40 #[.agg #[.int .i64 a0_0, .int .i64 a0_1, .int .i64 a0_2, .string a0_3]] w fun e w' => e = .returned (.bool r) ∧ Below w.heap.size w w' := by
  have hu34 := Try.underlying34
  have HB := Aside0.mk (Below.refl w.heap.size w)
  have H : ((addr_Right.f a0_0).bind fun t135 => (if t135 = true then (if a0_1 ≥ 1 then (if a0_1 ≤ 3 then (if a0_2 ≥ 0 then (if a0_2 ≤ 1125899906842624 then ((key_Right.f a0_3).bind fun t136 => (some t136)) else (some false)) else (some false)) else (some false)) else (some false)) else (some false))) = some r := h
  clear h
  replace H := Option.bind_eq_some_iff.mp H
  obtain ⟨t135, A20, H⟩ := H
  replace H : (if t135 = true then (if a0_1 ≥ 1 then (if a0_1 ≤ 3 then (if a0_2 ≥ 0 then (if a0_2 ≤ 1125899906842624 then ((key_Right.f a0_3).bind fun t136 => (some t136)) else (some false)) else (some false)) else (some false)) else (some false)) else (some false)) = some r := H
  have A2 := Aside0.mk A20
  clear A20
  by_cases c3 : t135 = true
  · subst c3
    have H1 : (if a0_1 ≥ 1 then (if a0_1 ≤ 3 then (if a0_2 ≥ 0 then (if a0_2 ≤ 1125899906842624 then ((key_Right.f a0_3).bind fun t136 => (some t136)) else (some false)) else (some false)) else (some false)) else (some false)) = some r := by rw [if_pos rfl] at H; exact H
    clear H
    have H := H1
    clear H1
    by_cases c4 : a0_1 ≥ 1
    · rw [if_pos c4] at H
      have c4b0 : decide (1 ≤ a0_1) = true := decide_eq_true c4
      clear c4
      by_cases c5 : a0_1 ≤ 3
      · rw [if_pos c5] at H
        have c5b0 : decide (a0_1 ≤ 3) = true := decide_eq_true c5
        clear c5
        by_cases c6 : a0_2 ≥ 0
        · rw [if_pos c6] at H
          have c6b0 : decide (0 ≤ a0_2) = true := decide_eq_true c6
          clear c6
          by_cases c7 : a0_2 ≤ 1125899906842624
          · rw [if_pos c7] at H
            have c7b0 : decide (a0_2 ≤ 1125899906842624) = true := decide_eq_true c7
            clear c7
            replace H := Option.bind_eq_some_iff.mp H
            obtain ⟨t136, A80, H⟩ := H
            replace H : (some t136) = some r := H
            have A8 := Aside0.mk A80
            clear A80
            obtain rfl := Option.some.inj H
            go_enter Try.func40, Try.ntmps40
            go_wp2_with (first | ((with_reducible refine gate_dst (N := 1) rfl ?_); refine box_event ?hg (N := 1) ?hd (cs := #[.int .i64 a0_0, .int .i64 a0_1, .int .i64 a0_2, .string a0_3]) (t := 34) ?hr ?_; (case hd => rfl); (case hg => rfl); (case hr => first | (go_simp; done) | (go_simp; rfl)); intro gb134 hg w9 hbox hb; have n0_ := Aside0.mk (below_step (by repeat (first | (with_reducible first | exact HB.out | apply below_alloc | apply pw_below_drewN | apply below_drew1) | exact HB.out)) hb); have n1_ := Aside0.mk (hbox); have n2_ := Aside0.mk ((by rw [hg]; exact (below_size (by repeat (first | (with_reducible first | exact HB.out | apply below_alloc | apply pw_below_drewN | apply below_drew1) | exact HB.out))) : w.heap.size ≤ gb134)); have n3_ := Aside0.mk ((by rw [hg]; exact (below_size (by repeat (first | (with_reducible first | exact HB.out | apply below_alloc | apply pw_below_drewN | apply below_drew1) | exact HB.out))) : w.heap.size ≤ gb134)); clear HB; have HB := n0_; have BK134 := n1_; have GW134 := n2_; have GE134 := n3_; clear n0_ n1_ n2_ n3_; clear hb hbox hg; have hcz10_0 : w9.cell? ⟨gb134, 0, none⟩ = some (.int .i64 a0_0) := (blk_cell BK134.out 0).trans rfl; have hcz10_1 : w9.cell? ⟨gb134, 1, none⟩ = some (.int .i64 a0_1) := (blk_cell BK134.out 1).trans rfl; have hcz10_2 : w9.cell? ⟨gb134, 2, none⟩ = some (.int .i64 a0_2) := (blk_cell BK134.out 2).trans rfl; have hcz10_3 : w9.cell? ⟨gb134, 3, none⟩ = some (.string a0_3) := (blk_cell BK134.out 3).trans rfl; have hfz10_0 := blk_frozen BK134.out 0; have hfz10_1 := blk_frozen BK134.out 1; have hfz10_2 := blk_frozen BK134.out 2; have hfz10_3 := blk_frozen BK134.out 3) | ((with_reducible refine gate_callee (f := 42) rfl ?_); refine goesL_ (some 5) rfl rfl Try.func42 (by kernel_rfl) rfl #[.int .i64 a0_0] rfl (by (try simp only [List.map_toArray, List.map_cons, List.map_nil]); first | done | rfl | (simp only [List.length_drop, List.length_take]; rfl)) ?_; (with_reducible refine (addr_Right.calls a0_0 true _ A2.out).mono ?_); rintro e w' ⟨rfl, ⟨nd, rfl⟩⟩; refine ⟨_, rfl, ?_⟩) | (go_at_call 43; (with_reducible refine (key_Right.calls a0_3 t136 _ A8.out).mono ?_); rintro e w' ⟨rfl, ⟨nd, rfl⟩⟩))
            go_ret
            exact ⟨by first | rfl | (simp [errW_none, errW_some] <;> rfl) | (simp [*, errW_none, errW_some] <;> rfl), by repeat (first | (with_reducible first | exact HB.out | apply below_alloc | apply pw_below_drewN | apply below_drew1 | refine below_set ?_ GE134.out) | exact HB.out)⟩
          · rw [if_neg c7] at H
            have c7b0 : decide (a0_2 ≤ 1125899906842624) = false := decide_eq_false c7
            clear c7
            obtain rfl := Option.some.inj H
            go_enter Try.func40, Try.ntmps40
            go_wp2_with (first | ((with_reducible refine gate_dst (N := 1) rfl ?_); refine box_event ?hg (N := 1) ?hd (cs := #[.int .i64 a0_0, .int .i64 a0_1, .int .i64 a0_2, .string a0_3]) (t := 34) ?hr ?_; (case hd => rfl); (case hg => rfl); (case hr => first | (go_simp; done) | (go_simp; rfl)); intro gb134 hg w11 hbox hb; have n0_ := Aside0.mk (below_step (by repeat (first | (with_reducible first | exact HB.out | apply below_alloc | apply pw_below_drewN | apply below_drew1) | exact HB.out)) hb); have n1_ := Aside0.mk (hbox); have n2_ := Aside0.mk ((by rw [hg]; exact (below_size (by repeat (first | (with_reducible first | exact HB.out | apply below_alloc | apply pw_below_drewN | apply below_drew1) | exact HB.out))) : w.heap.size ≤ gb134)); have n3_ := Aside0.mk ((by rw [hg]; exact (below_size (by repeat (first | (with_reducible first | exact HB.out | apply below_alloc | apply pw_below_drewN | apply below_drew1) | exact HB.out))) : w.heap.size ≤ gb134)); clear HB; have HB := n0_; have BK134 := n1_; have GW134 := n2_; have GE134 := n3_; clear n0_ n1_ n2_ n3_; clear hb hbox hg; have hcz12_0 : w11.cell? ⟨gb134, 0, none⟩ = some (.int .i64 a0_0) := (blk_cell BK134.out 0).trans rfl; have hcz12_1 : w11.cell? ⟨gb134, 1, none⟩ = some (.int .i64 a0_1) := (blk_cell BK134.out 1).trans rfl; have hcz12_2 : w11.cell? ⟨gb134, 2, none⟩ = some (.int .i64 a0_2) := (blk_cell BK134.out 2).trans rfl; have hcz12_3 : w11.cell? ⟨gb134, 3, none⟩ = some (.string a0_3) := (blk_cell BK134.out 3).trans rfl; have hfz12_0 := blk_frozen BK134.out 0; have hfz12_1 := blk_frozen BK134.out 1; have hfz12_2 := blk_frozen BK134.out 2; have hfz12_3 := blk_frozen BK134.out 3) | ((with_reducible refine gate_callee (f := 42) rfl ?_); refine goesL_ (some 5) rfl rfl Try.func42 (by kernel_rfl) rfl #[.int .i64 a0_0] rfl (by (try simp only [List.map_toArray, List.map_cons, List.map_nil]); first | done | rfl | (simp only [List.length_drop, List.length_take]; rfl)) ?_; (with_reducible refine (addr_Right.calls a0_0 true _ A2.out).mono ?_); rintro e w' ⟨rfl, ⟨nd, rfl⟩⟩; refine ⟨_, rfl, ?_⟩))
            go_ret
            exact ⟨by first | rfl | (simp [errW_none, errW_some] <;> rfl) | (simp [*, errW_none, errW_some] <;> rfl), by repeat (first | (with_reducible first | exact HB.out | apply below_alloc | apply pw_below_drewN | apply below_drew1 | refine below_set ?_ GE134.out) | exact HB.out)⟩
        · rw [if_neg c6] at H
          have c6b0 : decide (0 ≤ a0_2) = false := decide_eq_false c6
          clear c6
          obtain rfl := Option.some.inj H
          go_enter Try.func40, Try.ntmps40
          go_wp2_with (first | ((with_reducible refine gate_dst (N := 1) rfl ?_); refine box_event ?hg (N := 1) ?hd (cs := #[.int .i64 a0_0, .int .i64 a0_1, .int .i64 a0_2, .string a0_3]) (t := 34) ?hr ?_; (case hd => rfl); (case hg => rfl); (case hr => first | (go_simp; done) | (go_simp; rfl)); intro gb134 hg w13 hbox hb; have n0_ := Aside0.mk (below_step (by repeat (first | (with_reducible first | exact HB.out | apply below_alloc | apply pw_below_drewN | apply below_drew1) | exact HB.out)) hb); have n1_ := Aside0.mk (hbox); have n2_ := Aside0.mk ((by rw [hg]; exact (below_size (by repeat (first | (with_reducible first | exact HB.out | apply below_alloc | apply pw_below_drewN | apply below_drew1) | exact HB.out))) : w.heap.size ≤ gb134)); have n3_ := Aside0.mk ((by rw [hg]; exact (below_size (by repeat (first | (with_reducible first | exact HB.out | apply below_alloc | apply pw_below_drewN | apply below_drew1) | exact HB.out))) : w.heap.size ≤ gb134)); clear HB; have HB := n0_; have BK134 := n1_; have GW134 := n2_; have GE134 := n3_; clear n0_ n1_ n2_ n3_; clear hb hbox hg; have hcz14_0 : w13.cell? ⟨gb134, 0, none⟩ = some (.int .i64 a0_0) := (blk_cell BK134.out 0).trans rfl; have hcz14_1 : w13.cell? ⟨gb134, 1, none⟩ = some (.int .i64 a0_1) := (blk_cell BK134.out 1).trans rfl; have hcz14_2 : w13.cell? ⟨gb134, 2, none⟩ = some (.int .i64 a0_2) := (blk_cell BK134.out 2).trans rfl; have hcz14_3 : w13.cell? ⟨gb134, 3, none⟩ = some (.string a0_3) := (blk_cell BK134.out 3).trans rfl; have hfz14_0 := blk_frozen BK134.out 0; have hfz14_1 := blk_frozen BK134.out 1; have hfz14_2 := blk_frozen BK134.out 2; have hfz14_3 := blk_frozen BK134.out 3) | ((with_reducible refine gate_callee (f := 42) rfl ?_); refine goesL_ (some 5) rfl rfl Try.func42 (by kernel_rfl) rfl #[.int .i64 a0_0] rfl (by (try simp only [List.map_toArray, List.map_cons, List.map_nil]); first | done | rfl | (simp only [List.length_drop, List.length_take]; rfl)) ?_; (with_reducible refine (addr_Right.calls a0_0 true _ A2.out).mono ?_); rintro e w' ⟨rfl, ⟨nd, rfl⟩⟩; refine ⟨_, rfl, ?_⟩))
          go_ret
          exact ⟨by first | rfl | (simp [errW_none, errW_some] <;> rfl) | (simp [*, errW_none, errW_some] <;> rfl), by repeat (first | (with_reducible first | exact HB.out | apply below_alloc | apply pw_below_drewN | apply below_drew1 | refine below_set ?_ GE134.out) | exact HB.out)⟩
      · rw [if_neg c5] at H
        have c5b0 : decide (a0_1 ≤ 3) = false := decide_eq_false c5
        clear c5
        obtain rfl := Option.some.inj H
        go_enter Try.func40, Try.ntmps40
        go_wp2_with (first | ((with_reducible refine gate_dst (N := 1) rfl ?_); refine box_event ?hg (N := 1) ?hd (cs := #[.int .i64 a0_0, .int .i64 a0_1, .int .i64 a0_2, .string a0_3]) (t := 34) ?hr ?_; (case hd => rfl); (case hg => rfl); (case hr => first | (go_simp; done) | (go_simp; rfl)); intro gb134 hg w15 hbox hb; have n0_ := Aside0.mk (below_step (by repeat (first | (with_reducible first | exact HB.out | apply below_alloc | apply pw_below_drewN | apply below_drew1) | exact HB.out)) hb); have n1_ := Aside0.mk (hbox); have n2_ := Aside0.mk ((by rw [hg]; exact (below_size (by repeat (first | (with_reducible first | exact HB.out | apply below_alloc | apply pw_below_drewN | apply below_drew1) | exact HB.out))) : w.heap.size ≤ gb134)); have n3_ := Aside0.mk ((by rw [hg]; exact (below_size (by repeat (first | (with_reducible first | exact HB.out | apply below_alloc | apply pw_below_drewN | apply below_drew1) | exact HB.out))) : w.heap.size ≤ gb134)); clear HB; have HB := n0_; have BK134 := n1_; have GW134 := n2_; have GE134 := n3_; clear n0_ n1_ n2_ n3_; clear hb hbox hg; have hcz16_0 : w15.cell? ⟨gb134, 0, none⟩ = some (.int .i64 a0_0) := (blk_cell BK134.out 0).trans rfl; have hcz16_1 : w15.cell? ⟨gb134, 1, none⟩ = some (.int .i64 a0_1) := (blk_cell BK134.out 1).trans rfl; have hcz16_2 : w15.cell? ⟨gb134, 2, none⟩ = some (.int .i64 a0_2) := (blk_cell BK134.out 2).trans rfl; have hcz16_3 : w15.cell? ⟨gb134, 3, none⟩ = some (.string a0_3) := (blk_cell BK134.out 3).trans rfl; have hfz16_0 := blk_frozen BK134.out 0; have hfz16_1 := blk_frozen BK134.out 1; have hfz16_2 := blk_frozen BK134.out 2; have hfz16_3 := blk_frozen BK134.out 3) | ((with_reducible refine gate_callee (f := 42) rfl ?_); refine goesL_ (some 5) rfl rfl Try.func42 (by kernel_rfl) rfl #[.int .i64 a0_0] rfl (by (try simp only [List.map_toArray, List.map_cons, List.map_nil]); first | done | rfl | (simp only [List.length_drop, List.length_take]; rfl)) ?_; (with_reducible refine (addr_Right.calls a0_0 true _ A2.out).mono ?_); rintro e w' ⟨rfl, ⟨nd, rfl⟩⟩; refine ⟨_, rfl, ?_⟩))
        go_ret
        exact ⟨by first | rfl | (simp [errW_none, errW_some] <;> rfl) | (simp [*, errW_none, errW_some] <;> rfl), by repeat (first | (with_reducible first | exact HB.out | apply below_alloc | apply pw_below_drewN | apply below_drew1 | refine below_set ?_ GE134.out) | exact HB.out)⟩
    · rw [if_neg c4] at H
      have c4b0 : decide (1 ≤ a0_1) = false := decide_eq_false c4
      clear c4
      obtain rfl := Option.some.inj H
      go_enter Try.func40, Try.ntmps40
      go_wp2_with (first | ((with_reducible refine gate_dst (N := 1) rfl ?_); refine box_event ?hg (N := 1) ?hd (cs := #[.int .i64 a0_0, .int .i64 a0_1, .int .i64 a0_2, .string a0_3]) (t := 34) ?hr ?_; (case hd => rfl); (case hg => rfl); (case hr => first | (go_simp; done) | (go_simp; rfl)); intro gb134 hg w17 hbox hb; have n0_ := Aside0.mk (below_step (by repeat (first | (with_reducible first | exact HB.out | apply below_alloc | apply pw_below_drewN | apply below_drew1) | exact HB.out)) hb); have n1_ := Aside0.mk (hbox); have n2_ := Aside0.mk ((by rw [hg]; exact (below_size (by repeat (first | (with_reducible first | exact HB.out | apply below_alloc | apply pw_below_drewN | apply below_drew1) | exact HB.out))) : w.heap.size ≤ gb134)); have n3_ := Aside0.mk ((by rw [hg]; exact (below_size (by repeat (first | (with_reducible first | exact HB.out | apply below_alloc | apply pw_below_drewN | apply below_drew1) | exact HB.out))) : w.heap.size ≤ gb134)); clear HB; have HB := n0_; have BK134 := n1_; have GW134 := n2_; have GE134 := n3_; clear n0_ n1_ n2_ n3_; clear hb hbox hg; have hcz18_0 : w17.cell? ⟨gb134, 0, none⟩ = some (.int .i64 a0_0) := (blk_cell BK134.out 0).trans rfl; have hcz18_1 : w17.cell? ⟨gb134, 1, none⟩ = some (.int .i64 a0_1) := (blk_cell BK134.out 1).trans rfl; have hcz18_2 : w17.cell? ⟨gb134, 2, none⟩ = some (.int .i64 a0_2) := (blk_cell BK134.out 2).trans rfl; have hcz18_3 : w17.cell? ⟨gb134, 3, none⟩ = some (.string a0_3) := (blk_cell BK134.out 3).trans rfl; have hfz18_0 := blk_frozen BK134.out 0; have hfz18_1 := blk_frozen BK134.out 1; have hfz18_2 := blk_frozen BK134.out 2; have hfz18_3 := blk_frozen BK134.out 3) | ((with_reducible refine gate_callee (f := 42) rfl ?_); refine goesL_ (some 5) rfl rfl Try.func42 (by kernel_rfl) rfl #[.int .i64 a0_0] rfl (by (try simp only [List.map_toArray, List.map_cons, List.map_nil]); first | done | rfl | (simp only [List.length_drop, List.length_take]; rfl)) ?_; (with_reducible refine (addr_Right.calls a0_0 true _ A2.out).mono ?_); rintro e w' ⟨rfl, ⟨nd, rfl⟩⟩; refine ⟨_, rfl, ?_⟩))
      go_ret
      exact ⟨by first | rfl | (simp [errW_none, errW_some] <;> rfl) | (simp [*, errW_none, errW_some] <;> rfl), by repeat (first | (with_reducible first | exact HB.out | apply below_alloc | apply pw_below_drewN | apply below_drew1 | refine below_set ?_ GE134.out) | exact HB.out)⟩
  · replace c3 := Bool.eq_false_iff.mpr c3
    subst c3
    have H1 : (some false) = some r := by rw [if_neg (show ¬ (false = true) by decide)] at H; exact H
    clear H
    have H := H1
    clear H1
    obtain rfl := Option.some.inj H
    go_enter Try.func40, Try.ntmps40
    go_wp2_with (first | ((with_reducible refine gate_dst (N := 1) rfl ?_); refine box_event ?hg (N := 1) ?hd (cs := #[.int .i64 a0_0, .int .i64 a0_1, .int .i64 a0_2, .string a0_3]) (t := 34) ?hr ?_; (case hd => rfl); (case hg => rfl); (case hr => first | (go_simp; done) | (go_simp; rfl)); intro gb134 hg w19 hbox hb; have n0_ := Aside0.mk (below_step (by repeat (first | (with_reducible first | exact HB.out | apply below_alloc | apply pw_below_drewN | apply below_drew1) | exact HB.out)) hb); have n1_ := Aside0.mk (hbox); have n2_ := Aside0.mk ((by rw [hg]; exact (below_size (by repeat (first | (with_reducible first | exact HB.out | apply below_alloc | apply pw_below_drewN | apply below_drew1) | exact HB.out))) : w.heap.size ≤ gb134)); have n3_ := Aside0.mk ((by rw [hg]; exact (below_size (by repeat (first | (with_reducible first | exact HB.out | apply below_alloc | apply pw_below_drewN | apply below_drew1) | exact HB.out))) : w.heap.size ≤ gb134)); clear HB; have HB := n0_; have BK134 := n1_; have GW134 := n2_; have GE134 := n3_; clear n0_ n1_ n2_ n3_; clear hb hbox hg; have hcz20_0 : w19.cell? ⟨gb134, 0, none⟩ = some (.int .i64 a0_0) := (blk_cell BK134.out 0).trans rfl; have hcz20_1 : w19.cell? ⟨gb134, 1, none⟩ = some (.int .i64 a0_1) := (blk_cell BK134.out 1).trans rfl; have hcz20_2 : w19.cell? ⟨gb134, 2, none⟩ = some (.int .i64 a0_2) := (blk_cell BK134.out 2).trans rfl; have hcz20_3 : w19.cell? ⟨gb134, 3, none⟩ = some (.string a0_3) := (blk_cell BK134.out 3).trans rfl; have hfz20_0 := blk_frozen BK134.out 0; have hfz20_1 := blk_frozen BK134.out 1; have hfz20_2 := blk_frozen BK134.out 2; have hfz20_3 := blk_frozen BK134.out 3) | ((with_reducible refine gate_callee (f := 42) rfl ?_); refine goesL_ (some 5) rfl rfl Try.func42 (by kernel_rfl) rfl #[.int .i64 a0_0] rfl (by (try simp only [List.map_toArray, List.map_cons, List.map_nil]); first | done | rfl | (simp only [List.length_drop, List.length_take]; rfl)) ?_; (with_reducible refine (addr_Right.calls a0_0 false _ A2.out).mono ?_); rintro e w' ⟨rfl, ⟨nd, rfl⟩⟩; refine ⟨_, rfl, ?_⟩))
    go_ret
    exact ⟨by first | rfl | (simp [errW_none, errW_some] <;> rfl) | (simp [*, errW_none, errW_some] <;> rfl), by repeat (first | (with_reducible first | exact HB.out | apply below_alloc | apply pw_below_drewN | apply below_drew1 | refine below_set ?_ GE134.out) | exact HB.out)⟩

end Go.Proofs.Ytkjmfnijagdhpaa.PQueue
