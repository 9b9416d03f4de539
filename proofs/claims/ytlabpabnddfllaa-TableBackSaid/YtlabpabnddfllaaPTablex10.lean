/- Lean functions for Go functions of the given program, and proofs that the code computes them, each under its theorem's own conditions. Written by a program of this session. -/
import Derived.Test.YtlabpabnddfllaaPTablex0
import Derived.Test.YtlabpabnddfllaaPTablex1
import Derived.Test.YtlabpabnddfllaaPTablex2
import Derived.Test.YtlabpabnddfllaaPTablex3
import Derived.Test.YtlabpabnddfllaaPTablex4
import Derived.Test.YtlabpabnddfllaaPTablex5
namespace Go.Proofs.Ytlabpabnddfllaa.PTable
open Go.RowKit Go.Proofs.YtlabpabnddfllaaW.PrintWords Go.Proofs.YtlabpabnddfllaaW.PrintLast Go.Proofs.YtlabpabnddfllaaW.PrintMore
attribute [local go_sem] max2_int min2_int max_two min_two max_three min_three max_four min_four   -- for this text's walks alone
set_option linter.unusedVariables false
set_option linter.unusedSimpArgs false

attribute [local go_sem high] eqA43
/-! ### boarderlaw12_TableBack: function 10 -/
def boarderlaw12_TableBack.j0 : Nat → List (S43) → Int → Bool → Int → Int → Int → ByteArray → Option (Bool)
  | 0, _, _, _, _, _, _, _ => none
  | k + 1, x0, x2, x33, x230000, x230001, x230002, x230003 => if x33 = true then ((boarderlaw12_knows.f k).bind fun t232 => (some t232)) else ((table_Set.f k x0 x230000 x230001 x230002 x230003).bind fun bt233 => (if bt233.2 = 0 then ((table_Get.f k bt233.1 x230000).bind fun bt240 => ((table_Get.f k bt233.1 x2).bind fun bt246 => ((table_Get.f k x0 x2).bind fun bt252 => (if (bt240.1 == x230000 && (bt240.2.1 == x230001 && (bt240.2.2.1 == x230002 && (bt240.2.2.2.1.toList == x230003.toList)))) = true then (if bt240.2.2.2.2 = true then (if (bt246.1 == bt252.1 && (bt246.2.1 == bt252.2.1 && (bt246.2.2.1 == bt252.2.2.1 && (bt246.2.2.2.1.toList == bt252.2.2.2.1.toList)))) = true then (if (bt246.2.2.2.2 == bt252.2.2.2.2) = true then ((boarderlaw12_knows.f k).bind fun t258 => (some t258)) else (none)) else (none)) else (none)) else (none))))) else (if (bt233.1.length : Int) = 0 then (if bt233.2 = 3 then ((boarderlaw12_knows.f k).bind fun t237 => (some t237)) else ((boarderref09_Right.f x230000 x230001 x230002 x230003).bind fun t238 => (if t238 = true then (none) else ((boarderlaw12_knows.f k).bind fun t239 => (some t239))))) else (none))))
def boarderlaw12_TableBack.f (k : Nat) (l0 : List (S43)) (a1_0 : Int) (a1_1 : Int) (a1_2 : Int) (a1_3 : ByteArray) (a2 : Int) : Option (Bool) := (boarderlaw12_Great.f k l0).bind fun t230 => (if t230 = true then (boarderlaw12_TableBack.j0 k l0 a2 true a1_0 a1_1 a1_2 a1_3) else (if (a1_3.size : Int) > 1000 then (boarderlaw12_TableBack.j0 k l0 a2 true a1_0 a1_1 a1_2 a1_3) else (if a2 = a1_0 then (boarderlaw12_TableBack.j0 k l0 a2 true a1_0 a1_1 a1_2 a1_3) else ((boarderref12_Right.f k l0).bind fun t231 => (boarderlaw12_TableBack.j0 k l0 a2 (!t231) a1_0 a1_1 a1_2 a1_3)))))
theorem boarderlaw12_TableBack.mono_l : ∀ k, (∀ y0 y1 y2 y3 y4 y5 y6, LeO (boarderlaw12_TableBack.j0 k y0 y1 y2 y3 y4 y5 y6) (boarderlaw12_TableBack.j0 (k + 1) y0 y1 y2 y3 y4 y5 y6))
  | 0 => fun _ _ _ _ _ _ _ r h => by simp [boarderlaw12_TableBack.j0] at h
  | k + 1 => by
    have ih0 := boarderlaw12_TableBack.mono_l k
    · intro y0 y1 y2 y3 y4 y5 y6
      unfold boarderlaw12_TableBack.j0
      repeat' first
      | (with_reducible exact ih0 _ _ _ _ _ _ _)
      | (with_reducible exact boarderlaw12_Great.mono _ _)
      | (with_reducible exact boarderlaw12_knows.mono _)
      | (with_reducible exact boarderref12_Right.mono _ _)
      | (with_reducible exact table_Get.mono _ _ _)
      | (with_reducible exact table_Set.mono _ _ _ _ _ _)
      | (with_reducible exact LeO.refl _)
      | (with_reducible exact LeO.none _)
      | (with_reducible refine LeO.ite ?_ ?_)
      | (with_reducible refine LeO.bind ?_ (fun _ => ?_))
      | exact ih0 _ _ _ _ _ _ _
      | exact boarderlaw12_Great.mono _ _
      | exact boarderlaw12_knows.mono _
      | exact boarderref12_Right.mono _ _
      | exact table_Get.mono _ _ _
      | exact table_Set.mono _ _ _ _ _ _
      | exact LeO.none _
      | refine LeO.ite ?_ ?_
      | refine LeO.bind ?_ (fun _ => ?_)
theorem boarderlaw12_TableBack.mono : ∀ a0 a1 a2 a3 a4 a5 k, LeO (boarderlaw12_TableBack.f k a0 a1 a2 a3 a4 a5) (boarderlaw12_TableBack.f (k + 1) a0 a1 a2 a3 a4 a5) := by
  intro a0 a1 a2 a3 a4 a5 k
  have ih0 := boarderlaw12_TableBack.mono_l k
  unfold boarderlaw12_TableBack.f
  repeat' first
      | (with_reducible exact ih0 _ _ _ _ _ _ _)
      | (with_reducible exact boarderlaw12_Great.mono _ _)
      | (with_reducible exact boarderlaw12_knows.mono _)
      | (with_reducible exact boarderref12_Right.mono _ _)
      | (with_reducible exact table_Get.mono _ _ _)
      | (with_reducible exact table_Set.mono _ _ _ _ _ _)
      | (with_reducible exact LeO.refl _)
      | (with_reducible exact LeO.none _)
      | (with_reducible refine LeO.ite ?_ ?_)
      | (with_reducible refine LeO.bind ?_ (fun _ => ?_))
      | exact ih0 _ _ _ _ _ _ _
      | exact boarderlaw12_Great.mono _ _
      | exact boarderlaw12_knows.mono _
      | exact boarderref12_Right.mono _ _
      | exact table_Get.mono _ _ _
      | exact table_Set.mono _ _ _ _ _ _
      | exact LeO.none _
      | refine LeO.ite ?_ ?_
      | refine LeO.bind ?_ (fun _ => ?_)
set_option maxHeartbeats 8000000 in
set_option maxRecDepth 100000 in
theorem boarderlaw12_TableBack.calls (k : Nat) (A0 : Option Addr) (c0 : Nat) (l0 : List (S43)) (a1_0 : Int) (a1_1 : Int) (a1_2 : Int) (a1_3 : ByteArray) (a2 : Int) (r : Bool) (w : World) (hr0 : Kd.C k43 w A0 l0.length l0) (hc0 : l0.length ≤ c0) (h : boarderlaw12_TableBack.f k l0 a1_0 a1_1 a1_2 a1_3 a2 = some r) :
    Calls Try.prog 10 #[.slice A0 l0.length c0, .agg #[.int .i64 a1_0, .int .i64 a1_1, .int .i64 a1_2, .string a1_3], .int .i64 a2] w fun e w' => e = .returned (.bool r) ∧ Below w.heap.size w w' := by
  have hu43 := Try.underlying43
  have HR0 := Aside0.mk hr0
  have HC0 := Aside0.mk hc0
  clear hr0 hc0
  have HB := Aside0.mk (Below.refl w.heap.size w)
  have H : ((boarderlaw12_Great.f k l0).bind fun t230 => (if t230 = true then (boarderlaw12_TableBack.j0 k l0 a2 true a1_0 a1_1 a1_2 a1_3) else (if (a1_3.size : Int) > 1000 then (boarderlaw12_TableBack.j0 k l0 a2 true a1_0 a1_1 a1_2 a1_3) else (if a2 = a1_0 then (boarderlaw12_TableBack.j0 k l0 a2 true a1_0 a1_1 a1_2 a1_3) else ((boarderref12_Right.f k l0).bind fun t231 => (boarderlaw12_TableBack.j0 k l0 a2 (!t231) a1_0 a1_1 a1_2 a1_3)))))) = some r := h
  clear h
  have HC4 := Aside0.mk H
  clear H
  go_enter Try.func10, Try.ntmps10
  go_upto_region 1 with (first | ((with_reducible refine gate_dst (N := 4) rfl ?_); (try (refine gate_guard (by rfl) ?_; dsimp only)); refine box_event ?hg (N := 4) ?hd (cs := #[.int .i64 a1_0, .int .i64 a1_1, .int .i64 a1_2, .string a1_3]) (t := 43) ?hr ?_; (case hd => rfl); (case hg => rfl); (case hr => first | (go_simp; done) | (go_simp; rfl)); intro gb229 hg w5 hbox hb; have n0_ := Aside0.mk (below_step (by repeat (first | (with_reducible first | exact HB.out | apply below_alloc | apply pw_below_drewN | apply below_drew1) | exact HB.out)) hb); have n1_ := Aside0.mk (hbox); have n2_ := Aside0.mk ((by rw [hg]; exact (below_size (by repeat (first | (with_reducible first | exact HB.out | apply below_alloc | apply pw_below_drewN | apply below_drew1) | exact HB.out))) : w.heap.size ≤ gb229)); have n3_ := Aside0.mk ((by rw [hg]; exact (below_size (by repeat (first | (with_reducible first | exact HB.out | apply below_alloc | apply pw_below_drewN | apply below_drew1) | exact HB.out))) : w.heap.size ≤ gb229)); clear HB; have HB := n0_; have BK229 := n1_; have GW229 := n2_; have GE229 := n3_; clear n0_ n1_ n2_ n3_; clear hb hbox hg))
  (try simp only [Act.put, List.setIfInBounds_toArray, List.set_cons_zero, List.set_cons_succ])
  go_cut [33] (fun v33 wc => ∃ (kq : Nat) (x33_3 : Bool), v33 = .bool x33_3 ∧ Aside0 (boarderlaw12_TableBack.j0 kq l0 a2 x33_3 a1_0 a1_1 a1_2 a1_3 = some r) ∧ Aside0 (kq ≤ k) ∧ Aside0 (wc.heap[gb229]? = some (.cells #[.int .i64 a1_0, .int .i64 a1_1, .int .i64 a1_2, .string a1_3] 43 (0, 0))) ∧ Aside0 (Below w.heap.size w wc))
  case first =>
    have H := HC4.out
    clear HC4
    replace H := Option.bind_eq_some_iff.mp H
    obtain ⟨t230, A60, H⟩ := H
    replace H : (if t230 = true then (boarderlaw12_TableBack.j0 k l0 a2 true a1_0 a1_1 a1_2 a1_3) else (if (a1_3.size : Int) > 1000 then (boarderlaw12_TableBack.j0 k l0 a2 true a1_0 a1_1 a1_2 a1_3) else (if a2 = a1_0 then (boarderlaw12_TableBack.j0 k l0 a2 true a1_0 a1_1 a1_2 a1_3) else ((boarderref12_Right.f k l0).bind fun t231 => (boarderlaw12_TableBack.j0 k l0 a2 (!t231) a1_0 a1_1 a1_2 a1_3))))) = some r := H
    have A6 := Aside0.mk A60
    clear A60
    by_cases c7 : t230 = true
    · subst c7
      have H1 : (boarderlaw12_TableBack.j0 k l0 a2 true a1_0 a1_1 a1_2 a1_3) = some r := by rw [if_pos rfl] at H; exact H
      clear H
      have H := H1
      clear H1
      have H' := Aside0.mk H
      clear H
      go_wp2_with (first | ((with_reducible refine gate_callee (f := 32) rfl ?_); refine goesL_ (some 16) rfl rfl Try.func32 (by kernel_rfl) rfl #[.slice A0 l0.length c0] rfl (by (try simp only [List.map_toArray, List.map_cons, List.map_nil]); first | done | rfl | (simp only [List.length_drop, List.length_take]; rfl)) ?_; (with_reducible refine (boarderlaw12_Great.calls k _ _ l0 true _ ?side1 ?side2 A6.out).mono ?_); (case side1 => repeat (first | exact (Kd.C_below HR0.out HB.out) | (with_reducible refine Kd.C_alloc ?_ _) | (with_reducible refine Kd.C_drewN ?_ _) | (with_reducible refine Kd.C_drew ?_))); (case side2 => exact HC0.out); rintro e w' ⟨rfl, ⟨nd, rfl⟩⟩; refine ⟨_, rfl, ?_⟩))
      go_meet
      case rel => exact ⟨_, (true), (by first | rfl | (simp; done) | (simp [*]; done)), H', ⟨by first | omega | exact Nat.le_refl _⟩, ⟨by (with_reducible repeat (first | refine blk_drewN ?_ _ | refine blk_drew ?_ | refine blk_alloc ?_ _)); exact BK229.out⟩, ⟨by repeat (first | (with_reducible first | exact HB.out | apply below_alloc | apply pw_below_drewN | apply below_drew1 | refine below_set ?_ GE229.out) | exact HB.out)⟩⟩
    · replace c7 := Bool.eq_false_iff.mpr c7
      subst c7
      have H1 : (if (a1_3.size : Int) > 1000 then (boarderlaw12_TableBack.j0 k l0 a2 true a1_0 a1_1 a1_2 a1_3) else (if a2 = a1_0 then (boarderlaw12_TableBack.j0 k l0 a2 true a1_0 a1_1 a1_2 a1_3) else ((boarderref12_Right.f k l0).bind fun t231 => (boarderlaw12_TableBack.j0 k l0 a2 (!t231) a1_0 a1_1 a1_2 a1_3)))) = some r := by rw [if_neg (show ¬ (false = true) by decide)] at H; exact H
      clear H
      have H := H1
      clear H1
      by_cases c8 : (a1_3.size : Int) > 1000
      · rw [if_pos c8] at H
        have c8b0 : decide (1000 < (a1_3.size : Int)) = true := decide_eq_true c8
        have c8b1 : decide (1000 < a1_3.size) = true := decide_eq_true (by omega)
        clear c8
        (first | rw [c8b0] | (simp only [i64_w, i32_w]; rw [c8b0]) | skip)
        have H' := Aside0.mk H
        clear H
        go_wp2_with (first | ((with_reducible refine gate_callee (f := 32) rfl ?_); refine goesL_ (some 16) rfl rfl Try.func32 (by kernel_rfl) rfl #[.slice A0 l0.length c0] rfl (by (try simp only [List.map_toArray, List.map_cons, List.map_nil]); first | done | rfl | (simp only [List.length_drop, List.length_take]; rfl)) ?_; (with_reducible refine (boarderlaw12_Great.calls k _ _ l0 false _ ?side1 ?side2 A6.out).mono ?_); (case side1 => repeat (first | exact (Kd.C_below HR0.out HB.out) | (with_reducible refine Kd.C_alloc ?_ _) | (with_reducible refine Kd.C_drewN ?_ _) | (with_reducible refine Kd.C_drew ?_))); (case side2 => exact HC0.out); rintro e w' ⟨rfl, ⟨nd, rfl⟩⟩; refine ⟨_, rfl, ?_⟩; have hcz9_0 : w5.cell? ⟨gb229, 0, none⟩ = some (.int .i64 a1_0) := (blk_cell BK229.out 0).trans rfl; have hcz9_1 : w5.cell? ⟨gb229, 1, none⟩ = some (.int .i64 a1_1) := (blk_cell BK229.out 1).trans rfl; have hcz9_2 : w5.cell? ⟨gb229, 2, none⟩ = some (.int .i64 a1_2) := (blk_cell BK229.out 2).trans rfl; have hcz9_3 : w5.cell? ⟨gb229, 3, none⟩ = some (.string a1_3) := (blk_cell BK229.out 3).trans rfl; have hfz9_0 := blk_frozen BK229.out 0; have hfz9_1 := blk_frozen BK229.out 1; have hfz9_2 := blk_frozen BK229.out 2; have hfz9_3 := blk_frozen BK229.out 3))
        go_meet
        case rel => exact ⟨_, (true), (by first | rfl | (simp; done) | (simp [*]; done)), H', ⟨by first | omega | exact Nat.le_refl _⟩, ⟨by (with_reducible repeat (first | refine blk_drewN ?_ _ | refine blk_drew ?_ | refine blk_alloc ?_ _)); exact BK229.out⟩, ⟨by repeat (first | (with_reducible first | exact HB.out | apply below_alloc | apply pw_below_drewN | apply below_drew1 | refine below_set ?_ GE229.out) | exact HB.out)⟩⟩
      · rw [if_neg c8] at H
        have c8b0 : decide (1000 < (a1_3.size : Int)) = false := decide_eq_false c8
        have c8b1 : decide (1000 < a1_3.size) = false := decide_eq_false (by omega)
        clear c8
        (first | rw [c8b0] | (simp only [i64_w, i32_w]; rw [c8b0]) | skip)
        by_cases c10 : a2 = a1_0
        · rw [if_pos c10] at H
          have c10b0 : (a2 == a1_0) = true := beq_iff_eq.mpr c10
          have c10b1 : (a2 != a1_0) = false := bne_eq_false_iff_eq.mpr c10
          clear c10
          have H' := Aside0.mk H
          clear H
          go_wp2_with (first | ((with_reducible refine gate_callee (f := 32) rfl ?_); refine goesL_ (some 16) rfl rfl Try.func32 (by kernel_rfl) rfl #[.slice A0 l0.length c0] rfl (by (try simp only [List.map_toArray, List.map_cons, List.map_nil]); first | done | rfl | (simp only [List.length_drop, List.length_take]; rfl)) ?_; (with_reducible refine (boarderlaw12_Great.calls k _ _ l0 false _ ?side1 ?side2 A6.out).mono ?_); (case side1 => repeat (first | exact (Kd.C_below HR0.out HB.out) | (with_reducible refine Kd.C_alloc ?_ _) | (with_reducible refine Kd.C_drewN ?_ _) | (with_reducible refine Kd.C_drew ?_))); (case side2 => exact HC0.out); rintro e w' ⟨rfl, ⟨nd, rfl⟩⟩; refine ⟨_, rfl, ?_⟩; have hcz11_0 : w5.cell? ⟨gb229, 0, none⟩ = some (.int .i64 a1_0) := (blk_cell BK229.out 0).trans rfl; have hcz11_1 : w5.cell? ⟨gb229, 1, none⟩ = some (.int .i64 a1_1) := (blk_cell BK229.out 1).trans rfl; have hcz11_2 : w5.cell? ⟨gb229, 2, none⟩ = some (.int .i64 a1_2) := (blk_cell BK229.out 2).trans rfl; have hcz11_3 : w5.cell? ⟨gb229, 3, none⟩ = some (.string a1_3) := (blk_cell BK229.out 3).trans rfl; have hfz11_0 := blk_frozen BK229.out 0; have hfz11_1 := blk_frozen BK229.out 1; have hfz11_2 := blk_frozen BK229.out 2; have hfz11_3 := blk_frozen BK229.out 3))
          go_meet
          case rel => exact ⟨_, (true), (by first | rfl | (simp; done) | (simp [*]; done)), H', ⟨by first | omega | exact Nat.le_refl _⟩, ⟨by (with_reducible repeat (first | refine blk_drewN ?_ _ | refine blk_drew ?_ | refine blk_alloc ?_ _)); exact BK229.out⟩, ⟨by repeat (first | (with_reducible first | exact HB.out | apply below_alloc | apply pw_below_drewN | apply below_drew1 | refine below_set ?_ GE229.out) | exact HB.out)⟩⟩
        · rw [if_neg c10] at H
          have c10b0 : (a2 == a1_0) = false := beq_eq_false_iff_ne.mpr c10
          have c10b1 : (a2 != a1_0) = true := bne_iff_ne.mpr c10
          replace H := Option.bind_eq_some_iff.mp H
          obtain ⟨t231, A120, H⟩ := H
          replace H : (boarderlaw12_TableBack.j0 k l0 a2 (!t231) a1_0 a1_1 a1_2 a1_3) = some r := H
          have A12 := Aside0.mk A120
          clear A120
          have H' := Aside0.mk H
          clear H
          go_wp2_with (first | ((with_reducible refine gate_callee (f := 32) rfl ?_); refine goesL_ (some 16) rfl rfl Try.func32 (by kernel_rfl) rfl #[.slice A0 l0.length c0] rfl (by (try simp only [List.map_toArray, List.map_cons, List.map_nil]); first | done | rfl | (simp only [List.length_drop, List.length_take]; rfl)) ?_; (with_reducible refine (boarderlaw12_Great.calls k _ _ l0 false _ ?side1 ?side2 A6.out).mono ?_); (case side1 => repeat (first | exact (Kd.C_below HR0.out HB.out) | (with_reducible refine Kd.C_alloc ?_ _) | (with_reducible refine Kd.C_drewN ?_ _) | (with_reducible refine Kd.C_drew ?_))); (case side2 => exact HC0.out); rintro e w' ⟨rfl, ⟨nd, rfl⟩⟩; refine ⟨_, rfl, ?_⟩; have hcz13_0 : w5.cell? ⟨gb229, 0, none⟩ = some (.int .i64 a1_0) := (blk_cell BK229.out 0).trans rfl; have hcz13_1 : w5.cell? ⟨gb229, 1, none⟩ = some (.int .i64 a1_1) := (blk_cell BK229.out 1).trans rfl; have hcz13_2 : w5.cell? ⟨gb229, 2, none⟩ = some (.int .i64 a1_2) := (blk_cell BK229.out 2).trans rfl; have hcz13_3 : w5.cell? ⟨gb229, 3, none⟩ = some (.string a1_3) := (blk_cell BK229.out 3).trans rfl; have hfz13_0 := blk_frozen BK229.out 0; have hfz13_1 := blk_frozen BK229.out 1; have hfz13_2 := blk_frozen BK229.out 2; have hfz13_3 := blk_frozen BK229.out 3) | (go_at_call 38; (with_reducible refine (boarderref12_Right.calls k _ _ l0 t231 _ ?side1 ?side2 A12.out).mono ?_); (case side1 => repeat (first | exact (Kd.C_below HR0.out (by repeat (first | (with_reducible first | exact HB.out | apply below_alloc | apply pw_below_drewN | apply below_drew1 | refine below_set ?_ GE229.out) | exact HB.out))) | (with_reducible refine Kd.C_alloc ?_ _) | (with_reducible refine Kd.C_drewN ?_ _) | (with_reducible refine Kd.C_drew ?_))); (case side2 => exact HC0.out); rintro e w14 ⟨rfl, hb⟩; have n0_ := Aside0.mk (blk_below (g := gb229) (o := .cells #[.int .i64 a1_0, .int .i64 a1_1, .int .i64 a1_2, .string a1_3] 43 (0, 0)) (by (with_reducible repeat (first | refine blk_drewN ?_ _ | refine blk_drew ?_ | refine blk_alloc ?_ _)); exact BK229.out) hb); have n1_ := Aside0.mk (below_step (by repeat (first | (with_reducible first | exact HB.out | apply below_alloc | apply pw_below_drewN | apply below_drew1 | refine below_set ?_ GE229.out) | exact HB.out)) hb); clear BK229; clear HB; have BK229 := n0_; have HB := n1_; clear n0_ n1_; (try clear hb); (try clear hb2); (try clear hk); (try clear hi)))
          go_meet
          case rel => exact ⟨_, (!t231), (by first | rfl | (simp; done) | (simp [*]; done)), H', ⟨by first | omega | exact Nat.le_refl _⟩, ⟨by (with_reducible repeat (first | refine blk_drewN ?_ _ | refine blk_drew ?_ | refine blk_alloc ?_ _)); exact BK229.out⟩, ⟨by repeat (first | (with_reducible first | exact HB.out | apply below_alloc | apply pw_below_drewN | apply below_drew1 | refine below_set ?_ GE229.out) | exact HB.out)⟩⟩
  case rest =>
    clear HC4
    try clear c1
    try clear p2
    try clear c3
    try clear c7
    try clear c8
    try clear c8b0
    try clear c8b1
    try clear c10
    try clear c10b0
    try clear c10b1
    try clear hcz11_0
    try clear hcz11_1
    try clear hcz11_2
    try clear hcz11_3
    try clear hcz13_0
    try clear hcz13_1
    try clear hcz13_2
    try clear hcz13_3
    try clear hcz9_0
    try clear hcz9_1
    try clear hcz9_2
    try clear hcz9_3
    try clear hfz11_0
    try clear hfz11_1
    try clear hfz11_2
    try clear hfz11_3
    try clear hfz13_0
    try clear hfz13_1
    try clear hfz13_2
    try clear hfz13_3
    try clear hfz9_0
    try clear hfz9_1
    try clear hfz9_2
    try clear hfz9_3
    obtain ⟨kq, x33_3, rfl, HA, HJ3, BK229, HB⟩ := hcut
    cases kq with
    | zero => exact absurd HA.out (by simp [boarderlaw12_TableBack.j0])
    | succ kj3 =>
      have H := HA.out
      clear HA
      simp only [boarderlaw12_TableBack.j0] at H
      by_cases c15 : x33_3 = true
      · subst c15
        have H1 : ((boarderlaw12_knows.f kj3).bind fun t232 => (some t232)) = some r := by rw [if_pos rfl] at H; exact H
        clear H
        have H := H1
        clear H1
        replace H := Option.bind_eq_some_iff.mp H
        obtain ⟨t232, A160, H⟩ := H
        replace H : (some t232) = some r := H
        have A16 := Aside0.mk A160
        clear A160
        obtain rfl := Option.some.inj H
        go_wp2_with (first | ((with_reducible refine gate_callee (f := 33) rfl ?_); refine goesL_ (some 34) rfl rfl Try.func33 (by kernel_rfl) rfl #[] rfl (by (try simp only [List.map_toArray, List.map_cons, List.map_nil]); first | done | rfl | (simp only [List.length_drop, List.length_take]; rfl)) ?_; (with_reducible refine (boarderlaw12_knows.calls kj3  t232 _ A16.out).mono ?_); rintro e w17 ⟨rfl, hb⟩; refine ⟨_, rfl, ?_⟩; have n0_ := Aside0.mk (blk_below (g := gb229) (o := .cells #[.int .i64 a1_0, .int .i64 a1_1, .int .i64 a1_2, .string a1_3] 43 (0, 0)) (by (with_reducible repeat (first | refine blk_drewN ?_ _ | refine blk_drew ?_ | refine blk_alloc ?_ _)); exact BK229.out) hb); have n1_ := Aside0.mk (below_step (by repeat (first | (with_reducible first | exact HB.out | apply below_alloc | apply pw_below_drewN | apply below_drew1 | refine below_set ?_ GE229.out) | exact HB.out)) hb); clear BK229; clear HB; have BK229 := n0_; have HB := n1_; clear n0_ n1_; (try clear hb); (try clear hb2); (try clear hk); (try clear hi)))
        go_ret
        exact ⟨by first | rfl | (simp [errW_none, errW_some] <;> rfl) | (simp [*, errW_none, errW_some] <;> rfl), by repeat (first | (with_reducible first | exact HB.out | apply below_alloc | apply pw_below_drewN | apply below_drew1 | refine below_set ?_ GE229.out) | exact HB.out)⟩
      · replace c15 := Bool.eq_false_iff.mpr c15
        subst c15
        have H1 : ((table_Set.f kj3 l0 a1_0 a1_1 a1_2 a1_3).bind fun bt233 => (if bt233.2 = 0 then ((table_Get.f kj3 bt233.1 a1_0).bind fun bt240 => ((table_Get.f kj3 bt233.1 a2).bind fun bt246 => ((table_Get.f kj3 l0 a2).bind fun bt252 => (if (bt240.1 == a1_0 && (bt240.2.1 == a1_1 && (bt240.2.2.1 == a1_2 && (bt240.2.2.2.1.toList == a1_3.toList)))) = true then (if bt240.2.2.2.2 = true then (if (bt246.1 == bt252.1 && (bt246.2.1 == bt252.2.1 && (bt246.2.2.1 == bt252.2.2.1 && (bt246.2.2.2.1.toList == bt252.2.2.2.1.toList)))) = true then (if (bt246.2.2.2.2 == bt252.2.2.2.2) = true then ((boarderlaw12_knows.f kj3).bind fun t258 => (some t258)) else (none)) else (none)) else (none)) else (none))))) else (if (bt233.1.length : Int) = 0 then (if bt233.2 = 3 then ((boarderlaw12_knows.f kj3).bind fun t237 => (some t237)) else ((boarderref09_Right.f a1_0 a1_1 a1_2 a1_3).bind fun t238 => (if t238 = true then (none) else ((boarderlaw12_knows.f kj3).bind fun t239 => (some t239))))) else (none)))) = some r := by rw [if_neg (show ¬ (false = true) by decide)] at H; exact H
        clear H
        have H := H1
        clear H1
        replace H := Option.bind_eq_some_iff.mp H
        obtain ⟨⟨t233, t236⟩, A180, H⟩ := H
        replace H : (if t236 = 0 then ((table_Get.f kj3 t233 a1_0).bind fun bt240 => ((table_Get.f kj3 t233 a2).bind fun bt246 => ((table_Get.f kj3 l0 a2).bind fun bt252 => (if (bt240.1 == a1_0 && (bt240.2.1 == a1_1 && (bt240.2.2.1 == a1_2 && (bt240.2.2.2.1.toList == a1_3.toList)))) = true then (if bt240.2.2.2.2 = true then (if (bt246.1 == bt252.1 && (bt246.2.1 == bt252.2.1 && (bt246.2.2.1 == bt252.2.2.1 && (bt246.2.2.2.1.toList == bt252.2.2.2.1.toList)))) = true then (if (bt246.2.2.2.2 == bt252.2.2.2.2) = true then ((boarderlaw12_knows.f kj3).bind fun t258 => (some t258)) else (none)) else (none)) else (none)) else (none))))) else (if (t233.length : Int) = 0 then (if t236 = 3 then ((boarderlaw12_knows.f kj3).bind fun t237 => (some t237)) else ((boarderref09_Right.f a1_0 a1_1 a1_2 a1_3).bind fun t238 => (if t238 = true then (none) else ((boarderlaw12_knows.f kj3).bind fun t239 => (some t239))))) else (none))) = some r := H
        have A18 := Aside0.mk A180
        clear A180
        by_cases c19 : t236 = 0
        · rw [if_pos c19] at H
          have c19b0 : (t236 == 0) = true := beq_iff_eq.mpr c19
          have c19b1 : (t236 != 0) = false := bne_eq_false_iff_eq.mpr c19
          clear c19
          replace H := Option.bind_eq_some_iff.mp H
          obtain ⟨⟨t240, t241, t242, t243, t244⟩, A200, H⟩ := H
          replace H : ((table_Get.f kj3 t233 a2).bind fun bt246 => ((table_Get.f kj3 l0 a2).bind fun bt252 => (if (t240 == a1_0 && (t241 == a1_1 && (t242 == a1_2 && (t243.toList == a1_3.toList)))) = true then (if t244 = true then (if (bt246.1 == bt252.1 && (bt246.2.1 == bt252.2.1 && (bt246.2.2.1 == bt252.2.2.1 && (bt246.2.2.2.1.toList == bt252.2.2.2.1.toList)))) = true then (if (bt246.2.2.2.2 == bt252.2.2.2.2) = true then ((boarderlaw12_knows.f kj3).bind fun t258 => (some t258)) else (none)) else (none)) else (none)) else (none)))) = some r := H
          have A20 := Aside0.mk A200
          clear A200
          replace H := Option.bind_eq_some_iff.mp H
          obtain ⟨⟨t246, t247, t248, t249, t250⟩, A210, H⟩ := H
          replace H : ((table_Get.f kj3 l0 a2).bind fun bt252 => (if (t240 == a1_0 && (t241 == a1_1 && (t242 == a1_2 && (t243.toList == a1_3.toList)))) = true then (if t244 = true then (if (t246 == bt252.1 && (t247 == bt252.2.1 && (t248 == bt252.2.2.1 && (t249.toList == bt252.2.2.2.1.toList)))) = true then (if (t250 == bt252.2.2.2.2) = true then ((boarderlaw12_knows.f kj3).bind fun t258 => (some t258)) else (none)) else (none)) else (none)) else (none))) = some r := H
          have A21 := Aside0.mk A210
          clear A210
          replace H := Option.bind_eq_some_iff.mp H
          obtain ⟨⟨t252, t253, t254, t255, t256⟩, A220, H⟩ := H
          replace H : (if (t240 == a1_0 && (t241 == a1_1 && (t242 == a1_2 && (t243.toList == a1_3.toList)))) = true then (if t244 = true then (if (t246 == t252 && (t247 == t253 && (t248 == t254 && (t249.toList == t255.toList)))) = true then (if (t250 == t256) = true then ((boarderlaw12_knows.f kj3).bind fun t258 => (some t258)) else (none)) else (none)) else (none)) else (none)) = some r := H
          have A22 := Aside0.mk A220
          clear A220
          by_cases c23 : (t240 == a1_0 && (t241 == a1_1 && (t242 == a1_2 && (t243.toList == a1_3.toList)))) = true
          · rw [if_pos c23] at H
            have c23b0 : (t240 == a1_0 && (t241 == a1_1 && (t242 == a1_2 && (t243.toList == a1_3.toList)))) = true := c23
            (try (have c23b1 : decide (t240 = a1_0 && (t241 == a1_1 && (t242 == a1_2 && (t243.toList == a1_3.toList)))) = true := by simpa using c23))
            (try (have c23b2 : (t240 == a1_0 && (t241 == a1_1 && (t242 == a1_2 && (t243.toList == a1_3.toList)))) = true := by simpa using c23))
            clear c23
            by_cases c24 : t244 = true
            · subst c24
              have H1 : (if (t246 == t252 && (t247 == t253 && (t248 == t254 && (t249.toList == t255.toList)))) = true then (if (t250 == t256) = true then ((boarderlaw12_knows.f kj3).bind fun t258 => (some t258)) else (none)) else (none)) = some r := by rw [if_pos rfl] at H; exact H
              clear H
              have H := H1
              clear H1
              by_cases c25 : (t246 == t252 && (t247 == t253 && (t248 == t254 && (t249.toList == t255.toList)))) = true
              · rw [if_pos c25] at H
                have c25b0 : (t246 == t252 && (t247 == t253 && (t248 == t254 && (t249.toList == t255.toList)))) = true := c25
                (try (have c25b1 : decide (t246 = t252 && (t247 == t253 && (t248 == t254 && (t249.toList == t255.toList)))) = true := by simpa using c25))
                (try (have c25b2 : (t246 == t252 && (t247 == t253 && (t248 == t254 && (t249.toList == t255.toList)))) = true := by simpa using c25))
                clear c25
                by_cases c26 : (t250 == t256) = true
                · rw [if_pos c26] at H
                  have c26b0 : (t250 == t256) = true := c26
                  (try (have c26b1 : decide (t250 = t256) = true := by simpa using c26))
                  (try (have c26b2 : (t250 == t256) = true := by simpa using c26))
                  clear c26
                  replace H := Option.bind_eq_some_iff.mp H
                  obtain ⟨t258, A270, H⟩ := H
                  replace H : (some t258) = some r := H
                  have A27 := Aside0.mk A270
                  clear A270
                  obtain rfl := Option.some.inj H
                  have hcz28_0 : wc.cell? ⟨gb229, 0, none⟩ = some (.int .i64 a1_0) := (blk_cell BK229.out 0).trans rfl
                  have hcz28_1 : wc.cell? ⟨gb229, 1, none⟩ = some (.int .i64 a1_1) := (blk_cell BK229.out 1).trans rfl
                  have hcz28_2 : wc.cell? ⟨gb229, 2, none⟩ = some (.int .i64 a1_2) := (blk_cell BK229.out 2).trans rfl
                  have hcz28_3 : wc.cell? ⟨gb229, 3, none⟩ = some (.string a1_3) := (blk_cell BK229.out 3).trans rfl
                  have hfz28_0 := blk_frozen BK229.out 0
                  have hfz28_1 := blk_frozen BK229.out 1
                  have hfz28_2 := blk_frozen BK229.out 2
                  have hfz28_3 := blk_frozen BK229.out 3
                  go_wp2_with (first | ((with_reducible refine gate_callee (f := 34) rfl ?_); refine goesL_ (some 38) rfl rfl Try.func34 (by kernel_rfl) rfl #[.slice A0 l0.length c0, .agg #[.int .i64 a1_0, .int .i64 a1_1, .int .i64 a1_2, .string a1_3]] rfl (by (try simp only [List.map_toArray, List.map_cons, List.map_nil]); first | done | rfl | (simp only [List.length_drop, List.length_take]; rfl)) ?_; (with_reducible refine (table_Set.calls kj3 _ _ l0 a1_0 a1_1 a1_2 a1_3 t233 t236 _ ?side1 ?side2 A18.out).mono ?_); (case side1 => repeat (first | exact (Kd.C_below HR0.out HB.out) | (with_reducible refine Kd.C_alloc ?_ _) | (with_reducible refine Kd.C_drewN ?_ _) | (with_reducible refine Kd.C_drew ?_))); (case side2 => exact HC0.out); rintro e w29 ⟨v234, rfl, ho0, hb⟩; refine ⟨_, rfl, ?_⟩; have n0_ := Aside0.mk (Kd.R_lower (Kd.R_newB ho0 (g := gb229) (o := .cells #[.int .i64 a1_0, .int .i64 a1_1, .int .i64 a1_2, .string a1_3] 43 (0, 0)) (by (with_reducible repeat (first | refine blk_drewN ?_ _ | refine blk_drew ?_ | refine blk_alloc ?_ _)); exact BK229.out)) (below_size (by repeat (first | (with_reducible first | exact HB.out | apply below_alloc | apply pw_below_drewN | apply below_drew1 | refine below_set ?_ GE229.out) | exact HB.out)))); have n1_ := Aside0.mk (blk_below (g := gb229) (o := .cells #[.int .i64 a1_0, .int .i64 a1_1, .int .i64 a1_2, .string a1_3] 43 (0, 0)) (by (with_reducible repeat (first | refine blk_drewN ?_ _ | refine blk_drew ?_ | refine blk_alloc ?_ _)); exact BK229.out) hb); have n2_ := Aside0.mk (below_step (by repeat (first | (with_reducible first | exact HB.out | apply below_alloc | apply pw_below_drewN | apply below_drew1 | refine below_set ?_ GE229.out) | exact HB.out)) hb); clear BK229; clear HB; have HO235 := n0_; have BK229 := n1_; have HB := n2_; clear n0_ n1_ n2_; (try clear hb); (try clear hb2); (try clear hk); (try clear hi); (try clear ho0); have hcz30_0 : w29.cell? ⟨gb229, 0, none⟩ = some (.int .i64 a1_0) := (blk_cell BK229.out 0).trans rfl; have hcz30_1 : w29.cell? ⟨gb229, 1, none⟩ = some (.int .i64 a1_1) := (blk_cell BK229.out 1).trans rfl; have hcz30_2 : w29.cell? ⟨gb229, 2, none⟩ = some (.int .i64 a1_2) := (blk_cell BK229.out 2).trans rfl; have hcz30_3 : w29.cell? ⟨gb229, 3, none⟩ = some (.string a1_3) := (blk_cell BK229.out 3).trans rfl; have hfz30_0 := blk_frozen BK229.out 0; have hfz30_1 := blk_frozen BK229.out 1; have hfz30_2 := blk_frozen BK229.out 2; have hfz30_3 := blk_frozen BK229.out 3; obtain ⟨Ao31, co31, eo31⟩ := Kd.R_slice HO235.out; subst eo31) | ((with_reducible refine gate_callee (f := 40) rfl ?_); refine goesL_ (some 62) rfl rfl Try.func40 (by kernel_rfl) rfl #[.slice Ao31 t233.length co31, .int .i64 a1_0] rfl (by (try simp only [List.map_toArray, List.map_cons, List.map_nil]); first | done | rfl | (simp only [List.length_drop, List.length_take]; rfl)) ?_; (with_reducible refine (table_Get.calls kj3 _ _ t233 a1_0 t240 t241 t242 t243 true _ ?side1 ?side2 A20.out).mono ?_); (case side1 => repeat (first | exact (Kd.R_reads' HO235.out).2.2 | (with_reducible refine Kd.C_alloc ?_ _) | (with_reducible refine Kd.C_drewN ?_ _) | (with_reducible refine Kd.C_drew ?_))); (case side2 => exact (Kd.R_reads' HO235.out).2.1); rintro e w32 ⟨rfl, hb⟩; refine ⟨_, rfl, ?_⟩; have n0_ := Aside0.mk (Kd.R_below (by (with_reducible repeat (first | apply Kd.R_alloc | apply Kd.R_drewN | apply Kd.R_drew)); exact HO235.out) hb); have n1_ := Aside0.mk (blk_below (g := gb229) (o := .cells #[.int .i64 a1_0, .int .i64 a1_1, .int .i64 a1_2, .string a1_3] 43 (0, 0)) (by (with_reducible repeat (first | refine blk_drewN ?_ _ | refine blk_drew ?_ | refine blk_alloc ?_ _)); exact BK229.out) hb); have n2_ := Aside0.mk (below_step (by repeat (first | (with_reducible first | exact HB.out | apply below_alloc | apply pw_below_drewN | apply below_drew1 | refine below_set ?_ GE229.out) | exact HB.out)) hb); clear HO235; clear BK229; clear HB; have HO235 := n0_; have BK229 := n1_; have HB := n2_; clear n0_ n1_ n2_; (try clear hb); (try clear hb2); (try clear hk); (try clear hi)) | ((with_reducible refine gate_dst (N := 9) rfl ?_); (try (refine gate_guard (by rfl) ?_; dsimp only)); refine box_event ?hg (N := 9) ?hd (cs := #[.int .i64 0, .int .i64 0, .int .i64 0, .string (⟨#[]⟩ : ByteArray)]) (t := 43) ?hr ?_; (case hd => rfl); (case hg => rfl); (case hr => first | (go_simp; done) | (go_simp; rfl)); intro gb245 hg w33 hbox hb; have n0_ := Aside0.mk (Kd.R_below (Kd.R_elderB (by (with_reducible repeat (first | apply Kd.R_alloc | apply Kd.R_drewN | apply Kd.R_drew)); exact HO235.out) gb245 (Nat.le_of_eq hg.symm)) hb); have n1_ := Aside0.mk (blk_below (g := gb229) (o := .cells #[.int .i64 a1_0, .int .i64 a1_1, .int .i64 a1_2, .string a1_3] 43 (0, 0)) (by (with_reducible repeat (first | refine blk_drewN ?_ _ | refine blk_drew ?_ | refine blk_alloc ?_ _)); exact BK229.out) hb); have n2_ := Aside0.mk (below_step (by repeat (first | (with_reducible first | exact HB.out | apply below_alloc | apply pw_below_drewN | apply below_drew1 | refine below_set ?_ GE229.out) | exact HB.out)) hb); have n3_ := Aside0.mk (hbox); have n4_ := Aside0.mk ((by rw [hg]; exact (below_size (by repeat (first | (with_reducible first | exact HB.out | apply below_alloc | apply pw_below_drewN | apply below_drew1 | refine below_set ?_ GE229.out) | exact HB.out))) : w.heap.size ≤ gb245)); have n5_ := Aside0.mk ((by rw [hg]; exact (below_size (by repeat (first | (with_reducible first | exact HB.out | apply below_alloc | apply pw_below_drewN | apply below_drew1 | refine below_set ?_ GE229.out) | exact HB.out))) : w.heap.size ≤ gb245)); have n6_ := Aside0.mk ((by rw [hg]; exact Nat.ne_of_lt (blk_lt (g := gb229) (o := .cells #[.int .i64 a1_0, .int .i64 a1_1, .int .i64 a1_2, .string a1_3] 43 (0, 0)) (by (with_reducible repeat (first | refine blk_drewN ?_ _ | refine blk_drew ?_ | refine blk_alloc ?_ _)); exact BK229.out)) : gb229 ≠ gb245)); have n7_ := Aside0.mk ((by rw [hg]; exact Nat.ne_of_gt (blk_lt (g := gb229) (o := .cells #[.int .i64 a1_0, .int .i64 a1_1, .int .i64 a1_2, .string a1_3] 43 (0, 0)) (by (with_reducible repeat (first | refine blk_drewN ?_ _ | refine blk_drew ?_ | refine blk_alloc ?_ _)); exact BK229.out)) : gb245 ≠ gb229)); clear HO235; clear BK229; clear HB; have HO235 := n0_; have BK229 := n1_; have HB := n2_; have BK245 := n3_; have GW245 := n4_; have GE245 := n5_; have NB229_245 := n6_; have NB245_229 := n7_; clear n0_ n1_ n2_ n3_ n4_ n5_ n6_ n7_; clear hb hbox hg; have hnb34 := NB245_229.out; have hnc34 := NB229_245.out; have hcz35_0 : w33.cell? ⟨gb245, 0, none⟩ = some (.int .i64 0) := (blk_cell BK245.out 0).trans rfl; have hcz35_1 : w33.cell? ⟨gb245, 1, none⟩ = some (.int .i64 0) := (blk_cell BK245.out 1).trans rfl; have hcz35_2 : w33.cell? ⟨gb245, 2, none⟩ = some (.int .i64 0) := (blk_cell BK245.out 2).trans rfl; have hcz35_3 : w33.cell? ⟨gb245, 3, none⟩ = some (.string (⟨#[]⟩ : ByteArray)) := (blk_cell BK245.out 3).trans rfl; have hfz35_0 := blk_frozen BK245.out 0; have hfz35_1 := blk_frozen BK245.out 1; have hfz35_2 := blk_frozen BK245.out 2; have hfz35_3 := blk_frozen BK245.out 3) | ((with_reducible refine gate_callee (f := 40) rfl ?_); refine goesL_ (some 68) rfl rfl Try.func40 (by kernel_rfl) rfl #[.slice Ao31 t233.length co31, .int .i64 a2] rfl (by (try simp only [List.map_toArray, List.map_cons, List.map_nil]); first | done | rfl | (simp only [List.length_drop, List.length_take]; rfl)) ?_; (with_reducible refine (table_Get.calls kj3 _ _ t233 a2 t246 t247 t248 t249 t250 _ ?side1 ?side2 A21.out).mono ?_); (case side1 => refine (Kd.R_reads' (e := 43) (base := w.heap.size) (ok := fun k_ => ((True ∧ k_ ≠ gb229) ∧ k_ ≠ gb245)) (n := t233.length) (c := co31) ?_).2.2; exact (by (with_reducible repeat (first | apply Kd.R_alloc | apply Kd.R_drewN | apply Kd.R_drew)); exact (Kd.R_mono (Kd.R_far (p := ⟨gb245, 3, none⟩) (Kd.R_far (p := ⟨gb245, 2, none⟩) (Kd.R_far (p := ⟨gb245, 1, none⟩) (Kd.R_far (p := ⟨gb245, 0, none⟩) (Kd.R_mono HO235.out (fun k_ hk => (⟨hk, hk.2⟩ : _ ∧ k_ ≠ gb245))) (fun _ hk => hk.2) (.int .i64 t240)) (fun _ hk => hk.2) (.int .i64 t241)) (fun _ hk => hk.2) (.int .i64 t242)) (fun _ hk => hk.2) (.string t243)) (fun _ h_ => h_.1)))); (case side2 => exact (Kd.R_reads' HO235.out).2.1); rintro e w36 ⟨rfl, hb⟩; refine ⟨_, rfl, ?_⟩; have n0_ := Aside0.mk (Kd.R_below (by (with_reducible repeat (first | apply Kd.R_alloc | apply Kd.R_drewN | apply Kd.R_drew)); exact (Kd.R_mono (Kd.R_far (p := ⟨gb245, 3, none⟩) (Kd.R_far (p := ⟨gb245, 2, none⟩) (Kd.R_far (p := ⟨gb245, 1, none⟩) (Kd.R_far (p := ⟨gb245, 0, none⟩) (Kd.R_mono HO235.out (fun k_ hk => (⟨hk, hk.2⟩ : _ ∧ k_ ≠ gb245))) (fun _ hk => hk.2) (.int .i64 t240)) (fun _ hk => hk.2) (.int .i64 t241)) (fun _ hk => hk.2) (.int .i64 t242)) (fun _ hk => hk.2) (.string t243)) (fun _ h_ => h_.1))) hb); have n1_ := Aside0.mk (blk_below (g := gb229) (o := .cells #[.int .i64 a1_0, .int .i64 a1_1, .int .i64 a1_2, .string a1_3] 43 (0, 0)) (by (with_reducible repeat (first | refine blk_drewN ?_ _ | refine blk_drew ?_ | refine blk_alloc ?_ _)); refine blk_far ?_ NB229_245.out _; (with_reducible repeat (first | refine blk_drewN ?_ _ | refine blk_drew ?_ | refine blk_alloc ?_ _)); refine blk_far ?_ NB229_245.out _; (with_reducible repeat (first | refine blk_drewN ?_ _ | refine blk_drew ?_ | refine blk_alloc ?_ _)); refine blk_far ?_ NB229_245.out _; (with_reducible repeat (first | refine blk_drewN ?_ _ | refine blk_drew ?_ | refine blk_alloc ?_ _)); refine blk_far ?_ NB229_245.out _; (with_reducible repeat (first | refine blk_drewN ?_ _ | refine blk_drew ?_ | refine blk_alloc ?_ _)); exact BK229.out) hb); have n2_ := Aside0.mk (blk_below (g := gb245) (o := .cells #[.int .i64 t240, .int .i64 t241, .int .i64 t242, .string t243] 43 (0, 0)) (by (with_reducible repeat (first | refine blk_drewN ?_ _ | refine blk_drew ?_ | refine blk_alloc ?_ _)); refine blk_put (cs := #[.int .i64 t240, .int .i64 t241, .int .i64 t242, .string (⟨#[]⟩ : ByteArray)]) ?_ 3 _ rfl; (with_reducible repeat (first | refine blk_drewN ?_ _ | refine blk_drew ?_ | refine blk_alloc ?_ _)); refine blk_put (cs := #[.int .i64 t240, .int .i64 t241, .int .i64 0, .string (⟨#[]⟩ : ByteArray)]) ?_ 2 _ rfl; (with_reducible repeat (first | refine blk_drewN ?_ _ | refine blk_drew ?_ | refine blk_alloc ?_ _)); refine blk_put (cs := #[.int .i64 t240, .int .i64 0, .int .i64 0, .string (⟨#[]⟩ : ByteArray)]) ?_ 1 _ rfl; (with_reducible repeat (first | refine blk_drewN ?_ _ | refine blk_drew ?_ | refine blk_alloc ?_ _)); refine blk_put (cs := #[.int .i64 0, .int .i64 0, .int .i64 0, .string (⟨#[]⟩ : ByteArray)]) ?_ 0 _ rfl; (with_reducible repeat (first | refine blk_drewN ?_ _ | refine blk_drew ?_ | refine blk_alloc ?_ _)); exact BK245.out) hb); have n3_ := Aside0.mk (below_step (by repeat (first | (with_reducible first | exact HB.out | apply below_alloc | apply pw_below_drewN | apply below_drew1 | refine below_set ?_ GE229.out | refine below_set ?_ GE245.out) | exact HB.out)) hb); clear HO235; clear BK229; clear BK245; clear HB; have HO235 := n0_; have BK229 := n1_; have BK245 := n2_; have HB := n3_; clear n0_ n1_ n2_ n3_; (try clear hb); (try clear hb2); (try clear hk); (try clear hi)) | ((with_reducible refine gate_dst (N := 11) rfl ?_); (try (refine gate_guard (by rfl) ?_; dsimp only)); refine box_event ?hg (N := 11) ?hd (cs := #[.int .i64 0, .int .i64 0, .int .i64 0, .string (⟨#[]⟩ : ByteArray)]) (t := 43) ?hr ?_; (case hd => rfl); (case hg => rfl); (case hr => first | (go_simp; done) | (go_simp; rfl)); intro gb251 hg w37 hbox hb; have n0_ := Aside0.mk (Kd.R_below (Kd.R_elderB (by (with_reducible repeat (first | apply Kd.R_alloc | apply Kd.R_drewN | apply Kd.R_drew)); exact HO235.out) gb251 (Nat.le_of_eq hg.symm)) hb); have n1_ := Aside0.mk (blk_below (g := gb229) (o := .cells #[.int .i64 a1_0, .int .i64 a1_1, .int .i64 a1_2, .string a1_3] 43 (0, 0)) (by (with_reducible repeat (first | refine blk_drewN ?_ _ | refine blk_drew ?_ | refine blk_alloc ?_ _)); exact BK229.out) hb); have n2_ := Aside0.mk (blk_below (g := gb245) (o := .cells #[.int .i64 t240, .int .i64 t241, .int .i64 t242, .string t243] 43 (0, 0)) (by (with_reducible repeat (first | refine blk_drewN ?_ _ | refine blk_drew ?_ | refine blk_alloc ?_ _)); exact BK245.out) hb); have n3_ := Aside0.mk (below_step (by repeat (first | (with_reducible first | exact HB.out | apply below_alloc | apply pw_below_drewN | apply below_drew1 | refine below_set ?_ GE229.out | refine below_set ?_ GE245.out) | exact HB.out)) hb); have n4_ := Aside0.mk (hbox); have n5_ := Aside0.mk ((by rw [hg]; exact (below_size (by repeat (first | (with_reducible first | exact HB.out | apply below_alloc | apply pw_below_drewN | apply below_drew1 | refine below_set ?_ GE229.out | refine below_set ?_ GE245.out) | exact HB.out))) : w.heap.size ≤ gb251)); have n6_ := Aside0.mk ((by rw [hg]; exact (below_size (by repeat (first | (with_reducible first | exact HB.out | apply below_alloc | apply pw_below_drewN | apply below_drew1 | refine below_set ?_ GE229.out | refine below_set ?_ GE245.out) | exact HB.out))) : w.heap.size ≤ gb251)); have n7_ := Aside0.mk ((by rw [hg]; exact Nat.ne_of_lt (blk_lt (g := gb229) (o := .cells #[.int .i64 a1_0, .int .i64 a1_1, .int .i64 a1_2, .string a1_3] 43 (0, 0)) (by (with_reducible repeat (first | refine blk_drewN ?_ _ | refine blk_drew ?_ | refine blk_alloc ?_ _)); exact BK229.out)) : gb229 ≠ gb251)); have n8_ := Aside0.mk ((by rw [hg]; exact Nat.ne_of_gt (blk_lt (g := gb229) (o := .cells #[.int .i64 a1_0, .int .i64 a1_1, .int .i64 a1_2, .string a1_3] 43 (0, 0)) (by (with_reducible repeat (first | refine blk_drewN ?_ _ | refine blk_drew ?_ | refine blk_alloc ?_ _)); exact BK229.out)) : gb251 ≠ gb229)); have n9_ := Aside0.mk ((by rw [hg]; exact Nat.ne_of_lt (blk_lt (g := gb245) (o := .cells #[.int .i64 t240, .int .i64 t241, .int .i64 t242, .string t243] 43 (0, 0)) (by (with_reducible repeat (first | refine blk_drewN ?_ _ | refine blk_drew ?_ | refine blk_alloc ?_ _)); exact BK245.out)) : gb245 ≠ gb251)); have n10_ := Aside0.mk ((by rw [hg]; exact Nat.ne_of_gt (blk_lt (g := gb245) (o := .cells #[.int .i64 t240, .int .i64 t241, .int .i64 t242, .string t243] 43 (0, 0)) (by (with_reducible repeat (first | refine blk_drewN ?_ _ | refine blk_drew ?_ | refine blk_alloc ?_ _)); exact BK245.out)) : gb251 ≠ gb245)); clear HO235; clear BK229; clear BK245; clear HB; have HO235 := n0_; have BK229 := n1_; have BK245 := n2_; have HB := n3_; have BK251 := n4_; have GW251 := n5_; have GE251 := n6_; have NB229_251 := n7_; have NB251_229 := n8_; have NB245_251 := n9_; have NB251_245 := n10_; clear n0_ n1_ n2_ n3_ n4_ n5_ n6_ n7_ n8_ n9_ n10_; clear hb hbox hg; have hnb38 := NB251_229.out; have hnc38 := NB229_251.out; have hnb39 := NB251_245.out; have hnc39 := NB245_251.out; have hcz40_0 : w37.cell? ⟨gb251, 0, none⟩ = some (.int .i64 0) := (blk_cell BK251.out 0).trans rfl; have hcz40_1 : w37.cell? ⟨gb251, 1, none⟩ = some (.int .i64 0) := (blk_cell BK251.out 1).trans rfl; have hcz40_2 : w37.cell? ⟨gb251, 2, none⟩ = some (.int .i64 0) := (blk_cell BK251.out 2).trans rfl; have hcz40_3 : w37.cell? ⟨gb251, 3, none⟩ = some (.string (⟨#[]⟩ : ByteArray)) := (blk_cell BK251.out 3).trans rfl; have hfz40_0 := blk_frozen BK251.out 0; have hfz40_1 := blk_frozen BK251.out 1; have hfz40_2 := blk_frozen BK251.out 2; have hfz40_3 := blk_frozen BK251.out 3) | ((with_reducible refine gate_callee (f := 40) rfl ?_); refine goesL_ (some 74) rfl rfl Try.func40 (by kernel_rfl) rfl #[.slice A0 l0.length c0, .int .i64 a2] rfl (by (try simp only [List.map_toArray, List.map_cons, List.map_nil]); first | done | rfl | (simp only [List.length_drop, List.length_take]; rfl)) ?_; (with_reducible refine (table_Get.calls kj3 _ _ l0 a2 t252 t253 t254 t255 t256 _ ?side1 ?side2 A22.out).mono ?_); (case side1 => exact Kd.C_below HR0.out (by repeat (first | (with_reducible first | exact HB.out | apply below_alloc | apply pw_below_drewN | apply below_drew1 | refine below_set ?_ GE229.out | refine below_set ?_ GE245.out | refine below_set ?_ GE251.out) | exact HB.out))); (case side2 => exact HC0.out); rintro e w41 ⟨rfl, hb⟩; refine ⟨_, rfl, ?_⟩; have n0_ := Aside0.mk (Kd.R_below (by (with_reducible repeat (first | apply Kd.R_alloc | apply Kd.R_drewN | apply Kd.R_drew)); exact (Kd.R_mono (Kd.R_far (p := ⟨gb251, 3, none⟩) (Kd.R_far (p := ⟨gb251, 2, none⟩) (Kd.R_far (p := ⟨gb251, 1, none⟩) (Kd.R_far (p := ⟨gb251, 0, none⟩) (Kd.R_mono HO235.out (fun k_ hk => (⟨hk, hk.2⟩ : _ ∧ k_ ≠ gb251))) (fun _ hk => hk.2) (.int .i64 t246)) (fun _ hk => hk.2) (.int .i64 t247)) (fun _ hk => hk.2) (.int .i64 t248)) (fun _ hk => hk.2) (.string t249)) (fun _ h_ => h_.1))) hb); have n1_ := Aside0.mk (blk_below (g := gb229) (o := .cells #[.int .i64 a1_0, .int .i64 a1_1, .int .i64 a1_2, .string a1_3] 43 (0, 0)) (by (with_reducible repeat (first | refine blk_drewN ?_ _ | refine blk_drew ?_ | refine blk_alloc ?_ _)); refine blk_far ?_ NB229_251.out _; (with_reducible repeat (first | refine blk_drewN ?_ _ | refine blk_drew ?_ | refine blk_alloc ?_ _)); refine blk_far ?_ NB229_251.out _; (with_reducible repeat (first | refine blk_drewN ?_ _ | refine blk_drew ?_ | refine blk_alloc ?_ _)); refine blk_far ?_ NB229_251.out _; (with_reducible repeat (first | refine blk_drewN ?_ _ | refine blk_drew ?_ | refine blk_alloc ?_ _)); refine blk_far ?_ NB229_251.out _; (with_reducible repeat (first | refine blk_drewN ?_ _ | refine blk_drew ?_ | refine blk_alloc ?_ _)); exact BK229.out) hb); have n2_ := Aside0.mk (blk_below (g := gb245) (o := .cells #[.int .i64 t240, .int .i64 t241, .int .i64 t242, .string t243] 43 (0, 0)) (by (with_reducible repeat (first | refine blk_drewN ?_ _ | refine blk_drew ?_ | refine blk_alloc ?_ _)); refine blk_far ?_ NB245_251.out _; (with_reducible repeat (first | refine blk_drewN ?_ _ | refine blk_drew ?_ | refine blk_alloc ?_ _)); refine blk_far ?_ NB245_251.out _; (with_reducible repeat (first | refine blk_drewN ?_ _ | refine blk_drew ?_ | refine blk_alloc ?_ _)); refine blk_far ?_ NB245_251.out _; (with_reducible repeat (first | refine blk_drewN ?_ _ | refine blk_drew ?_ | refine blk_alloc ?_ _)); refine blk_far ?_ NB245_251.out _; (with_reducible repeat (first | refine blk_drewN ?_ _ | refine blk_drew ?_ | refine blk_alloc ?_ _)); exact BK245.out) hb); have n3_ := Aside0.mk (blk_below (g := gb251) (o := .cells #[.int .i64 t246, .int .i64 t247, .int .i64 t248, .string t249] 43 (0, 0)) (by (with_reducible repeat (first | refine blk_drewN ?_ _ | refine blk_drew ?_ | refine blk_alloc ?_ _)); refine blk_put (cs := #[.int .i64 t246, .int .i64 t247, .int .i64 t248, .string (⟨#[]⟩ : ByteArray)]) ?_ 3 _ rfl; (with_reducible repeat (first | refine blk_drewN ?_ _ | refine blk_drew ?_ | refine blk_alloc ?_ _)); refine blk_put (cs := #[.int .i64 t246, .int .i64 t247, .int .i64 0, .string (⟨#[]⟩ : ByteArray)]) ?_ 2 _ rfl; (with_reducible repeat (first | refine blk_drewN ?_ _ | refine blk_drew ?_ | refine blk_alloc ?_ _)); refine blk_put (cs := #[.int .i64 t246, .int .i64 0, .int .i64 0, .string (⟨#[]⟩ : ByteArray)]) ?_ 1 _ rfl; (with_reducible repeat (first | refine blk_drewN ?_ _ | refine blk_drew ?_ | refine blk_alloc ?_ _)); refine blk_put (cs := #[.int .i64 0, .int .i64 0, .int .i64 0, .string (⟨#[]⟩ : ByteArray)]) ?_ 0 _ rfl; (with_reducible repeat (first | refine blk_drewN ?_ _ | refine blk_drew ?_ | refine blk_alloc ?_ _)); exact BK251.out) hb); have n4_ := Aside0.mk (below_step (by repeat (first | (with_reducible first | exact HB.out | apply below_alloc | apply pw_below_drewN | apply below_drew1 | refine below_set ?_ GE229.out | refine below_set ?_ GE245.out | refine below_set ?_ GE251.out) | exact HB.out)) hb); clear HO235; clear BK229; clear BK245; clear BK251; clear HB; have HO235 := n0_; have BK229 := n1_; have BK245 := n2_; have BK251 := n3_; have HB := n4_; clear n0_ n1_ n2_ n3_ n4_; (try clear hb); (try clear hb2); (try clear hk); (try clear hi)) | ((with_reducible refine gate_dst (N := 13) rfl ?_); (try (refine gate_guard (by rfl) ?_; dsimp only)); refine box_event ?hg (N := 13) ?hd (cs := #[.int .i64 0, .int .i64 0, .int .i64 0, .string (⟨#[]⟩ : ByteArray)]) (t := 43) ?hr ?_; (case hd => rfl); (case hg => rfl); (case hr => first | (go_simp; done) | (go_simp; rfl)); intro gb257 hg w42 hbox hb; have n0_ := Aside0.mk (Kd.R_below (Kd.R_elderB (by (with_reducible repeat (first | apply Kd.R_alloc | apply Kd.R_drewN | apply Kd.R_drew)); exact HO235.out) gb257 (Nat.le_of_eq hg.symm)) hb); have n1_ := Aside0.mk (blk_below (g := gb229) (o := .cells #[.int .i64 a1_0, .int .i64 a1_1, .int .i64 a1_2, .string a1_3] 43 (0, 0)) (by (with_reducible repeat (first | refine blk_drewN ?_ _ | refine blk_drew ?_ | refine blk_alloc ?_ _)); exact BK229.out) hb); have n2_ := Aside0.mk (blk_below (g := gb245) (o := .cells #[.int .i64 t240, .int .i64 t241, .int .i64 t242, .string t243] 43 (0, 0)) (by (with_reducible repeat (first | refine blk_drewN ?_ _ | refine blk_drew ?_ | refine blk_alloc ?_ _)); exact BK245.out) hb); have n3_ := Aside0.mk (blk_below (g := gb251) (o := .cells #[.int .i64 t246, .int .i64 t247, .int .i64 t248, .string t249] 43 (0, 0)) (by (with_reducible repeat (first | refine blk_drewN ?_ _ | refine blk_drew ?_ | refine blk_alloc ?_ _)); exact BK251.out) hb); have n4_ := Aside0.mk (below_step (by repeat (first | (with_reducible first | exact HB.out | apply below_alloc | apply pw_below_drewN | apply below_drew1 | refine below_set ?_ GE229.out | refine below_set ?_ GE245.out | refine below_set ?_ GE251.out) | exact HB.out)) hb); have n5_ := Aside0.mk (hbox); have n6_ := Aside0.mk ((by rw [hg]; exact (below_size (by repeat (first | (with_reducible first | exact HB.out | apply below_alloc | apply pw_below_drewN | apply below_drew1 | refine below_set ?_ GE229.out | refine below_set ?_ GE245.out | refine below_set ?_ GE251.out) | exact HB.out))) : w.heap.size ≤ gb257)); have n7_ := Aside0.mk ((by rw [hg]; exact (below_size (by repeat (first | (with_reducible first | exact HB.out | apply below_alloc | apply pw_below_drewN | apply below_drew1 | refine below_set ?_ GE229.out | refine below_set ?_ GE245.out | refine below_set ?_ GE251.out) | exact HB.out))) : w.heap.size ≤ gb257)); have n8_ := Aside0.mk ((by rw [hg]; exact Nat.ne_of_lt (blk_lt (g := gb229) (o := .cells #[.int .i64 a1_0, .int .i64 a1_1, .int .i64 a1_2, .string a1_3] 43 (0, 0)) (by (with_reducible repeat (first | refine blk_drewN ?_ _ | refine blk_drew ?_ | refine blk_alloc ?_ _)); exact BK229.out)) : gb229 ≠ gb257)); have n9_ := Aside0.mk ((by rw [hg]; exact Nat.ne_of_gt (blk_lt (g := gb229) (o := .cells #[.int .i64 a1_0, .int .i64 a1_1, .int .i64 a1_2, .string a1_3] 43 (0, 0)) (by (with_reducible repeat (first | refine blk_drewN ?_ _ | refine blk_drew ?_ | refine blk_alloc ?_ _)); exact BK229.out)) : gb257 ≠ gb229)); have n10_ := Aside0.mk ((by rw [hg]; exact Nat.ne_of_lt (blk_lt (g := gb245) (o := .cells #[.int .i64 t240, .int .i64 t241, .int .i64 t242, .string t243] 43 (0, 0)) (by (with_reducible repeat (first | refine blk_drewN ?_ _ | refine blk_drew ?_ | refine blk_alloc ?_ _)); exact BK245.out)) : gb245 ≠ gb257)); have n11_ := Aside0.mk ((by rw [hg]; exact Nat.ne_of_gt (blk_lt (g := gb245) (o := .cells #[.int .i64 t240, .int .i64 t241, .int .i64 t242, .string t243] 43 (0, 0)) (by (with_reducible repeat (first | refine blk_drewN ?_ _ | refine blk_drew ?_ | refine blk_alloc ?_ _)); exact BK245.out)) : gb257 ≠ gb245)); have n12_ := Aside0.mk ((by rw [hg]; exact Nat.ne_of_lt (blk_lt (g := gb251) (o := .cells #[.int .i64 t246, .int .i64 t247, .int .i64 t248, .string t249] 43 (0, 0)) (by (with_reducible repeat (first | refine blk_drewN ?_ _ | refine blk_drew ?_ | refine blk_alloc ?_ _)); exact BK251.out)) : gb251 ≠ gb257)); have n13_ := Aside0.mk ((by rw [hg]; exact Nat.ne_of_gt (blk_lt (g := gb251) (o := .cells #[.int .i64 t246, .int .i64 t247, .int .i64 t248, .string t249] 43 (0, 0)) (by (with_reducible repeat (first | refine blk_drewN ?_ _ | refine blk_drew ?_ | refine blk_alloc ?_ _)); exact BK251.out)) : gb257 ≠ gb251)); clear HO235; clear BK229; clear BK245; clear BK251; clear HB; have HO235 := n0_; have BK229 := n1_; have BK245 := n2_; have BK251 := n3_; have HB := n4_; have BK257 := n5_; have GW257 := n6_; have GE257 := n7_; have NB229_257 := n8_; have NB257_229 := n9_; have NB245_257 := n10_; have NB257_245 := n11_; have NB251_257 := n12_; have NB257_251 := n13_; clear n0_ n1_ n2_ n3_ n4_ n5_ n6_ n7_ n8_ n9_ n10_ n11_ n12_ n13_; clear hb hbox hg; have hnb43 := NB257_229.out; have hnc43 := NB229_257.out; have hnb44 := NB257_245.out; have hnc44 := NB245_257.out; have hnb45 := NB257_251.out; have hnc45 := NB251_257.out; have hcz46_0 : w42.cell? ⟨gb257, 0, none⟩ = some (.int .i64 0) := (blk_cell BK257.out 0).trans rfl; have hcz46_1 : w42.cell? ⟨gb257, 1, none⟩ = some (.int .i64 0) := (blk_cell BK257.out 1).trans rfl; have hcz46_2 : w42.cell? ⟨gb257, 2, none⟩ = some (.int .i64 0) := (blk_cell BK257.out 2).trans rfl; have hcz46_3 : w42.cell? ⟨gb257, 3, none⟩ = some (.string (⟨#[]⟩ : ByteArray)) := (blk_cell BK257.out 3).trans rfl; have hfz46_0 := blk_frozen BK257.out 0; have hfz46_1 := blk_frozen BK257.out 1; have hfz46_2 := blk_frozen BK257.out 2; have hfz46_3 := blk_frozen BK257.out 3; have hcz47_0 : w42.cell? ⟨gb245, 0, none⟩ = some (.int .i64 t240) := (blk_cell BK245.out 0).trans rfl; have hcz47_1 : w42.cell? ⟨gb245, 1, none⟩ = some (.int .i64 t241) := (blk_cell BK245.out 1).trans rfl; have hcz47_2 : w42.cell? ⟨gb245, 2, none⟩ = some (.int .i64 t242) := (blk_cell BK245.out 2).trans rfl; have hcz47_3 : w42.cell? ⟨gb245, 3, none⟩ = some (.string t243) := (blk_cell BK245.out 3).trans rfl; have hfz47_0 := blk_frozen BK245.out 0; have hfz47_1 := blk_frozen BK245.out 1; have hfz47_2 := blk_frozen BK245.out 2; have hfz47_3 := blk_frozen BK245.out 3; have hcz48_0 : w42.cell? ⟨gb229, 0, none⟩ = some (.int .i64 a1_0) := (blk_cell BK229.out 0).trans rfl; have hcz48_1 : w42.cell? ⟨gb229, 1, none⟩ = some (.int .i64 a1_1) := (blk_cell BK229.out 1).trans rfl; have hcz48_2 : w42.cell? ⟨gb229, 2, none⟩ = some (.int .i64 a1_2) := (blk_cell BK229.out 2).trans rfl; have hcz48_3 : w42.cell? ⟨gb229, 3, none⟩ = some (.string a1_3) := (blk_cell BK229.out 3).trans rfl; have hfz48_0 := blk_frozen BK229.out 0; have hfz48_1 := blk_frozen BK229.out 1; have hfz48_2 := blk_frozen BK229.out 2; have hfz48_3 := blk_frozen BK229.out 3; have hcz49_0 : w42.cell? ⟨gb251, 0, none⟩ = some (.int .i64 t246) := (blk_cell BK251.out 0).trans rfl; have hcz49_1 : w42.cell? ⟨gb251, 1, none⟩ = some (.int .i64 t247) := (blk_cell BK251.out 1).trans rfl; have hcz49_2 : w42.cell? ⟨gb251, 2, none⟩ = some (.int .i64 t248) := (blk_cell BK251.out 2).trans rfl; have hcz49_3 : w42.cell? ⟨gb251, 3, none⟩ = some (.string t249) := (blk_cell BK251.out 3).trans rfl; have hfz49_0 := blk_frozen BK251.out 0; have hfz49_1 := blk_frozen BK251.out 1; have hfz49_2 := blk_frozen BK251.out 2; have hfz49_3 := blk_frozen BK251.out 3) | (go_at_call 33; (with_reducible refine (boarderlaw12_knows.calls kj3  t258 _ A27.out).mono ?_); rintro e w50 ⟨rfl, hb⟩; have n0_ := Aside0.mk (Kd.R_below (by (with_reducible repeat (first | apply Kd.R_alloc | apply Kd.R_drewN | apply Kd.R_drew)); exact (Kd.R_mono (Kd.R_far (p := ⟨gb257, 3, none⟩) (Kd.R_far (p := ⟨gb257, 2, none⟩) (Kd.R_far (p := ⟨gb257, 1, none⟩) (Kd.R_far (p := ⟨gb257, 0, none⟩) (Kd.R_mono HO235.out (fun k_ hk => (⟨hk, hk.2⟩ : _ ∧ k_ ≠ gb257))) (fun _ hk => hk.2) (.int .i64 t252)) (fun _ hk => hk.2) (.int .i64 t253)) (fun _ hk => hk.2) (.int .i64 t254)) (fun _ hk => hk.2) (.string t255)) (fun _ h_ => h_.1))) hb); have n1_ := Aside0.mk (blk_below (g := gb229) (o := .cells #[.int .i64 a1_0, .int .i64 a1_1, .int .i64 a1_2, .string a1_3] 43 (0, 0)) (by (with_reducible repeat (first | refine blk_drewN ?_ _ | refine blk_drew ?_ | refine blk_alloc ?_ _)); refine blk_far ?_ NB229_257.out _; (with_reducible repeat (first | refine blk_drewN ?_ _ | refine blk_drew ?_ | refine blk_alloc ?_ _)); refine blk_far ?_ NB229_257.out _; (with_reducible repeat (first | refine blk_drewN ?_ _ | refine blk_drew ?_ | refine blk_alloc ?_ _)); refine blk_far ?_ NB229_257.out _; (with_reducible repeat (first | refine blk_drewN ?_ _ | refine blk_drew ?_ | refine blk_alloc ?_ _)); refine blk_far ?_ NB229_257.out _; (with_reducible repeat (first | refine blk_drewN ?_ _ | refine blk_drew ?_ | refine blk_alloc ?_ _)); exact BK229.out) hb); have n2_ := Aside0.mk (blk_below (g := gb245) (o := .cells #[.int .i64 t240, .int .i64 t241, .int .i64 t242, .string t243] 43 (0, 0)) (by (with_reducible repeat (first | refine blk_drewN ?_ _ | refine blk_drew ?_ | refine blk_alloc ?_ _)); refine blk_far ?_ NB245_257.out _; (with_reducible repeat (first | refine blk_drewN ?_ _ | refine blk_drew ?_ | refine blk_alloc ?_ _)); refine blk_far ?_ NB245_257.out _; (with_reducible repeat (first | refine blk_drewN ?_ _ | refine blk_drew ?_ | refine blk_alloc ?_ _)); refine blk_far ?_ NB245_257.out _; (with_reducible repeat (first | refine blk_drewN ?_ _ | refine blk_drew ?_ | refine blk_alloc ?_ _)); refine blk_far ?_ NB245_257.out _; (with_reducible repeat (first | refine blk_drewN ?_ _ | refine blk_drew ?_ | refine blk_alloc ?_ _)); exact BK245.out) hb); have n3_ := Aside0.mk (blk_below (g := gb251) (o := .cells #[.int .i64 t246, .int .i64 t247, .int .i64 t248, .string t249] 43 (0, 0)) (by (with_reducible repeat (first | refine blk_drewN ?_ _ | refine blk_drew ?_ | refine blk_alloc ?_ _)); refine blk_far ?_ NB251_257.out _; (with_reducible repeat (first | refine blk_drewN ?_ _ | refine blk_drew ?_ | refine blk_alloc ?_ _)); refine blk_far ?_ NB251_257.out _; (with_reducible repeat (first | refine blk_drewN ?_ _ | refine blk_drew ?_ | refine blk_alloc ?_ _)); refine blk_far ?_ NB251_257.out _; (with_reducible repeat (first | refine blk_drewN ?_ _ | refine blk_drew ?_ | refine blk_alloc ?_ _)); refine blk_far ?_ NB251_257.out _; (with_reducible repeat (first | refine blk_drewN ?_ _ | refine blk_drew ?_ | refine blk_alloc ?_ _)); exact BK251.out) hb); have n4_ := Aside0.mk (blk_below (g := gb257) (o := .cells #[.int .i64 t252, .int .i64 t253, .int .i64 t254, .string t255] 43 (0, 0)) (by (with_reducible repeat (first | refine blk_drewN ?_ _ | refine blk_drew ?_ | refine blk_alloc ?_ _)); refine blk_put (cs := #[.int .i64 t252, .int .i64 t253, .int .i64 t254, .string (⟨#[]⟩ : ByteArray)]) ?_ 3 _ rfl; (with_reducible repeat (first | refine blk_drewN ?_ _ | refine blk_drew ?_ | refine blk_alloc ?_ _)); refine blk_put (cs := #[.int .i64 t252, .int .i64 t253, .int .i64 0, .string (⟨#[]⟩ : ByteArray)]) ?_ 2 _ rfl; (with_reducible repeat (first | refine blk_drewN ?_ _ | refine blk_drew ?_ | refine blk_alloc ?_ _)); refine blk_put (cs := #[.int .i64 t252, .int .i64 0, .int .i64 0, .string (⟨#[]⟩ : ByteArray)]) ?_ 1 _ rfl; (with_reducible repeat (first | refine blk_drewN ?_ _ | refine blk_drew ?_ | refine blk_alloc ?_ _)); refine blk_put (cs := #[.int .i64 0, .int .i64 0, .int .i64 0, .string (⟨#[]⟩ : ByteArray)]) ?_ 0 _ rfl; (with_reducible repeat (first | refine blk_drewN ?_ _ | refine blk_drew ?_ | refine blk_alloc ?_ _)); exact BK257.out) hb); have n5_ := Aside0.mk (below_step (by repeat (first | (with_reducible first | exact HB.out | apply below_alloc | apply pw_below_drewN | apply below_drew1 | refine below_set ?_ GE229.out | refine below_set ?_ GE245.out | refine below_set ?_ GE251.out | refine below_set ?_ GE257.out) | exact HB.out)) hb); clear HO235; clear BK229; clear BK245; clear BK251; clear BK257; clear HB; have HO235 := n0_; have BK229 := n1_; have BK245 := n2_; have BK251 := n3_; have BK257 := n4_; have HB := n5_; clear n0_ n1_ n2_ n3_ n4_ n5_; (try clear hb); (try clear hb2); (try clear hk); (try clear hi)))
                  go_ret
                  exact ⟨by first | rfl | (simp [errW_none, errW_some] <;> rfl) | (simp [*, errW_none, errW_some] <;> rfl), by repeat (first | (with_reducible first | exact HB.out | apply below_alloc | apply pw_below_drewN | apply below_drew1 | refine below_set ?_ GE229.out | refine below_set ?_ GE245.out | refine below_set ?_ GE251.out | refine below_set ?_ GE257.out) | exact HB.out)⟩
                · rw [if_neg c26] at H
                  exact absurd H (by simp)
              · rw [if_neg c25] at H
                exact absurd H (by simp)
            · replace c24 := Bool.eq_false_iff.mpr c24
              subst c24
              have H1 : (none) = some r := by rw [if_neg (show ¬ (false = true) by decide)] at H; exact H
              clear H
              have H := H1
              clear H1
              exact absurd H (by simp)
          · rw [if_neg c23] at H
            exact absurd H (by simp)
        · rw [if_neg c19] at H
          have c19b0 : (t236 == 0) = false := beq_eq_false_iff_ne.mpr c19
          have c19b1 : (t236 != 0) = true := bne_iff_ne.mpr c19
          by_cases c51 : (t233.length : Int) = 0
          · rw [if_pos c51] at H
            have c51b0 : ((t233.length : Int) == 0) = true := beq_iff_eq.mpr c51
            have c51b1 : ((t233.length : Int) != 0) = false := bne_eq_false_iff_eq.mpr c51
            clear c51
            by_cases c52 : t236 = 3
            · rw [if_pos c52] at H
              have c52b0 : (t236 == 3) = true := beq_iff_eq.mpr c52
              have c52b1 : (t236 != 3) = false := bne_eq_false_iff_eq.mpr c52
              clear c52
              replace H := Option.bind_eq_some_iff.mp H
              obtain ⟨t237, A530, H⟩ := H
              replace H : (some t237) = some r := H
              have A53 := Aside0.mk A530
              clear A530
              obtain rfl := Option.some.inj H
              have hcz54_0 : wc.cell? ⟨gb229, 0, none⟩ = some (.int .i64 a1_0) := (blk_cell BK229.out 0).trans rfl
              have hcz54_1 : wc.cell? ⟨gb229, 1, none⟩ = some (.int .i64 a1_1) := (blk_cell BK229.out 1).trans rfl
              have hcz54_2 : wc.cell? ⟨gb229, 2, none⟩ = some (.int .i64 a1_2) := (blk_cell BK229.out 2).trans rfl
              have hcz54_3 : wc.cell? ⟨gb229, 3, none⟩ = some (.string a1_3) := (blk_cell BK229.out 3).trans rfl
              have hfz54_0 := blk_frozen BK229.out 0
              have hfz54_1 := blk_frozen BK229.out 1
              have hfz54_2 := blk_frozen BK229.out 2
              have hfz54_3 := blk_frozen BK229.out 3
              go_wp2_with (first | ((with_reducible refine gate_callee (f := 34) rfl ?_); refine goesL_ (some 38) rfl rfl Try.func34 (by kernel_rfl) rfl #[.slice A0 l0.length c0, .agg #[.int .i64 a1_0, .int .i64 a1_1, .int .i64 a1_2, .string a1_3]] rfl (by (try simp only [List.map_toArray, List.map_cons, List.map_nil]); first | done | rfl | (simp only [List.length_drop, List.length_take]; rfl)) ?_; (with_reducible refine (table_Set.calls kj3 _ _ l0 a1_0 a1_1 a1_2 a1_3 t233 t236 _ ?side1 ?side2 A18.out).mono ?_); (case side1 => repeat (first | exact (Kd.C_below HR0.out HB.out) | (with_reducible refine Kd.C_alloc ?_ _) | (with_reducible refine Kd.C_drewN ?_ _) | (with_reducible refine Kd.C_drew ?_))); (case side2 => exact HC0.out); rintro e w55 ⟨v234, rfl, ho0, hb⟩; refine ⟨_, rfl, ?_⟩; have n0_ := Aside0.mk (Kd.R_lower (Kd.R_newB ho0 (g := gb229) (o := .cells #[.int .i64 a1_0, .int .i64 a1_1, .int .i64 a1_2, .string a1_3] 43 (0, 0)) (by (with_reducible repeat (first | refine blk_drewN ?_ _ | refine blk_drew ?_ | refine blk_alloc ?_ _)); exact BK229.out)) (below_size (by repeat (first | (with_reducible first | exact HB.out | apply below_alloc | apply pw_below_drewN | apply below_drew1 | refine below_set ?_ GE229.out) | exact HB.out)))); have n1_ := Aside0.mk (blk_below (g := gb229) (o := .cells #[.int .i64 a1_0, .int .i64 a1_1, .int .i64 a1_2, .string a1_3] 43 (0, 0)) (by (with_reducible repeat (first | refine blk_drewN ?_ _ | refine blk_drew ?_ | refine blk_alloc ?_ _)); exact BK229.out) hb); have n2_ := Aside0.mk (below_step (by repeat (first | (with_reducible first | exact HB.out | apply below_alloc | apply pw_below_drewN | apply below_drew1 | refine below_set ?_ GE229.out) | exact HB.out)) hb); clear BK229; clear HB; have HO235 := n0_; have BK229 := n1_; have HB := n2_; clear n0_ n1_ n2_; (try clear hb); (try clear hb2); (try clear hk); (try clear hi); (try clear ho0); obtain ⟨Ao56, co56, eo56⟩ := Kd.R_slice HO235.out; subst eo56) | (go_at_call 33; (with_reducible refine (boarderlaw12_knows.calls kj3  t237 _ A53.out).mono ?_); rintro e w57 ⟨rfl, hb⟩; have n0_ := Aside0.mk (Kd.R_below (by (with_reducible repeat (first | apply Kd.R_alloc | apply Kd.R_drewN | apply Kd.R_drew)); exact HO235.out) hb); have n1_ := Aside0.mk (blk_below (g := gb229) (o := .cells #[.int .i64 a1_0, .int .i64 a1_1, .int .i64 a1_2, .string a1_3] 43 (0, 0)) (by (with_reducible repeat (first | refine blk_drewN ?_ _ | refine blk_drew ?_ | refine blk_alloc ?_ _)); exact BK229.out) hb); have n2_ := Aside0.mk (below_step (by repeat (first | (with_reducible first | exact HB.out | apply below_alloc | apply pw_below_drewN | apply below_drew1 | refine below_set ?_ GE229.out) | exact HB.out)) hb); clear HO235; clear BK229; clear HB; have HO235 := n0_; have BK229 := n1_; have HB := n2_; clear n0_ n1_ n2_; (try clear hb); (try clear hb2); (try clear hk); (try clear hi)))
              go_ret
              exact ⟨by first | rfl | (simp [errW_none, errW_some] <;> rfl) | (simp [*, errW_none, errW_some] <;> rfl), by repeat (first | (with_reducible first | exact HB.out | apply below_alloc | apply pw_below_drewN | apply below_drew1 | refine below_set ?_ GE229.out) | exact HB.out)⟩
            · rw [if_neg c52] at H
              have c52b0 : (t236 == 3) = false := beq_eq_false_iff_ne.mpr c52
              have c52b1 : (t236 != 3) = true := bne_iff_ne.mpr c52
              replace H := Option.bind_eq_some_iff.mp H
              obtain ⟨t238, A580, H⟩ := H
              replace H : (if t238 = true then (none) else ((boarderlaw12_knows.f kj3).bind fun t239 => (some t239))) = some r := H
              have A58 := Aside0.mk A580
              clear A580
              by_cases c59 : t238 = true
              · subst c59
                have H1 : (none) = some r := by rw [if_pos rfl] at H; exact H
                clear H
                have H := H1
                clear H1
                exact absurd H (by simp)
              · replace c59 := Bool.eq_false_iff.mpr c59
                subst c59
                have H1 : ((boarderlaw12_knows.f kj3).bind fun t239 => (some t239)) = some r := by rw [if_neg (show ¬ (false = true) by decide)] at H; exact H
                clear H
                have H := H1
                clear H1
                replace H := Option.bind_eq_some_iff.mp H
                obtain ⟨t239, A600, H⟩ := H
                replace H : (some t239) = some r := H
                have A60 := Aside0.mk A600
                clear A600
                obtain rfl := Option.some.inj H
                have hcz61_0 : wc.cell? ⟨gb229, 0, none⟩ = some (.int .i64 a1_0) := (blk_cell BK229.out 0).trans rfl
                have hcz61_1 : wc.cell? ⟨gb229, 1, none⟩ = some (.int .i64 a1_1) := (blk_cell BK229.out 1).trans rfl
                have hcz61_2 : wc.cell? ⟨gb229, 2, none⟩ = some (.int .i64 a1_2) := (blk_cell BK229.out 2).trans rfl
                have hcz61_3 : wc.cell? ⟨gb229, 3, none⟩ = some (.string a1_3) := (blk_cell BK229.out 3).trans rfl
                have hfz61_0 := blk_frozen BK229.out 0
                have hfz61_1 := blk_frozen BK229.out 1
                have hfz61_2 := blk_frozen BK229.out 2
                have hfz61_3 := blk_frozen BK229.out 3
                go_wp2_with (first | ((with_reducible refine gate_callee (f := 34) rfl ?_); refine goesL_ (some 38) rfl rfl Try.func34 (by kernel_rfl) rfl #[.slice A0 l0.length c0, .agg #[.int .i64 a1_0, .int .i64 a1_1, .int .i64 a1_2, .string a1_3]] rfl (by (try simp only [List.map_toArray, List.map_cons, List.map_nil]); first | done | rfl | (simp only [List.length_drop, List.length_take]; rfl)) ?_; (with_reducible refine (table_Set.calls kj3 _ _ l0 a1_0 a1_1 a1_2 a1_3 t233 t236 _ ?side1 ?side2 A18.out).mono ?_); (case side1 => repeat (first | exact (Kd.C_below HR0.out HB.out) | (with_reducible refine Kd.C_alloc ?_ _) | (with_reducible refine Kd.C_drewN ?_ _) | (with_reducible refine Kd.C_drew ?_))); (case side2 => exact HC0.out); rintro e w62 ⟨v234, rfl, ho0, hb⟩; refine ⟨_, rfl, ?_⟩; have n0_ := Aside0.mk (Kd.R_lower (Kd.R_newB ho0 (g := gb229) (o := .cells #[.int .i64 a1_0, .int .i64 a1_1, .int .i64 a1_2, .string a1_3] 43 (0, 0)) (by (with_reducible repeat (first | refine blk_drewN ?_ _ | refine blk_drew ?_ | refine blk_alloc ?_ _)); exact BK229.out)) (below_size (by repeat (first | (with_reducible first | exact HB.out | apply below_alloc | apply pw_below_drewN | apply below_drew1 | refine below_set ?_ GE229.out) | exact HB.out)))); have n1_ := Aside0.mk (blk_below (g := gb229) (o := .cells #[.int .i64 a1_0, .int .i64 a1_1, .int .i64 a1_2, .string a1_3] 43 (0, 0)) (by (with_reducible repeat (first | refine blk_drewN ?_ _ | refine blk_drew ?_ | refine blk_alloc ?_ _)); exact BK229.out) hb); have n2_ := Aside0.mk (below_step (by repeat (first | (with_reducible first | exact HB.out | apply below_alloc | apply pw_below_drewN | apply below_drew1 | refine below_set ?_ GE229.out) | exact HB.out)) hb); clear BK229; clear HB; have HO235 := n0_; have BK229 := n1_; have HB := n2_; clear n0_ n1_ n2_; (try clear hb); (try clear hb2); (try clear hk); (try clear hi); (try clear ho0); obtain ⟨Ao63, co63, eo63⟩ := Kd.R_slice HO235.out; subst eo63; have hcz64_0 : w62.cell? ⟨gb229, 0, none⟩ = some (.int .i64 a1_0) := (blk_cell BK229.out 0).trans rfl; have hcz64_1 : w62.cell? ⟨gb229, 1, none⟩ = some (.int .i64 a1_1) := (blk_cell BK229.out 1).trans rfl; have hcz64_2 : w62.cell? ⟨gb229, 2, none⟩ = some (.int .i64 a1_2) := (blk_cell BK229.out 2).trans rfl; have hcz64_3 : w62.cell? ⟨gb229, 3, none⟩ = some (.string a1_3) := (blk_cell BK229.out 3).trans rfl; have hfz64_0 := blk_frozen BK229.out 0; have hfz64_1 := blk_frozen BK229.out 1; have hfz64_2 := blk_frozen BK229.out 2; have hfz64_3 := blk_frozen BK229.out 3) | (go_at_call 39; (with_reducible refine (boarderref09_Right.calls a1_0 a1_1 a1_2 a1_3 false _ A58.out).mono ?_); rintro e w65 ⟨rfl, hb⟩; have n0_ := Aside0.mk (Kd.R_below (by (with_reducible repeat (first | apply Kd.R_alloc | apply Kd.R_drewN | apply Kd.R_drew)); exact HO235.out) hb); have n1_ := Aside0.mk (blk_below (g := gb229) (o := .cells #[.int .i64 a1_0, .int .i64 a1_1, .int .i64 a1_2, .string a1_3] 43 (0, 0)) (by (with_reducible repeat (first | refine blk_drewN ?_ _ | refine blk_drew ?_ | refine blk_alloc ?_ _)); exact BK229.out) hb); have n2_ := Aside0.mk (below_step (by repeat (first | (with_reducible first | exact HB.out | apply below_alloc | apply pw_below_drewN | apply below_drew1 | refine below_set ?_ GE229.out) | exact HB.out)) hb); clear HO235; clear BK229; clear HB; have HO235 := n0_; have BK229 := n1_; have HB := n2_; clear n0_ n1_ n2_; (try clear hb); (try clear hb2); (try clear hk); (try clear hi)) | (go_at_call 33; (with_reducible refine (boarderlaw12_knows.calls kj3  t239 _ A60.out).mono ?_); rintro e w66 ⟨rfl, hb⟩; have n0_ := Aside0.mk (Kd.R_below (by (with_reducible repeat (first | apply Kd.R_alloc | apply Kd.R_drewN | apply Kd.R_drew)); exact HO235.out) hb); have n1_ := Aside0.mk (blk_below (g := gb229) (o := .cells #[.int .i64 a1_0, .int .i64 a1_1, .int .i64 a1_2, .string a1_3] 43 (0, 0)) (by (with_reducible repeat (first | refine blk_drewN ?_ _ | refine blk_drew ?_ | refine blk_alloc ?_ _)); exact BK229.out) hb); have n2_ := Aside0.mk (below_step (by repeat (first | (with_reducible first | exact HB.out | apply below_alloc | apply pw_below_drewN | apply below_drew1 | refine below_set ?_ GE229.out) | exact HB.out)) hb); clear HO235; clear BK229; clear HB; have HO235 := n0_; have BK229 := n1_; have HB := n2_; clear n0_ n1_ n2_; (try clear hb); (try clear hb2); (try clear hk); (try clear hi)))
                go_ret
                exact ⟨by first | rfl | (simp [errW_none, errW_some] <;> rfl) | (simp [*, errW_none, errW_some] <;> rfl), by repeat (first | (with_reducible first | exact HB.out | apply below_alloc | apply pw_below_drewN | apply below_drew1 | refine below_set ?_ GE229.out) | exact HB.out)⟩
          · rw [if_neg c51] at H
            exact absurd H (by simp)

end Go.Proofs.Ytlabpabnddfllaa.PTable
