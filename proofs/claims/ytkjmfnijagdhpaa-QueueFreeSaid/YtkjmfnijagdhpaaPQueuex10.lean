/- Lean functions for Go functions of the given program, and proofs that the code computes them, each under its theorem's own conditions. Written by a program of this session. -/
import Derived.Test.YtkjmfnijagdhpaaPQueuex0
import Derived.Test.YtkjmfnijagdhpaaPQueuex2
import Derived.Test.YtkjmfnijagdhpaaPQueuex3
import Derived.Test.YtkjmfnijagdhpaaPQueuex4
import Derived.Test.YtkjmfnijagdhpaaPQueuex8
namespace Go.Proofs.Ytkjmfnijagdhpaa.PQueue
open Go.RowKit Go.Proofs.YtkjmfnijagdhpaaW.PrintWords Go.Proofs.YtkjmfnijagdhpaaW.PrintLast Go.Proofs.YtkjmfnijagdhpaaW.PrintMore
attribute [local go_sem] max2_int min2_int max_two min_two max_three min_three max_four min_four   -- for this text's walks alone
set_option linter.unusedVariables false
set_option linter.unusedSimpArgs false

/-! ### table_Free: function 20 -/
def table_Free.f (k : Nat) (l0 : List (S34)) (a1 : Int) (a2 : ByteArray) (a3 : Int) : Option (Bool) := (table_Get.f k l0 a1).bind fun bt340 => (if bt340.2.2.2.2 = true then ((table_Rests.f bt340.1 bt340.2.1 bt340.2.2.1 bt340.2.2.2.1 a3).bind fun t346 => (if t346 = true then (some false) else ((table_Holds.f bt340.1 bt340.2.1 bt340.2.2.1 bt340.2.2.2.1 a3).bind fun t347 => (if t347 = true then (some (bt340.2.2.2.1.toList == a2.toList)) else (some true))))) else (some true))
theorem table_Free.mono : ∀ a0 a1 a2 a3 k, LeO (table_Free.f k a0 a1 a2 a3) (table_Free.f (k + 1) a0 a1 a2 a3) := by
  intro a0 a1 a2 a3 k
  unfold table_Free.f
  repeat' first
      | (with_reducible exact table_Get.mono _ _ _)
      | (with_reducible exact LeO.refl _)
      | (with_reducible exact LeO.none _)
      | (with_reducible refine LeO.ite ?_ ?_)
      | (with_reducible refine LeO.bind ?_ (fun _ => ?_))
      | exact table_Get.mono _ _ _
      | exact LeO.none _
      | refine LeO.ite ?_ ?_
      | refine LeO.bind ?_ (fun _ => ?_)
set_option maxHeartbeats 8000000 in
set_option maxRecDepth 100000 in
theorem table_Free.calls (k : Nat) (A0 : Option Addr) (c0 : Nat) (l0 : List (S34)) (a1 : Int) (a2 : ByteArray) (a3 : Int) (r : Bool) (w : World) (hr0 : Kd.C k34 w A0 l0.length l0) (hc0 : l0.length ≤ c0) (h : table_Free.f k l0 a1 a2 a3 = some r) :
    Calls Try.prog 20 #[.slice A0 l0.length c0, .int .i64 a1, .string a2, .int .i64 a3] w fun e w' => e = .returned (.bool r) ∧ Below w.heap.size w w' := by
  have hu34 := Try.underlying34
  have HR0 := Aside0.mk hr0
  have HC0 := Aside0.mk hc0
  clear hr0 hc0
  have HB := Aside0.mk (Below.refl w.heap.size w)
  have H : ((table_Get.f k l0 a1).bind fun bt340 => (if bt340.2.2.2.2 = true then ((table_Rests.f bt340.1 bt340.2.1 bt340.2.2.1 bt340.2.2.2.1 a3).bind fun t346 => (if t346 = true then (some false) else ((table_Holds.f bt340.1 bt340.2.1 bt340.2.2.1 bt340.2.2.2.1 a3).bind fun t347 => (if t347 = true then (some (bt340.2.2.2.1.toList == a2.toList)) else (some true))))) else (some true))) = some r := h
  clear h
  replace H := Option.bind_eq_some_iff.mp H
  obtain ⟨⟨t340, t341, t342, t343, t344⟩, A50, H⟩ := H
  replace H : (if t344 = true then ((table_Rests.f t340 t341 t342 t343 a3).bind fun t346 => (if t346 = true then (some false) else ((table_Holds.f t340 t341 t342 t343 a3).bind fun t347 => (if t347 = true then (some (t343.toList == a2.toList)) else (some true))))) else (some true)) = some r := H
  have A5 := Aside0.mk A50
  clear A50
  by_cases c6 : t344 = true
  · subst c6
    have H1 : ((table_Rests.f t340 t341 t342 t343 a3).bind fun t346 => (if t346 = true then (some false) else ((table_Holds.f t340 t341 t342 t343 a3).bind fun t347 => (if t347 = true then (some (t343.toList == a2.toList)) else (some true))))) = some r := by rw [if_pos rfl] at H; exact H
    clear H
    have H := H1
    clear H1
    replace H := Option.bind_eq_some_iff.mp H
    obtain ⟨t346, A70, H⟩ := H
    replace H : (if t346 = true then (some false) else ((table_Holds.f t340 t341 t342 t343 a3).bind fun t347 => (if t347 = true then (some (t343.toList == a2.toList)) else (some true)))) = some r := H
    have A7 := Aside0.mk A70
    clear A70
    by_cases c8 : t346 = true
    · subst c8
      have H1 : (some false) = some r := by rw [if_pos rfl] at H; exact H
      clear H
      have H := H1
      clear H1
      obtain rfl := Option.some.inj H
      go_enter Try.func20, Try.ntmps20
      go_wp2_with (first | ((with_reducible refine gate_callee (f := 30) rfl ?_); refine goesL_ (some 14) rfl rfl Try.func30 (by kernel_rfl) rfl #[.slice A0 l0.length c0, .int .i64 a1] rfl (by (try simp only [List.map_toArray, List.map_cons, List.map_nil]); first | done | rfl | (simp only [List.length_drop, List.length_take]; rfl)) ?_; (with_reducible refine (table_Get.calls k _ _ l0 a1 t340 t341 t342 t343 true _ ?side1 ?side2 A5.out).mono ?_); (case side1 => repeat (first | exact HR0.out | (with_reducible refine Kd.C_alloc ?_ _) | (with_reducible refine Kd.C_drewN ?_ _) | (with_reducible refine Kd.C_drew ?_))); (case side2 => exact HC0.out); rintro e w9 ⟨rfl, hb⟩; refine ⟨_, rfl, ?_⟩; have n0_ := Aside0.mk (below_step (by repeat (first | (with_reducible first | exact HB.out | apply below_alloc | apply pw_below_drewN | apply below_drew1) | exact HB.out)) hb); clear HB; have HB := n0_; clear n0_; (try clear hb); (try clear hb2); (try clear hk); (try clear hi)) | ((with_reducible refine gate_dst (N := 9) rfl ?_); refine box_event ?hg (N := 9) ?hd (cs := #[.int .i64 0, .int .i64 0, .int .i64 0, .string (⟨#[]⟩ : ByteArray)]) (t := 34) ?hr ?_; (case hd => rfl); (case hg => rfl); (case hr => first | (go_simp; done) | (go_simp; rfl)); intro gb345 hg w10 hbox hb; have n0_ := Aside0.mk (below_step (by repeat (first | (with_reducible first | exact HB.out | apply below_alloc | apply pw_below_drewN | apply below_drew1) | exact HB.out)) hb); have n1_ := Aside0.mk (hbox); have n2_ := Aside0.mk ((by rw [hg]; exact (below_size (by repeat (first | (with_reducible first | exact HB.out | apply below_alloc | apply pw_below_drewN | apply below_drew1) | exact HB.out))) : w.heap.size ≤ gb345)); have n3_ := Aside0.mk ((by rw [hg]; exact (below_size (by repeat (first | (with_reducible first | exact HB.out | apply below_alloc | apply pw_below_drewN | apply below_drew1) | exact HB.out))) : w.heap.size ≤ gb345)); clear HB; have HB := n0_; have BK345 := n1_; have GW345 := n2_; have GE345 := n3_; clear n0_ n1_ n2_ n3_; clear hb hbox hg; have hcz11_0 : w10.cell? ⟨gb345, 0, none⟩ = some (.int .i64 0) := (blk_cell BK345.out 0).trans rfl; have hcz11_1 : w10.cell? ⟨gb345, 1, none⟩ = some (.int .i64 0) := (blk_cell BK345.out 1).trans rfl; have hcz11_2 : w10.cell? ⟨gb345, 2, none⟩ = some (.int .i64 0) := (blk_cell BK345.out 2).trans rfl; have hcz11_3 : w10.cell? ⟨gb345, 3, none⟩ = some (.string (⟨#[]⟩ : ByteArray)) := (blk_cell BK345.out 3).trans rfl; have hfz11_0 := blk_frozen BK345.out 0; have hfz11_1 := blk_frozen BK345.out 1; have hfz11_2 := blk_frozen BK345.out 2; have hfz11_3 := blk_frozen BK345.out 3) | (go_at_call 32; (with_reducible refine (table_Rests.calls t340 t341 t342 t343 a3 true _ A7.out).mono ?_); rintro e w12 ⟨rfl, hb⟩; have n0_ := Aside0.mk (blk_below (g := gb345) (o := .cells #[.int .i64 t340, .int .i64 t341, .int .i64 t342, .string t343] 34 (0, 0)) (by (with_reducible repeat (first | refine blk_drewN ?_ _ | refine blk_drew ?_ | refine blk_alloc ?_ _)); refine blk_put (cs := #[.int .i64 t340, .int .i64 t341, .int .i64 t342, .string (⟨#[]⟩ : ByteArray)]) ?_ 3 _ rfl; (with_reducible repeat (first | refine blk_drewN ?_ _ | refine blk_drew ?_ | refine blk_alloc ?_ _)); refine blk_put (cs := #[.int .i64 t340, .int .i64 t341, .int .i64 0, .string (⟨#[]⟩ : ByteArray)]) ?_ 2 _ rfl; (with_reducible repeat (first | refine blk_drewN ?_ _ | refine blk_drew ?_ | refine blk_alloc ?_ _)); refine blk_put (cs := #[.int .i64 t340, .int .i64 0, .int .i64 0, .string (⟨#[]⟩ : ByteArray)]) ?_ 1 _ rfl; (with_reducible repeat (first | refine blk_drewN ?_ _ | refine blk_drew ?_ | refine blk_alloc ?_ _)); refine blk_put (cs := #[.int .i64 0, .int .i64 0, .int .i64 0, .string (⟨#[]⟩ : ByteArray)]) ?_ 0 _ rfl; (with_reducible repeat (first | refine blk_drewN ?_ _ | refine blk_drew ?_ | refine blk_alloc ?_ _)); exact BK345.out) hb); have n1_ := Aside0.mk (below_step (by repeat (first | (with_reducible first | exact HB.out | apply below_alloc | apply pw_below_drewN | apply below_drew1 | refine below_set ?_ GE345.out) | exact HB.out)) hb); clear BK345; clear HB; have BK345 := n0_; have HB := n1_; clear n0_ n1_; (try clear hb); (try clear hb2); (try clear hk); (try clear hi)))
      go_ret
      exact ⟨by first | rfl | (simp [errW_none, errW_some] <;> rfl) | (simp [*, errW_none, errW_some] <;> rfl), by repeat (first | (with_reducible first | exact HB.out | apply below_alloc | apply pw_below_drewN | apply below_drew1 | refine below_set ?_ GE345.out) | exact HB.out)⟩
    · replace c8 := Bool.eq_false_iff.mpr c8
      subst c8
      have H1 : ((table_Holds.f t340 t341 t342 t343 a3).bind fun t347 => (if t347 = true then (some (t343.toList == a2.toList)) else (some true))) = some r := by rw [if_neg (show ¬ (false = true) by decide)] at H; exact H
      clear H
      have H := H1
      clear H1
      replace H := Option.bind_eq_some_iff.mp H
      obtain ⟨t347, A130, H⟩ := H
      replace H : (if t347 = true then (some (t343.toList == a2.toList)) else (some true)) = some r := H
      have A13 := Aside0.mk A130
      clear A130
      by_cases c14 : t347 = true
      · subst c14
        have H1 : (some (t343.toList == a2.toList)) = some r := by rw [if_pos rfl] at H; exact H
        clear H
        have H := H1
        clear H1
        obtain rfl := Option.some.inj H
        go_enter Try.func20, Try.ntmps20
        go_wp2_with (first | ((with_reducible refine gate_callee (f := 30) rfl ?_); refine goesL_ (some 14) rfl rfl Try.func30 (by kernel_rfl) rfl #[.slice A0 l0.length c0, .int .i64 a1] rfl (by (try simp only [List.map_toArray, List.map_cons, List.map_nil]); first | done | rfl | (simp only [List.length_drop, List.length_take]; rfl)) ?_; (with_reducible refine (table_Get.calls k _ _ l0 a1 t340 t341 t342 t343 true _ ?side1 ?side2 A5.out).mono ?_); (case side1 => repeat (first | exact HR0.out | (with_reducible refine Kd.C_alloc ?_ _) | (with_reducible refine Kd.C_drewN ?_ _) | (with_reducible refine Kd.C_drew ?_))); (case side2 => exact HC0.out); rintro e w15 ⟨rfl, hb⟩; refine ⟨_, rfl, ?_⟩; have n0_ := Aside0.mk (below_step (by repeat (first | (with_reducible first | exact HB.out | apply below_alloc | apply pw_below_drewN | apply below_drew1) | exact HB.out)) hb); clear HB; have HB := n0_; clear n0_; (try clear hb); (try clear hb2); (try clear hk); (try clear hi)) | ((with_reducible refine gate_dst (N := 9) rfl ?_); refine box_event ?hg (N := 9) ?hd (cs := #[.int .i64 0, .int .i64 0, .int .i64 0, .string (⟨#[]⟩ : ByteArray)]) (t := 34) ?hr ?_; (case hd => rfl); (case hg => rfl); (case hr => first | (go_simp; done) | (go_simp; rfl)); intro gb345 hg w16 hbox hb; have n0_ := Aside0.mk (below_step (by repeat (first | (with_reducible first | exact HB.out | apply below_alloc | apply pw_below_drewN | apply below_drew1) | exact HB.out)) hb); have n1_ := Aside0.mk (hbox); have n2_ := Aside0.mk ((by rw [hg]; exact (below_size (by repeat (first | (with_reducible first | exact HB.out | apply below_alloc | apply pw_below_drewN | apply below_drew1) | exact HB.out))) : w.heap.size ≤ gb345)); have n3_ := Aside0.mk ((by rw [hg]; exact (below_size (by repeat (first | (with_reducible first | exact HB.out | apply below_alloc | apply pw_below_drewN | apply below_drew1) | exact HB.out))) : w.heap.size ≤ gb345)); clear HB; have HB := n0_; have BK345 := n1_; have GW345 := n2_; have GE345 := n3_; clear n0_ n1_ n2_ n3_; clear hb hbox hg; have hcz17_0 : w16.cell? ⟨gb345, 0, none⟩ = some (.int .i64 0) := (blk_cell BK345.out 0).trans rfl; have hcz17_1 : w16.cell? ⟨gb345, 1, none⟩ = some (.int .i64 0) := (blk_cell BK345.out 1).trans rfl; have hcz17_2 : w16.cell? ⟨gb345, 2, none⟩ = some (.int .i64 0) := (blk_cell BK345.out 2).trans rfl; have hcz17_3 : w16.cell? ⟨gb345, 3, none⟩ = some (.string (⟨#[]⟩ : ByteArray)) := (blk_cell BK345.out 3).trans rfl; have hfz17_0 := blk_frozen BK345.out 0; have hfz17_1 := blk_frozen BK345.out 1; have hfz17_2 := blk_frozen BK345.out 2; have hfz17_3 := blk_frozen BK345.out 3) | (go_at_call 32; (with_reducible refine (table_Rests.calls t340 t341 t342 t343 a3 false _ A7.out).mono ?_); rintro e w18 ⟨rfl, hb⟩; have n0_ := Aside0.mk (blk_below (g := gb345) (o := .cells #[.int .i64 t340, .int .i64 t341, .int .i64 t342, .string t343] 34 (0, 0)) (by (with_reducible repeat (first | refine blk_drewN ?_ _ | refine blk_drew ?_ | refine blk_alloc ?_ _)); refine blk_put (cs := #[.int .i64 t340, .int .i64 t341, .int .i64 t342, .string (⟨#[]⟩ : ByteArray)]) ?_ 3 _ rfl; (with_reducible repeat (first | refine blk_drewN ?_ _ | refine blk_drew ?_ | refine blk_alloc ?_ _)); refine blk_put (cs := #[.int .i64 t340, .int .i64 t341, .int .i64 0, .string (⟨#[]⟩ : ByteArray)]) ?_ 2 _ rfl; (with_reducible repeat (first | refine blk_drewN ?_ _ | refine blk_drew ?_ | refine blk_alloc ?_ _)); refine blk_put (cs := #[.int .i64 t340, .int .i64 0, .int .i64 0, .string (⟨#[]⟩ : ByteArray)]) ?_ 1 _ rfl; (with_reducible repeat (first | refine blk_drewN ?_ _ | refine blk_drew ?_ | refine blk_alloc ?_ _)); refine blk_put (cs := #[.int .i64 0, .int .i64 0, .int .i64 0, .string (⟨#[]⟩ : ByteArray)]) ?_ 0 _ rfl; (with_reducible repeat (first | refine blk_drewN ?_ _ | refine blk_drew ?_ | refine blk_alloc ?_ _)); exact BK345.out) hb); have n1_ := Aside0.mk (below_step (by repeat (first | (with_reducible first | exact HB.out | apply below_alloc | apply pw_below_drewN | apply below_drew1 | refine below_set ?_ GE345.out) | exact HB.out)) hb); clear BK345; clear HB; have BK345 := n0_; have HB := n1_; clear n0_ n1_; (try clear hb); (try clear hb2); (try clear hk); (try clear hi); have hcz19_0 : w18.cell? ⟨gb345, 0, none⟩ = some (.int .i64 t340) := (blk_cell BK345.out 0).trans rfl; have hcz19_1 : w18.cell? ⟨gb345, 1, none⟩ = some (.int .i64 t341) := (blk_cell BK345.out 1).trans rfl; have hcz19_2 : w18.cell? ⟨gb345, 2, none⟩ = some (.int .i64 t342) := (blk_cell BK345.out 2).trans rfl; have hcz19_3 : w18.cell? ⟨gb345, 3, none⟩ = some (.string t343) := (blk_cell BK345.out 3).trans rfl; have hfz19_0 := blk_frozen BK345.out 0; have hfz19_1 := blk_frozen BK345.out 1; have hfz19_2 := blk_frozen BK345.out 2; have hfz19_3 := blk_frozen BK345.out 3) | (go_at_call 33; (with_reducible refine (table_Holds.calls t340 t341 t342 t343 a3 true _ A13.out).mono ?_); rintro e w20 ⟨rfl, hb⟩; have n0_ := Aside0.mk (blk_below (g := gb345) (o := .cells #[.int .i64 t340, .int .i64 t341, .int .i64 t342, .string t343] 34 (0, 0)) (by (with_reducible repeat (first | refine blk_drewN ?_ _ | refine blk_drew ?_ | refine blk_alloc ?_ _)); exact BK345.out) hb); have n1_ := Aside0.mk (below_step (by repeat (first | (with_reducible first | exact HB.out | apply below_alloc | apply pw_below_drewN | apply below_drew1 | refine below_set ?_ GE345.out) | exact HB.out)) hb); clear BK345; clear HB; have BK345 := n0_; have HB := n1_; clear n0_ n1_; (try clear hb); (try clear hb2); (try clear hk); (try clear hi); have hcz21_0 : w20.cell? ⟨gb345, 0, none⟩ = some (.int .i64 t340) := (blk_cell BK345.out 0).trans rfl; have hcz21_1 : w20.cell? ⟨gb345, 1, none⟩ = some (.int .i64 t341) := (blk_cell BK345.out 1).trans rfl; have hcz21_2 : w20.cell? ⟨gb345, 2, none⟩ = some (.int .i64 t342) := (blk_cell BK345.out 2).trans rfl; have hcz21_3 : w20.cell? ⟨gb345, 3, none⟩ = some (.string t343) := (blk_cell BK345.out 3).trans rfl; have hfz21_0 := blk_frozen BK345.out 0; have hfz21_1 := blk_frozen BK345.out 1; have hfz21_2 := blk_frozen BK345.out 2; have hfz21_3 := blk_frozen BK345.out 3))
        go_ret
        exact ⟨by first | rfl | (simp [errW_none, errW_some] <;> rfl) | (simp [*, errW_none, errW_some] <;> rfl), by repeat (first | (with_reducible first | exact HB.out | apply below_alloc | apply pw_below_drewN | apply below_drew1 | refine below_set ?_ GE345.out) | exact HB.out)⟩
      · replace c14 := Bool.eq_false_iff.mpr c14
        subst c14
        have H1 : (some true) = some r := by rw [if_neg (show ¬ (false = true) by decide)] at H; exact H
        clear H
        have H := H1
        clear H1
        obtain rfl := Option.some.inj H
        go_enter Try.func20, Try.ntmps20
        go_wp2_with (first | ((with_reducible refine gate_callee (f := 30) rfl ?_); refine goesL_ (some 14) rfl rfl Try.func30 (by kernel_rfl) rfl #[.slice A0 l0.length c0, .int .i64 a1] rfl (by (try simp only [List.map_toArray, List.map_cons, List.map_nil]); first | done | rfl | (simp only [List.length_drop, List.length_take]; rfl)) ?_; (with_reducible refine (table_Get.calls k _ _ l0 a1 t340 t341 t342 t343 true _ ?side1 ?side2 A5.out).mono ?_); (case side1 => repeat (first | exact HR0.out | (with_reducible refine Kd.C_alloc ?_ _) | (with_reducible refine Kd.C_drewN ?_ _) | (with_reducible refine Kd.C_drew ?_))); (case side2 => exact HC0.out); rintro e w22 ⟨rfl, hb⟩; refine ⟨_, rfl, ?_⟩; have n0_ := Aside0.mk (below_step (by repeat (first | (with_reducible first | exact HB.out | apply below_alloc | apply pw_below_drewN | apply below_drew1) | exact HB.out)) hb); clear HB; have HB := n0_; clear n0_; (try clear hb); (try clear hb2); (try clear hk); (try clear hi)) | ((with_reducible refine gate_dst (N := 9) rfl ?_); refine box_event ?hg (N := 9) ?hd (cs := #[.int .i64 0, .int .i64 0, .int .i64 0, .string (⟨#[]⟩ : ByteArray)]) (t := 34) ?hr ?_; (case hd => rfl); (case hg => rfl); (case hr => first | (go_simp; done) | (go_simp; rfl)); intro gb345 hg w23 hbox hb; have n0_ := Aside0.mk (below_step (by repeat (first | (with_reducible first | exact HB.out | apply below_alloc | apply pw_below_drewN | apply below_drew1) | exact HB.out)) hb); have n1_ := Aside0.mk (hbox); have n2_ := Aside0.mk ((by rw [hg]; exact (below_size (by repeat (first | (with_reducible first | exact HB.out | apply below_alloc | apply pw_below_drewN | apply below_drew1) | exact HB.out))) : w.heap.size ≤ gb345)); have n3_ := Aside0.mk ((by rw [hg]; exact (below_size (by repeat (first | (with_reducible first | exact HB.out | apply below_alloc | apply pw_below_drewN | apply below_drew1) | exact HB.out))) : w.heap.size ≤ gb345)); clear HB; have HB := n0_; have BK345 := n1_; have GW345 := n2_; have GE345 := n3_; clear n0_ n1_ n2_ n3_; clear hb hbox hg; have hcz24_0 : w23.cell? ⟨gb345, 0, none⟩ = some (.int .i64 0) := (blk_cell BK345.out 0).trans rfl; have hcz24_1 : w23.cell? ⟨gb345, 1, none⟩ = some (.int .i64 0) := (blk_cell BK345.out 1).trans rfl; have hcz24_2 : w23.cell? ⟨gb345, 2, none⟩ = some (.int .i64 0) := (blk_cell BK345.out 2).trans rfl; have hcz24_3 : w23.cell? ⟨gb345, 3, none⟩ = some (.string (⟨#[]⟩ : ByteArray)) := (blk_cell BK345.out 3).trans rfl; have hfz24_0 := blk_frozen BK345.out 0; have hfz24_1 := blk_frozen BK345.out 1; have hfz24_2 := blk_frozen BK345.out 2; have hfz24_3 := blk_frozen BK345.out 3) | (go_at_call 32; (with_reducible refine (table_Rests.calls t340 t341 t342 t343 a3 false _ A7.out).mono ?_); rintro e w25 ⟨rfl, hb⟩; have n0_ := Aside0.mk (blk_below (g := gb345) (o := .cells #[.int .i64 t340, .int .i64 t341, .int .i64 t342, .string t343] 34 (0, 0)) (by (with_reducible repeat (first | refine blk_drewN ?_ _ | refine blk_drew ?_ | refine blk_alloc ?_ _)); refine blk_put (cs := #[.int .i64 t340, .int .i64 t341, .int .i64 t342, .string (⟨#[]⟩ : ByteArray)]) ?_ 3 _ rfl; (with_reducible repeat (first | refine blk_drewN ?_ _ | refine blk_drew ?_ | refine blk_alloc ?_ _)); refine blk_put (cs := #[.int .i64 t340, .int .i64 t341, .int .i64 0, .string (⟨#[]⟩ : ByteArray)]) ?_ 2 _ rfl; (with_reducible repeat (first | refine blk_drewN ?_ _ | refine blk_drew ?_ | refine blk_alloc ?_ _)); refine blk_put (cs := #[.int .i64 t340, .int .i64 0, .int .i64 0, .string (⟨#[]⟩ : ByteArray)]) ?_ 1 _ rfl; (with_reducible repeat (first | refine blk_drewN ?_ _ | refine blk_drew ?_ | refine blk_alloc ?_ _)); refine blk_put (cs := #[.int .i64 0, .int .i64 0, .int .i64 0, .string (⟨#[]⟩ : ByteArray)]) ?_ 0 _ rfl; (with_reducible repeat (first | refine blk_drewN ?_ _ | refine blk_drew ?_ | refine blk_alloc ?_ _)); exact BK345.out) hb); have n1_ := Aside0.mk (below_step (by repeat (first | (with_reducible first | exact HB.out | apply below_alloc | apply pw_below_drewN | apply below_drew1 | refine below_set ?_ GE345.out) | exact HB.out)) hb); clear BK345; clear HB; have BK345 := n0_; have HB := n1_; clear n0_ n1_; (try clear hb); (try clear hb2); (try clear hk); (try clear hi); have hcz26_0 : w25.cell? ⟨gb345, 0, none⟩ = some (.int .i64 t340) := (blk_cell BK345.out 0).trans rfl; have hcz26_1 : w25.cell? ⟨gb345, 1, none⟩ = some (.int .i64 t341) := (blk_cell BK345.out 1).trans rfl; have hcz26_2 : w25.cell? ⟨gb345, 2, none⟩ = some (.int .i64 t342) := (blk_cell BK345.out 2).trans rfl; have hcz26_3 : w25.cell? ⟨gb345, 3, none⟩ = some (.string t343) := (blk_cell BK345.out 3).trans rfl; have hfz26_0 := blk_frozen BK345.out 0; have hfz26_1 := blk_frozen BK345.out 1; have hfz26_2 := blk_frozen BK345.out 2; have hfz26_3 := blk_frozen BK345.out 3) | (go_at_call 33; (with_reducible refine (table_Holds.calls t340 t341 t342 t343 a3 false _ A13.out).mono ?_); rintro e w27 ⟨rfl, hb⟩; have n0_ := Aside0.mk (blk_below (g := gb345) (o := .cells #[.int .i64 t340, .int .i64 t341, .int .i64 t342, .string t343] 34 (0, 0)) (by (with_reducible repeat (first | refine blk_drewN ?_ _ | refine blk_drew ?_ | refine blk_alloc ?_ _)); exact BK345.out) hb); have n1_ := Aside0.mk (below_step (by repeat (first | (with_reducible first | exact HB.out | apply below_alloc | apply pw_below_drewN | apply below_drew1 | refine below_set ?_ GE345.out) | exact HB.out)) hb); clear BK345; clear HB; have BK345 := n0_; have HB := n1_; clear n0_ n1_; (try clear hb); (try clear hb2); (try clear hk); (try clear hi)))
        go_ret
        exact ⟨by first | rfl | (simp [errW_none, errW_some] <;> rfl) | (simp [*, errW_none, errW_some] <;> rfl), by repeat (first | (with_reducible first | exact HB.out | apply below_alloc | apply pw_below_drewN | apply below_drew1 | refine below_set ?_ GE345.out) | exact HB.out)⟩
  · replace c6 := Bool.eq_false_iff.mpr c6
    subst c6
    have H1 : (some true) = some r := by rw [if_neg (show ¬ (false = true) by decide)] at H; exact H
    clear H
    have H := H1
    clear H1
    obtain rfl := Option.some.inj H
    go_enter Try.func20, Try.ntmps20
    go_wp2_with (first | ((with_reducible refine gate_callee (f := 30) rfl ?_); refine goesL_ (some 14) rfl rfl Try.func30 (by kernel_rfl) rfl #[.slice A0 l0.length c0, .int .i64 a1] rfl (by (try simp only [List.map_toArray, List.map_cons, List.map_nil]); first | done | rfl | (simp only [List.length_drop, List.length_take]; rfl)) ?_; (with_reducible refine (table_Get.calls k _ _ l0 a1 t340 t341 t342 t343 false _ ?side1 ?side2 A5.out).mono ?_); (case side1 => repeat (first | exact HR0.out | (with_reducible refine Kd.C_alloc ?_ _) | (with_reducible refine Kd.C_drewN ?_ _) | (with_reducible refine Kd.C_drew ?_))); (case side2 => exact HC0.out); rintro e w28 ⟨rfl, hb⟩; refine ⟨_, rfl, ?_⟩; have n0_ := Aside0.mk (below_step (by repeat (first | (with_reducible first | exact HB.out | apply below_alloc | apply pw_below_drewN | apply below_drew1) | exact HB.out)) hb); clear HB; have HB := n0_; clear n0_; (try clear hb); (try clear hb2); (try clear hk); (try clear hi)) | ((with_reducible refine gate_dst (N := 9) rfl ?_); refine box_event ?hg (N := 9) ?hd (cs := #[.int .i64 0, .int .i64 0, .int .i64 0, .string (⟨#[]⟩ : ByteArray)]) (t := 34) ?hr ?_; (case hd => rfl); (case hg => rfl); (case hr => first | (go_simp; done) | (go_simp; rfl)); intro gb345 hg w29 hbox hb; have n0_ := Aside0.mk (below_step (by repeat (first | (with_reducible first | exact HB.out | apply below_alloc | apply pw_below_drewN | apply below_drew1) | exact HB.out)) hb); have n1_ := Aside0.mk (hbox); have n2_ := Aside0.mk ((by rw [hg]; exact (below_size (by repeat (first | (with_reducible first | exact HB.out | apply below_alloc | apply pw_below_drewN | apply below_drew1) | exact HB.out))) : w.heap.size ≤ gb345)); have n3_ := Aside0.mk ((by rw [hg]; exact (below_size (by repeat (first | (with_reducible first | exact HB.out | apply below_alloc | apply pw_below_drewN | apply below_drew1) | exact HB.out))) : w.heap.size ≤ gb345)); clear HB; have HB := n0_; have BK345 := n1_; have GW345 := n2_; have GE345 := n3_; clear n0_ n1_ n2_ n3_; clear hb hbox hg; have hcz30_0 : w29.cell? ⟨gb345, 0, none⟩ = some (.int .i64 0) := (blk_cell BK345.out 0).trans rfl; have hcz30_1 : w29.cell? ⟨gb345, 1, none⟩ = some (.int .i64 0) := (blk_cell BK345.out 1).trans rfl; have hcz30_2 : w29.cell? ⟨gb345, 2, none⟩ = some (.int .i64 0) := (blk_cell BK345.out 2).trans rfl; have hcz30_3 : w29.cell? ⟨gb345, 3, none⟩ = some (.string (⟨#[]⟩ : ByteArray)) := (blk_cell BK345.out 3).trans rfl; have hfz30_0 := blk_frozen BK345.out 0; have hfz30_1 := blk_frozen BK345.out 1; have hfz30_2 := blk_frozen BK345.out 2; have hfz30_3 := blk_frozen BK345.out 3))
    go_ret
    exact ⟨by first | rfl | (simp [errW_none, errW_some] <;> rfl) | (simp [*, errW_none, errW_some] <;> rfl), by repeat (first | (with_reducible first | exact HB.out | apply below_alloc | apply pw_below_drewN | apply below_drew1 | refine below_set ?_ GE345.out) | exact HB.out)⟩

/-! ### boarderlaw25_QueueFree: function 7 -/
mutual
def boarderlaw25_QueueFree.j0 : Nat → List (S34) → Int → ByteArray → Int → Bool → Option (Bool)
  | 0, _, _, _, _, _ => none
  | k + 1, x0, x1, x2, x3, x26 => if x26 = true then ((boarderlaw25_knows.f k).bind fun t349 => (some t349)) else ((queue_Until.f k x0 x1 x3).bind fun t350 => ((boarderref12_Get.f k x0 x1).bind fun bt351 => ((table_Free.f k x0 x1 x2 (wrap64 (x3 + t350))).bind fun t357 => (if t357 = true then (boarderlaw25_QueueFree.j1 k x0 x1 x2 x3 t350 bt351.2.2.2.2 (decide (t350 < 0)) bt351.1 bt351.2.1 bt351.2.2.1 bt351.2.2.2.1) else (boarderlaw25_QueueFree.j1 k x0 x1 x2 x3 t350 bt351.2.2.2.2 true bt351.1 bt351.2.1 bt351.2.2.1 bt351.2.2.2.1)))))
def boarderlaw25_QueueFree.j1 : Nat → List (S34) → Int → ByteArray → Int → Int → Bool → Bool → Int → Int → Int → ByteArray → Option (Bool)
  | 0, _, _, _, _, _, _, _, _, _, _, _ => none
  | k + 1, x0, x1, x2, x3, x9, x11, x49, x357000, x357001, x357002, x357003 => if x49 = true then (none) else (if x9 > 0 then (if x11 = true then (boarderlaw25_QueueFree.j2 k x0 x1 x2 x3 x9 (x357003.toList != x2.toList)) else (boarderlaw25_QueueFree.j2 k x0 x1 x2 x3 x9 true)) else (boarderlaw25_QueueFree.j2 k x0 x1 x2 x3 x9 false))
def boarderlaw25_QueueFree.j2 : Nat → List (S34) → Int → ByteArray → Int → Int → Bool → Option (Bool)
  | 0, _, _, _, _, _, _ => none
  | k + 1, x0, x1, x2, x3, x9, x61 => if x61 = true then ((table_Free.f k x0 x1 x2 (wrap64 ((wrap64 (x3 + x9)) - 1))).bind fun t358 => (if t358 = true then (none) else ((table_Free.f k x0 x1 x2 x3).bind fun t359 => (if t359 = true then (none) else ((boarderlaw25_knows.f k).bind fun t360 => (some t360)))))) else ((boarderlaw25_knows.f k).bind fun t361 => (some t361))
end
def boarderlaw25_QueueFree.f (k : Nat) (l0 : List (S34)) (a1 : Int) (a2 : ByteArray) (a3 : Int) : Option (Bool) := (boarderlaw12_Great.f k l0).bind fun t348 => (if t348 = true then (boarderlaw25_QueueFree.j0 k l0 a1 a2 a3 true) else (if (a2.size : Int) > 1000 then (boarderlaw25_QueueFree.j0 k l0 a1 a2 a3 true) else (if a3 < 0 then (boarderlaw25_QueueFree.j0 k l0 a1 a2 a3 true) else (boarderlaw25_QueueFree.j0 k l0 a1 a2 a3 (decide (a3 > 1125899906842624))))))
theorem boarderlaw25_QueueFree.mono_l : ∀ k, (∀ y0 y1 y2 y3 y4, LeO (boarderlaw25_QueueFree.j0 k y0 y1 y2 y3 y4) (boarderlaw25_QueueFree.j0 (k + 1) y0 y1 y2 y3 y4)) ∧ (∀ y0 y1 y2 y3 y4 y5 y6 y7 y8 y9 y10, LeO (boarderlaw25_QueueFree.j1 k y0 y1 y2 y3 y4 y5 y6 y7 y8 y9 y10) (boarderlaw25_QueueFree.j1 (k + 1) y0 y1 y2 y3 y4 y5 y6 y7 y8 y9 y10)) ∧ (∀ y0 y1 y2 y3 y4 y5, LeO (boarderlaw25_QueueFree.j2 k y0 y1 y2 y3 y4 y5) (boarderlaw25_QueueFree.j2 (k + 1) y0 y1 y2 y3 y4 y5))
  | 0 => ⟨fun _ _ _ _ _ r h => by simp [boarderlaw25_QueueFree.j0] at h, fun _ _ _ _ _ _ _ _ _ _ _ r h => by simp [boarderlaw25_QueueFree.j1] at h, fun _ _ _ _ _ _ r h => by simp [boarderlaw25_QueueFree.j2] at h⟩
  | k + 1 => by
    obtain ⟨ih0, ih1, ih2⟩ := boarderlaw25_QueueFree.mono_l k
    refine ⟨?_, ?_, ?_⟩
    · intro y0 y1 y2 y3 y4
      unfold boarderlaw25_QueueFree.j0
      repeat' first
      | (with_reducible exact ih0 _ _ _ _ _)
      | (with_reducible exact ih1 _ _ _ _ _ _ _ _ _ _ _)
      | (with_reducible exact ih2 _ _ _ _ _ _)
      | (with_reducible exact boarderlaw12_Great.mono _ _)
      | (with_reducible exact boarderlaw25_knows.mono _)
      | (with_reducible exact boarderref12_Get.mono _ _ _)
      | (with_reducible exact queue_Until.mono _ _ _ _)
      | (with_reducible exact table_Free.mono _ _ _ _ _)
      | (with_reducible exact LeO.refl _)
      | (with_reducible exact LeO.none _)
      | (with_reducible refine LeO.ite ?_ ?_)
      | (with_reducible refine LeO.bind ?_ (fun _ => ?_))
      | exact ih0 _ _ _ _ _
      | exact ih1 _ _ _ _ _ _ _ _ _ _ _
      | exact ih2 _ _ _ _ _ _
      | exact boarderlaw12_Great.mono _ _
      | exact boarderlaw25_knows.mono _
      | exact boarderref12_Get.mono _ _ _
      | exact queue_Until.mono _ _ _ _
      | exact table_Free.mono _ _ _ _ _
      | exact LeO.none _
      | refine LeO.ite ?_ ?_
      | refine LeO.bind ?_ (fun _ => ?_)
    · intro y0 y1 y2 y3 y4 y5 y6 y7 y8 y9 y10
      unfold boarderlaw25_QueueFree.j1
      repeat' first
      | (with_reducible exact ih0 _ _ _ _ _)
      | (with_reducible exact ih1 _ _ _ _ _ _ _ _ _ _ _)
      | (with_reducible exact ih2 _ _ _ _ _ _)
      | (with_reducible exact boarderlaw12_Great.mono _ _)
      | (with_reducible exact boarderlaw25_knows.mono _)
      | (with_reducible exact boarderref12_Get.mono _ _ _)
      | (with_reducible exact queue_Until.mono _ _ _ _)
      | (with_reducible exact table_Free.mono _ _ _ _ _)
      | (with_reducible exact LeO.refl _)
      | (with_reducible exact LeO.none _)
      | (with_reducible refine LeO.ite ?_ ?_)
      | (with_reducible refine LeO.bind ?_ (fun _ => ?_))
      | exact ih0 _ _ _ _ _
      | exact ih1 _ _ _ _ _ _ _ _ _ _ _
      | exact ih2 _ _ _ _ _ _
      | exact boarderlaw12_Great.mono _ _
      | exact boarderlaw25_knows.mono _
      | exact boarderref12_Get.mono _ _ _
      | exact queue_Until.mono _ _ _ _
      | exact table_Free.mono _ _ _ _ _
      | exact LeO.none _
      | refine LeO.ite ?_ ?_
      | refine LeO.bind ?_ (fun _ => ?_)
    · intro y0 y1 y2 y3 y4 y5
      unfold boarderlaw25_QueueFree.j2
      repeat' first
      | (with_reducible exact ih0 _ _ _ _ _)
      | (with_reducible exact ih1 _ _ _ _ _ _ _ _ _ _ _)
      | (with_reducible exact ih2 _ _ _ _ _ _)
      | (with_reducible exact boarderlaw12_Great.mono _ _)
      | (with_reducible exact boarderlaw25_knows.mono _)
      | (with_reducible exact boarderref12_Get.mono _ _ _)
      | (with_reducible exact queue_Until.mono _ _ _ _)
      | (with_reducible exact table_Free.mono _ _ _ _ _)
      | (with_reducible exact LeO.refl _)
      | (with_reducible exact LeO.none _)
      | (with_reducible refine LeO.ite ?_ ?_)
      | (with_reducible refine LeO.bind ?_ (fun _ => ?_))
      | exact ih0 _ _ _ _ _
      | exact ih1 _ _ _ _ _ _ _ _ _ _ _
      | exact ih2 _ _ _ _ _ _
      | exact boarderlaw12_Great.mono _ _
      | exact boarderlaw25_knows.mono _
      | exact boarderref12_Get.mono _ _ _
      | exact queue_Until.mono _ _ _ _
      | exact table_Free.mono _ _ _ _ _
      | exact LeO.none _
      | refine LeO.ite ?_ ?_
      | refine LeO.bind ?_ (fun _ => ?_)
theorem boarderlaw25_QueueFree.mono : ∀ a0 a1 a2 a3 k, LeO (boarderlaw25_QueueFree.f k a0 a1 a2 a3) (boarderlaw25_QueueFree.f (k + 1) a0 a1 a2 a3) := by
  intro a0 a1 a2 a3 k
  obtain ⟨ih0, ih1, ih2⟩ := boarderlaw25_QueueFree.mono_l k
  unfold boarderlaw25_QueueFree.f
  repeat' first
      | (with_reducible exact ih0 _ _ _ _ _)
      | (with_reducible exact ih1 _ _ _ _ _ _ _ _ _ _ _)
      | (with_reducible exact ih2 _ _ _ _ _ _)
      | (with_reducible exact boarderlaw12_Great.mono _ _)
      | (with_reducible exact boarderlaw25_knows.mono _)
      | (with_reducible exact boarderref12_Get.mono _ _ _)
      | (with_reducible exact queue_Until.mono _ _ _ _)
      | (with_reducible exact table_Free.mono _ _ _ _ _)
      | (with_reducible exact LeO.refl _)
      | (with_reducible exact LeO.none _)
      | (with_reducible refine LeO.ite ?_ ?_)
      | (with_reducible refine LeO.bind ?_ (fun _ => ?_))
      | exact ih0 _ _ _ _ _
      | exact ih1 _ _ _ _ _ _ _ _ _ _ _
      | exact ih2 _ _ _ _ _ _
      | exact boarderlaw12_Great.mono _ _
      | exact boarderlaw25_knows.mono _
      | exact boarderref12_Get.mono _ _ _
      | exact queue_Until.mono _ _ _ _
      | exact table_Free.mono _ _ _ _ _
      | exact LeO.none _
      | refine LeO.ite ?_ ?_
      | refine LeO.bind ?_ (fun _ => ?_)
set_option maxHeartbeats 8000000 in
set_option maxRecDepth 100000 in
theorem boarderlaw25_QueueFree.calls (k : Nat) (A0 : Option Addr) (c0 : Nat) (l0 : List (S34)) (a1 : Int) (a2 : ByteArray) (a3 : Int) (r : Bool) (w : World) (hr0 : Kd.C k34 w A0 l0.length l0) (hc0 : l0.length ≤ c0) (h : boarderlaw25_QueueFree.f k l0 a1 a2 a3 = some r) :
    Calls Try.prog 7 #[.slice A0 l0.length c0, .int .i64 a1, .string a2, .int .i64 a3] w fun e w' => e = .returned (.bool r) ∧ Below w.heap.size w w' := by
  have hu34 := Try.underlying34
  have HR0 := Aside0.mk hr0
  have HC0 := Aside0.mk hc0
  clear hr0 hc0
  have HB := Aside0.mk (Below.refl w.heap.size w)
  have H : ((boarderlaw12_Great.f k l0).bind fun t348 => (if t348 = true then (boarderlaw25_QueueFree.j0 k l0 a1 a2 a3 true) else (if (a2.size : Int) > 1000 then (boarderlaw25_QueueFree.j0 k l0 a1 a2 a3 true) else (if a3 < 0 then (boarderlaw25_QueueFree.j0 k l0 a1 a2 a3 true) else (boarderlaw25_QueueFree.j0 k l0 a1 a2 a3 (decide (a3 > 1125899906842624))))))) = some r := h
  clear h
  have HC5 := Aside0.mk H
  clear H
  go_enter Try.func7, Try.ntmps7
  go_upto_region 1 with (fail)
  go_cut [26] (fun v26 wc => ∃ (kq : Nat) (x26_4 : Bool), v26 = .bool x26_4 ∧ Aside0 (boarderlaw25_QueueFree.j0 kq l0 a1 a2 a3 x26_4 = some r) ∧ Aside0 (kq ≤ k) ∧ Aside0 (Below w.heap.size w wc))
  case first =>
    have H := HC5.out
    clear HC5
    replace H := Option.bind_eq_some_iff.mp H
    obtain ⟨t348, A60, H⟩ := H
    replace H : (if t348 = true then (boarderlaw25_QueueFree.j0 k l0 a1 a2 a3 true) else (if (a2.size : Int) > 1000 then (boarderlaw25_QueueFree.j0 k l0 a1 a2 a3 true) else (if a3 < 0 then (boarderlaw25_QueueFree.j0 k l0 a1 a2 a3 true) else (boarderlaw25_QueueFree.j0 k l0 a1 a2 a3 (decide (a3 > 1125899906842624)))))) = some r := H
    have A6 := Aside0.mk A60
    clear A60
    by_cases c7 : t348 = true
    · subst c7
      have H1 : (boarderlaw25_QueueFree.j0 k l0 a1 a2 a3 true) = some r := by rw [if_pos rfl] at H; exact H
      clear H
      have H := H1
      clear H1
      have H' := Aside0.mk H
      clear H
      go_wp2_with (first | ((with_reducible refine gate_callee (f := 8) rfl ?_); refine goesL_ (some 13) rfl rfl Try.func8 (by kernel_rfl) rfl #[.slice A0 l0.length c0] rfl (by (try simp only [List.map_toArray, List.map_cons, List.map_nil]); first | done | rfl | (simp only [List.length_drop, List.length_take]; rfl)) ?_; (with_reducible refine (boarderlaw12_Great.calls k _ _ l0 true _ ?side1 ?side2 A6.out).mono ?_); (case side1 => repeat (first | exact (Kd.C_below HR0.out HB.out) | (with_reducible refine Kd.C_alloc ?_ _) | (with_reducible refine Kd.C_drewN ?_ _) | (with_reducible refine Kd.C_drew ?_))); (case side2 => exact HC0.out); rintro e w' ⟨rfl, ⟨nd, rfl⟩⟩; refine ⟨_, rfl, ?_⟩))
      go_meet
      case rel => exact ⟨_, (true), (by first | rfl | (simp; done) | (simp [*]; done)), H', ⟨by first | omega | exact Nat.le_refl _⟩, ⟨by repeat (first | (with_reducible first | exact HB.out | apply below_alloc | apply pw_below_drewN | apply below_drew1) | exact HB.out)⟩⟩
    · replace c7 := Bool.eq_false_iff.mpr c7
      subst c7
      have H1 : (if (a2.size : Int) > 1000 then (boarderlaw25_QueueFree.j0 k l0 a1 a2 a3 true) else (if a3 < 0 then (boarderlaw25_QueueFree.j0 k l0 a1 a2 a3 true) else (boarderlaw25_QueueFree.j0 k l0 a1 a2 a3 (decide (a3 > 1125899906842624))))) = some r := by rw [if_neg (show ¬ (false = true) by decide)] at H; exact H
      clear H
      have H := H1
      clear H1
      by_cases c8 : (a2.size : Int) > 1000
      · rw [if_pos c8] at H
        have c8b0 : decide (1000 < (a2.size : Int)) = true := decide_eq_true c8
        have c8b1 : decide (1000 < a2.size) = true := decide_eq_true (by omega)
        clear c8
        (first | rw [c8b0] | (simp only [i64_w, i32_w]; rw [c8b0]) | skip)
        have H' := Aside0.mk H
        clear H
        go_wp2_with (first | ((with_reducible refine gate_callee (f := 8) rfl ?_); refine goesL_ (some 13) rfl rfl Try.func8 (by kernel_rfl) rfl #[.slice A0 l0.length c0] rfl (by (try simp only [List.map_toArray, List.map_cons, List.map_nil]); first | done | rfl | (simp only [List.length_drop, List.length_take]; rfl)) ?_; (with_reducible refine (boarderlaw12_Great.calls k _ _ l0 false _ ?side1 ?side2 A6.out).mono ?_); (case side1 => repeat (first | exact (Kd.C_below HR0.out HB.out) | (with_reducible refine Kd.C_alloc ?_ _) | (with_reducible refine Kd.C_drewN ?_ _) | (with_reducible refine Kd.C_drew ?_))); (case side2 => exact HC0.out); rintro e w' ⟨rfl, ⟨nd, rfl⟩⟩; refine ⟨_, rfl, ?_⟩))
        go_meet
        case rel => exact ⟨_, (true), (by first | rfl | (simp; done) | (simp [*]; done)), H', ⟨by first | omega | exact Nat.le_refl _⟩, ⟨by repeat (first | (with_reducible first | exact HB.out | apply below_alloc | apply pw_below_drewN | apply below_drew1) | exact HB.out)⟩⟩
      · rw [if_neg c8] at H
        have c8b0 : decide (1000 < (a2.size : Int)) = false := decide_eq_false c8
        have c8b1 : decide (1000 < a2.size) = false := decide_eq_false (by omega)
        clear c8
        (first | rw [c8b0] | (simp only [i64_w, i32_w]; rw [c8b0]) | skip)
        by_cases c9 : a3 < 0
        · rw [if_pos c9] at H
          have c9b0 : decide (a3 < 0) = true := decide_eq_true c9
          clear c9
          have H' := Aside0.mk H
          clear H
          go_wp2_with (first | ((with_reducible refine gate_callee (f := 8) rfl ?_); refine goesL_ (some 13) rfl rfl Try.func8 (by kernel_rfl) rfl #[.slice A0 l0.length c0] rfl (by (try simp only [List.map_toArray, List.map_cons, List.map_nil]); first | done | rfl | (simp only [List.length_drop, List.length_take]; rfl)) ?_; (with_reducible refine (boarderlaw12_Great.calls k _ _ l0 false _ ?side1 ?side2 A6.out).mono ?_); (case side1 => repeat (first | exact (Kd.C_below HR0.out HB.out) | (with_reducible refine Kd.C_alloc ?_ _) | (with_reducible refine Kd.C_drewN ?_ _) | (with_reducible refine Kd.C_drew ?_))); (case side2 => exact HC0.out); rintro e w' ⟨rfl, ⟨nd, rfl⟩⟩; refine ⟨_, rfl, ?_⟩))
          go_meet
          case rel => exact ⟨_, (true), (by first | rfl | (simp; done) | (simp [*]; done)), H', ⟨by first | omega | exact Nat.le_refl _⟩, ⟨by repeat (first | (with_reducible first | exact HB.out | apply below_alloc | apply pw_below_drewN | apply below_drew1) | exact HB.out)⟩⟩
        · rw [if_neg c9] at H
          have c9b0 : decide (a3 < 0) = false := decide_eq_false c9
          clear c9
          have H' := Aside0.mk H
          clear H
          go_wp2_with (first | ((with_reducible refine gate_callee (f := 8) rfl ?_); refine goesL_ (some 13) rfl rfl Try.func8 (by kernel_rfl) rfl #[.slice A0 l0.length c0] rfl (by (try simp only [List.map_toArray, List.map_cons, List.map_nil]); first | done | rfl | (simp only [List.length_drop, List.length_take]; rfl)) ?_; (with_reducible refine (boarderlaw12_Great.calls k _ _ l0 false _ ?side1 ?side2 A6.out).mono ?_); (case side1 => repeat (first | exact (Kd.C_below HR0.out HB.out) | (with_reducible refine Kd.C_alloc ?_ _) | (with_reducible refine Kd.C_drewN ?_ _) | (with_reducible refine Kd.C_drew ?_))); (case side2 => exact HC0.out); rintro e w' ⟨rfl, ⟨nd, rfl⟩⟩; refine ⟨_, rfl, ?_⟩))
          go_meet
          case rel => exact ⟨_, (decide (a3 > 1125899906842624)), (by first | rfl | (simp; done) | (simp [*]; done)), H', ⟨by first | omega | exact Nat.le_refl _⟩, ⟨by repeat (first | (with_reducible first | exact HB.out | apply below_alloc | apply pw_below_drewN | apply below_drew1) | exact HB.out)⟩⟩
  case rest =>
    clear HC5
    try clear p2
    try clear c7
    try clear c8
    try clear c8b0
    try clear c8b1
    try clear c9
    try clear c9b0
    obtain ⟨kq, x26_4, rfl, HA, HJ4, HB⟩ := hcut
    cases kq with
    | zero => exact absurd HA.out (by simp [boarderlaw25_QueueFree.j0])
    | succ kj4 =>
      have H := HA.out
      clear HA
      simp only [boarderlaw25_QueueFree.j0] at H
      by_cases c10 : x26_4 = true
      · subst c10
        have H1 : ((boarderlaw25_knows.f kj4).bind fun t349 => (some t349)) = some r := by rw [if_pos rfl] at H; exact H
        clear H
        have H := H1
        clear H1
        replace H := Option.bind_eq_some_iff.mp H
        obtain ⟨t349, A110, H⟩ := H
        replace H : (some t349) = some r := H
        have A11 := Aside0.mk A110
        clear A110
        obtain rfl := Option.some.inj H
        go_wp2_with (first | ((with_reducible refine gate_callee (f := 9) rfl ?_); refine goesL_ (some 27) rfl rfl Try.func9 (by kernel_rfl) rfl #[] rfl (by (try simp only [List.map_toArray, List.map_cons, List.map_nil]); first | done | rfl | (simp only [List.length_drop, List.length_take]; rfl)) ?_; (with_reducible refine (boarderlaw25_knows.calls kj4  t349 _ A11.out).mono ?_); rintro e w12 ⟨rfl, hb⟩; refine ⟨_, rfl, ?_⟩; have n0_ := Aside0.mk (below_step (by repeat (first | (with_reducible first | exact HB.out | apply below_alloc | apply pw_below_drewN | apply below_drew1) | exact HB.out)) hb); clear HB; have HB := n0_; clear n0_; (try clear hb); (try clear hb2); (try clear hk); (try clear hi)))
        go_ret
        exact ⟨by first | rfl | (simp [errW_none, errW_some] <;> rfl) | (simp [*, errW_none, errW_some] <;> rfl), by repeat (first | (with_reducible first | exact HB.out | apply below_alloc | apply pw_below_drewN | apply below_drew1) | exact HB.out)⟩
      · replace c10 := Bool.eq_false_iff.mpr c10
        subst c10
        have H1 : ((queue_Until.f kj4 l0 a1 a3).bind fun t350 => ((boarderref12_Get.f kj4 l0 a1).bind fun bt351 => ((table_Free.f kj4 l0 a1 a2 (wrap64 (a3 + t350))).bind fun t357 => (if t357 = true then (boarderlaw25_QueueFree.j1 kj4 l0 a1 a2 a3 t350 bt351.2.2.2.2 (decide (t350 < 0)) bt351.1 bt351.2.1 bt351.2.2.1 bt351.2.2.2.1) else (boarderlaw25_QueueFree.j1 kj4 l0 a1 a2 a3 t350 bt351.2.2.2.2 true bt351.1 bt351.2.1 bt351.2.2.1 bt351.2.2.2.1))))) = some r := by rw [if_neg (show ¬ (false = true) by decide)] at H; exact H
        clear H
        have H := H1
        clear H1
        replace H := Option.bind_eq_some_iff.mp H
        obtain ⟨t350, A130, H⟩ := H
        replace H : ((boarderref12_Get.f kj4 l0 a1).bind fun bt351 => ((table_Free.f kj4 l0 a1 a2 (wrap64 (a3 + t350))).bind fun t357 => (if t357 = true then (boarderlaw25_QueueFree.j1 kj4 l0 a1 a2 a3 t350 bt351.2.2.2.2 (decide (t350 < 0)) bt351.1 bt351.2.1 bt351.2.2.1 bt351.2.2.2.1) else (boarderlaw25_QueueFree.j1 kj4 l0 a1 a2 a3 t350 bt351.2.2.2.2 true bt351.1 bt351.2.1 bt351.2.2.1 bt351.2.2.2.1)))) = some r := H
        have A13 := Aside0.mk A130
        clear A130
        replace H := Option.bind_eq_some_iff.mp H
        obtain ⟨⟨t351, t352, t353, t354, t355⟩, A140, H⟩ := H
        replace H : ((table_Free.f kj4 l0 a1 a2 (wrap64 (a3 + t350))).bind fun t357 => (if t357 = true then (boarderlaw25_QueueFree.j1 kj4 l0 a1 a2 a3 t350 t355 (decide (t350 < 0)) t351 t352 t353 t354) else (boarderlaw25_QueueFree.j1 kj4 l0 a1 a2 a3 t350 t355 true t351 t352 t353 t354))) = some r := H
        have A14 := Aside0.mk A140
        clear A140
        have HC15 := Aside0.mk H
        clear H
        go_upto_region 5 with (first | ((with_reducible refine gate_callee (f := 17) rfl ?_); refine goesL_ (some 31) rfl rfl Try.func17 (by kernel_rfl) rfl #[.slice A0 l0.length c0, .int .i64 a1, .int .i64 a3] rfl (by (try simp only [List.map_toArray, List.map_cons, List.map_nil]); first | done | rfl | (simp only [List.length_drop, List.length_take]; rfl)) ?_; (with_reducible refine (queue_Until.calls kj4 _ _ l0 a1 a3 t350 _ ?side1 ?side2 A13.out).mono ?_); (case side1 => repeat (first | exact (Kd.C_below HR0.out HB.out) | (with_reducible refine Kd.C_alloc ?_ _) | (with_reducible refine Kd.C_drewN ?_ _) | (with_reducible refine Kd.C_drew ?_))); (case side2 => exact HC0.out); rintro e w16 ⟨rfl, hb⟩; refine ⟨_, rfl, ?_⟩; have n0_ := Aside0.mk (below_step (by repeat (first | (with_reducible first | exact HB.out | apply below_alloc | apply pw_below_drewN | apply below_drew1) | exact HB.out)) hb); clear HB; have HB := n0_; clear n0_; (try clear hb); (try clear hb2); (try clear hk); (try clear hi)) | ((with_reducible refine gate_callee (f := 19) rfl ?_); refine goesL_ (some 35) rfl rfl Try.func19 (by kernel_rfl) rfl #[.slice A0 l0.length c0, .int .i64 a1] rfl (by (try simp only [List.map_toArray, List.map_cons, List.map_nil]); first | done | rfl | (simp only [List.length_drop, List.length_take]; rfl)) ?_; (with_reducible refine (boarderref12_Get.calls kj4 _ _ l0 a1 t351 t352 t353 t354 t355 _ ?side1 ?side2 A14.out).mono ?_); (case side1 => repeat (first | exact (Kd.C_below HR0.out HB.out) | (with_reducible refine Kd.C_alloc ?_ _) | (with_reducible refine Kd.C_drewN ?_ _) | (with_reducible refine Kd.C_drew ?_))); (case side2 => exact HC0.out); rintro e w17 ⟨rfl, hb⟩; refine ⟨_, rfl, ?_⟩; have n0_ := Aside0.mk (below_step (by repeat (first | (with_reducible first | exact HB.out | apply below_alloc | apply pw_below_drewN | apply below_drew1) | exact HB.out)) hb); clear HB; have HB := n0_; clear n0_; (try clear hb); (try clear hb2); (try clear hk); (try clear hi)) | ((with_reducible refine gate_dst (N := 10) rfl ?_); (try (refine gate_guard (by rfl) ?_; dsimp only)); refine box_event ?hg (N := 10) ?hd (cs := #[.int .i64 0, .int .i64 0, .int .i64 0, .string (⟨#[]⟩ : ByteArray)]) (t := 34) ?hr ?_; (case hd => rfl); (case hg => rfl); (case hr => first | (go_simp; done) | (go_simp; rfl)); intro gb356 hg w18 hbox hb; have n0_ := Aside0.mk (below_step (by repeat (first | (with_reducible first | exact HB.out | apply below_alloc | apply pw_below_drewN | apply below_drew1) | exact HB.out)) hb); have n1_ := Aside0.mk (hbox); have n2_ := Aside0.mk ((by rw [hg]; exact (below_size (by repeat (first | (with_reducible first | exact HB.out | apply below_alloc | apply pw_below_drewN | apply below_drew1) | exact HB.out))) : w.heap.size ≤ gb356)); have n3_ := Aside0.mk ((by rw [hg]; exact (below_size (by repeat (first | (with_reducible first | exact HB.out | apply below_alloc | apply pw_below_drewN | apply below_drew1) | exact HB.out))) : w.heap.size ≤ gb356)); clear HB; have HB := n0_; have BK356 := n1_; have GW356 := n2_; have GE356 := n3_; clear n0_ n1_ n2_ n3_; clear hb hbox hg; have hcz19_0 : w18.cell? ⟨gb356, 0, none⟩ = some (.int .i64 0) := (blk_cell BK356.out 0).trans rfl; have hcz19_1 : w18.cell? ⟨gb356, 1, none⟩ = some (.int .i64 0) := (blk_cell BK356.out 1).trans rfl; have hcz19_2 : w18.cell? ⟨gb356, 2, none⟩ = some (.int .i64 0) := (blk_cell BK356.out 2).trans rfl; have hcz19_3 : w18.cell? ⟨gb356, 3, none⟩ = some (.string (⟨#[]⟩ : ByteArray)) := (blk_cell BK356.out 3).trans rfl; have hfz19_0 := blk_frozen BK356.out 0; have hfz19_1 := blk_frozen BK356.out 1; have hfz19_2 := blk_frozen BK356.out 2; have hfz19_3 := blk_frozen BK356.out 3))
        (try simp only [Act.put, List.setIfInBounds_toArray, List.set_cons_zero, List.set_cons_succ])
        go_cut [49] (fun v49 wc => ∃ (kq : Nat) (x49_14 : Bool), v49 = .bool x49_14 ∧ Aside0 (boarderlaw25_QueueFree.j1 kq l0 a1 a2 a3 t350 t355 x49_14 t351 t352 t353 t354 = some r) ∧ Aside0 (kq ≤ kj4) ∧ Aside0 (wc.heap[gb356]? = some (.cells #[.int .i64 t351, .int .i64 t352, .int .i64 t353, .string t354] 34 (0, 0))) ∧ Aside0 (Below w.heap.size w wc))
        case first =>
          have H := HC15.out
          clear HC15
          replace H := Option.bind_eq_some_iff.mp H
          obtain ⟨t357, A200, H⟩ := H
          replace H : (if t357 = true then (boarderlaw25_QueueFree.j1 kj4 l0 a1 a2 a3 t350 t355 (decide (t350 < 0)) t351 t352 t353 t354) else (boarderlaw25_QueueFree.j1 kj4 l0 a1 a2 a3 t350 t355 true t351 t352 t353 t354)) = some r := H
          have A20 := Aside0.mk A200
          clear A200
          by_cases c21 : t357 = true
          · subst c21
            have H1 : (boarderlaw25_QueueFree.j1 kj4 l0 a1 a2 a3 t350 t355 (decide (t350 < 0)) t351 t352 t353 t354) = some r := by rw [if_pos rfl] at H; exact H
            clear H
            have H := H1
            clear H1
            have H' := Aside0.mk H
            clear H
            go_wp2_with (first | ((with_reducible refine gate_callee (f := 20) rfl ?_); refine goesL_ (some 44) rfl rfl Try.func20 (by kernel_rfl) rfl #[.slice A0 l0.length c0, .int .i64 a1, .string a2, .int .i64 (wrap64 (a3 + t350))] rfl (by (try simp only [List.map_toArray, List.map_cons, List.map_nil]); first | done | rfl | (simp only [List.length_drop, List.length_take]; rfl)) ?_; (with_reducible refine (table_Free.calls kj4 _ _ l0 a1 a2 (wrap64 (a3 + t350)) true _ ?side1 ?side2 A20.out).mono ?_); (case side1 => exact Kd.C_below HR0.out (by repeat (first | (with_reducible first | exact HB.out | apply below_alloc | apply pw_below_drewN | apply below_drew1 | refine below_set ?_ GE356.out) | exact HB.out))); (case side2 => exact HC0.out); rintro e w22 ⟨rfl, hb⟩; refine ⟨_, rfl, ?_⟩; have n0_ := Aside0.mk (blk_below (g := gb356) (o := .cells #[.int .i64 t351, .int .i64 t352, .int .i64 t353, .string t354] 34 (0, 0)) (by (with_reducible repeat (first | refine blk_drewN ?_ _ | refine blk_drew ?_ | refine blk_alloc ?_ _)); refine blk_put (cs := #[.int .i64 t351, .int .i64 t352, .int .i64 t353, .string (⟨#[]⟩ : ByteArray)]) ?_ 3 _ rfl; (with_reducible repeat (first | refine blk_drewN ?_ _ | refine blk_drew ?_ | refine blk_alloc ?_ _)); refine blk_put (cs := #[.int .i64 t351, .int .i64 t352, .int .i64 0, .string (⟨#[]⟩ : ByteArray)]) ?_ 2 _ rfl; (with_reducible repeat (first | refine blk_drewN ?_ _ | refine blk_drew ?_ | refine blk_alloc ?_ _)); refine blk_put (cs := #[.int .i64 t351, .int .i64 0, .int .i64 0, .string (⟨#[]⟩ : ByteArray)]) ?_ 1 _ rfl; (with_reducible repeat (first | refine blk_drewN ?_ _ | refine blk_drew ?_ | refine blk_alloc ?_ _)); refine blk_put (cs := #[.int .i64 0, .int .i64 0, .int .i64 0, .string (⟨#[]⟩ : ByteArray)]) ?_ 0 _ rfl; (with_reducible repeat (first | refine blk_drewN ?_ _ | refine blk_drew ?_ | refine blk_alloc ?_ _)); exact BK356.out) hb); have n1_ := Aside0.mk (below_step (by repeat (first | (with_reducible first | exact HB.out | apply below_alloc | apply pw_below_drewN | apply below_drew1 | refine below_set ?_ GE356.out) | exact HB.out)) hb); clear BK356; clear HB; have BK356 := n0_; have HB := n1_; clear n0_ n1_; (try clear hb); (try clear hb2); (try clear hk); (try clear hi)))
            go_meet
            case rel => exact ⟨_, (decide (t350 < 0)), (by first | rfl | (simp; done) | (simp [*]; done)), H', ⟨by have := HJ4.out; first | omega | exact Nat.le_refl _⟩, ⟨by (with_reducible repeat (first | refine blk_drewN ?_ _ | refine blk_drew ?_ | refine blk_alloc ?_ _)); exact BK356.out⟩, ⟨by repeat (first | (with_reducible first | exact HB.out | apply below_alloc | apply pw_below_drewN | apply below_drew1 | refine below_set ?_ GE356.out) | exact HB.out)⟩⟩
          · replace c21 := Bool.eq_false_iff.mpr c21
            subst c21
            have H1 : (boarderlaw25_QueueFree.j1 kj4 l0 a1 a2 a3 t350 t355 true t351 t352 t353 t354) = some r := by rw [if_neg (show ¬ (false = true) by decide)] at H; exact H
            clear H
            have H := H1
            clear H1
            have H' := Aside0.mk H
            clear H
            go_wp2_with (first | ((with_reducible refine gate_callee (f := 20) rfl ?_); refine goesL_ (some 44) rfl rfl Try.func20 (by kernel_rfl) rfl #[.slice A0 l0.length c0, .int .i64 a1, .string a2, .int .i64 (wrap64 (a3 + t350))] rfl (by (try simp only [List.map_toArray, List.map_cons, List.map_nil]); first | done | rfl | (simp only [List.length_drop, List.length_take]; rfl)) ?_; (with_reducible refine (table_Free.calls kj4 _ _ l0 a1 a2 (wrap64 (a3 + t350)) false _ ?side1 ?side2 A20.out).mono ?_); (case side1 => exact Kd.C_below HR0.out (by repeat (first | (with_reducible first | exact HB.out | apply below_alloc | apply pw_below_drewN | apply below_drew1 | refine below_set ?_ GE356.out) | exact HB.out))); (case side2 => exact HC0.out); rintro e w23 ⟨rfl, hb⟩; refine ⟨_, rfl, ?_⟩; have n0_ := Aside0.mk (blk_below (g := gb356) (o := .cells #[.int .i64 t351, .int .i64 t352, .int .i64 t353, .string t354] 34 (0, 0)) (by (with_reducible repeat (first | refine blk_drewN ?_ _ | refine blk_drew ?_ | refine blk_alloc ?_ _)); refine blk_put (cs := #[.int .i64 t351, .int .i64 t352, .int .i64 t353, .string (⟨#[]⟩ : ByteArray)]) ?_ 3 _ rfl; (with_reducible repeat (first | refine blk_drewN ?_ _ | refine blk_drew ?_ | refine blk_alloc ?_ _)); refine blk_put (cs := #[.int .i64 t351, .int .i64 t352, .int .i64 0, .string (⟨#[]⟩ : ByteArray)]) ?_ 2 _ rfl; (with_reducible repeat (first | refine blk_drewN ?_ _ | refine blk_drew ?_ | refine blk_alloc ?_ _)); refine blk_put (cs := #[.int .i64 t351, .int .i64 0, .int .i64 0, .string (⟨#[]⟩ : ByteArray)]) ?_ 1 _ rfl; (with_reducible repeat (first | refine blk_drewN ?_ _ | refine blk_drew ?_ | refine blk_alloc ?_ _)); refine blk_put (cs := #[.int .i64 0, .int .i64 0, .int .i64 0, .string (⟨#[]⟩ : ByteArray)]) ?_ 0 _ rfl; (with_reducible repeat (first | refine blk_drewN ?_ _ | refine blk_drew ?_ | refine blk_alloc ?_ _)); exact BK356.out) hb); have n1_ := Aside0.mk (below_step (by repeat (first | (with_reducible first | exact HB.out | apply below_alloc | apply pw_below_drewN | apply below_drew1 | refine below_set ?_ GE356.out) | exact HB.out)) hb); clear BK356; clear HB; have BK356 := n0_; have HB := n1_; clear n0_ n1_; (try clear hb); (try clear hb2); (try clear hk); (try clear hi)))
            go_meet
            case rel => exact ⟨_, (true), (by first | rfl | (simp; done) | (simp [*]; done)), H', ⟨by have := HJ4.out; first | omega | exact Nat.le_refl _⟩, ⟨by (with_reducible repeat (first | refine blk_drewN ?_ _ | refine blk_drew ?_ | refine blk_alloc ?_ _)); exact BK356.out⟩, ⟨by repeat (first | (with_reducible first | exact HB.out | apply below_alloc | apply pw_below_drewN | apply below_drew1 | refine below_set ?_ GE356.out) | exact HB.out)⟩⟩
        case rest =>
          clear HC15
          try clear c1
          try clear c2
          try clear p2
          try clear p6
          try clear c7
          try clear c8
          try clear c8b0
          try clear c8b1
          try clear c9
          try clear c9b0
          try clear c10
          try clear c17
          try clear c19
          try clear c20
          try clear c21
          try clear hcz19_0
          try clear hcz19_1
          try clear hcz19_2
          try clear hcz19_3
          try clear hfz19_0
          try clear hfz19_1
          try clear hfz19_2
          try clear hfz19_3
          try clear p2
          obtain ⟨kq, x49_14, rfl, HA, HJ14, BK356, HB⟩ := hcut
          cases kq with
          | zero => exact absurd HA.out (by simp [boarderlaw25_QueueFree.j1])
          | succ kj14 =>
            have H := HA.out
            clear HA
            simp only [boarderlaw25_QueueFree.j1] at H
            by_cases c24 : x49_14 = true
            · subst c24
              have H1 : (none) = some r := by rw [if_pos rfl] at H; exact H
              clear H
              have H := H1
              clear H1
              exact absurd H (by simp)
            · replace c24 := Bool.eq_false_iff.mpr c24
              subst c24
              have H1 : (if t350 > 0 then (if t355 = true then (boarderlaw25_QueueFree.j2 kj14 l0 a1 a2 a3 t350 (t354.toList != a2.toList)) else (boarderlaw25_QueueFree.j2 kj14 l0 a1 a2 a3 t350 true)) else (boarderlaw25_QueueFree.j2 kj14 l0 a1 a2 a3 t350 false)) = some r := by rw [if_neg (show ¬ (false = true) by decide)] at H; exact H
              clear H
              have H := H1
              clear H1
              have HC25 := Aside0.mk H
              clear H
              go_upto_region 7 with (fail)
              go_cut [61] (fun v61 wc => ∃ (kq : Nat) (x61_24 : Bool), v61 = .bool x61_24 ∧ Aside0 (boarderlaw25_QueueFree.j2 kq l0 a1 a2 a3 t350 x61_24 = some r) ∧ Aside0 (kq ≤ kj14) ∧ Aside0 (wc.heap[gb356]? = some (.cells #[.int .i64 t351, .int .i64 t352, .int .i64 t353, .string t354] 34 (0, 0))) ∧ Aside0 (Below w.heap.size w wc))
              case first =>
                have H := HC25.out
                clear HC25
                by_cases c26 : t350 > 0
                · rw [if_pos c26] at H
                  have c26b0 : decide (0 < t350) = true := decide_eq_true c26
                  clear c26
                  (first | rw [c26b0] | (simp only [i64_w, i32_w]; rw [c26b0]) | skip)
                  by_cases c27 : t355 = true
                  · subst c27
                    have H1 : (boarderlaw25_QueueFree.j2 kj14 l0 a1 a2 a3 t350 (t354.toList != a2.toList)) = some r := by rw [if_pos rfl] at H; exact H
                    clear H
                    have H := H1
                    clear H1
                    have H' := Aside0.mk H
                    clear H
                    have hcz28_0 : wc.cell? ⟨gb356, 0, none⟩ = some (.int .i64 t351) := (blk_cell BK356.out 0).trans rfl
                    have hcz28_1 : wc.cell? ⟨gb356, 1, none⟩ = some (.int .i64 t352) := (blk_cell BK356.out 1).trans rfl
                    have hcz28_2 : wc.cell? ⟨gb356, 2, none⟩ = some (.int .i64 t353) := (blk_cell BK356.out 2).trans rfl
                    have hcz28_3 : wc.cell? ⟨gb356, 3, none⟩ = some (.string t354) := (blk_cell BK356.out 3).trans rfl
                    have hfz28_0 := blk_frozen BK356.out 0
                    have hfz28_1 := blk_frozen BK356.out 1
                    have hfz28_2 := blk_frozen BK356.out 2
                    have hfz28_3 := blk_frozen BK356.out 3
                    go_wp2
                    go_meet
                    case rel => exact ⟨_, ((t354.toList != a2.toList)), (by first | rfl | (simp; done) | (simp [*]; done)), H', ⟨by have := HJ4.out; have := HJ14.out; first | omega | exact Nat.le_refl _⟩, ⟨by (with_reducible repeat (first | refine blk_drewN ?_ _ | refine blk_drew ?_ | refine blk_alloc ?_ _)); exact BK356.out⟩, ⟨by repeat (first | (with_reducible first | exact HB.out | apply below_alloc | apply pw_below_drewN | apply below_drew1 | refine below_set ?_ GE356.out) | exact HB.out)⟩⟩
                  · replace c27 := Bool.eq_false_iff.mpr c27
                    subst c27
                    have H1 : (boarderlaw25_QueueFree.j2 kj14 l0 a1 a2 a3 t350 true) = some r := by rw [if_neg (show ¬ (false = true) by decide)] at H; exact H
                    clear H
                    have H := H1
                    clear H1
                    have H' := Aside0.mk H
                    clear H
                    go_wp2
                    go_meet
                    case rel => exact ⟨_, (true), (by first | rfl | (simp; done) | (simp [*]; done)), H', ⟨by have := HJ4.out; have := HJ14.out; first | omega | exact Nat.le_refl _⟩, ⟨by (with_reducible repeat (first | refine blk_drewN ?_ _ | refine blk_drew ?_ | refine blk_alloc ?_ _)); exact BK356.out⟩, ⟨by repeat (first | (with_reducible first | exact HB.out | apply below_alloc | apply pw_below_drewN | apply below_drew1 | refine below_set ?_ GE356.out) | exact HB.out)⟩⟩
                · rw [if_neg c26] at H
                  have c26b0 : decide (0 < t350) = false := decide_eq_false c26
                  clear c26
                  (first | rw [c26b0] | (simp only [i64_w, i32_w]; rw [c26b0]) | skip)
                  have H' := Aside0.mk H
                  clear H
                  go_wp2
                  go_meet
                  case rel => exact ⟨_, (false), (by first | rfl | (simp; done) | (simp [*]; done)), H', ⟨by have := HJ4.out; have := HJ14.out; first | omega | exact Nat.le_refl _⟩, ⟨by (with_reducible repeat (first | refine blk_drewN ?_ _ | refine blk_drew ?_ | refine blk_alloc ?_ _)); exact BK356.out⟩, ⟨by repeat (first | (with_reducible first | exact HB.out | apply below_alloc | apply pw_below_drewN | apply below_drew1 | refine below_set ?_ GE356.out) | exact HB.out)⟩⟩
              case rest =>
                clear HC25
                try clear c1
                try clear c2
                try clear p2
                try clear p6
                try clear c7
                try clear c8
                try clear c8b0
                try clear c8b1
                try clear c9
                try clear c9b0
                try clear c10
                try clear c17
                try clear c19
                try clear c20
                try clear c21
                try clear c24
                try clear c26
                try clear c26b0
                try clear c27
                try clear hcz19_0
                try clear hcz19_1
                try clear hcz19_2
                try clear hcz19_3
                try clear hcz28_0
                try clear hcz28_1
                try clear hcz28_2
                try clear hcz28_3
                try clear hfz19_0
                try clear hfz19_1
                try clear hfz19_2
                try clear hfz19_3
                try clear hfz28_0
                try clear hfz28_1
                try clear hfz28_2
                try clear hfz28_3
                try clear p2
                try clear p6
                obtain ⟨kq, x61_24, rfl, HA, HJ24, BK356, HB⟩ := hcut
                cases kq with
                | zero => exact absurd HA.out (by simp [boarderlaw25_QueueFree.j2])
                | succ kj24 =>
                  have H := HA.out
                  clear HA
                  simp only [boarderlaw25_QueueFree.j2] at H
                  by_cases c29 : x61_24 = true
                  · subst c29
                    have H1 : ((table_Free.f kj24 l0 a1 a2 (wrap64 ((wrap64 (a3 + t350)) - 1))).bind fun t358 => (if t358 = true then (none) else ((table_Free.f kj24 l0 a1 a2 a3).bind fun t359 => (if t359 = true then (none) else ((boarderlaw25_knows.f kj24).bind fun t360 => (some t360)))))) = some r := by rw [if_pos rfl] at H; exact H
                    clear H
                    have H := H1
                    clear H1
                    replace H := Option.bind_eq_some_iff.mp H
                    obtain ⟨t358, A300, H⟩ := H
                    replace H : (if t358 = true then (none) else ((table_Free.f kj24 l0 a1 a2 a3).bind fun t359 => (if t359 = true then (none) else ((boarderlaw25_knows.f kj24).bind fun t360 => (some t360))))) = some r := H
                    have A30 := Aside0.mk A300
                    clear A300
                    by_cases c31 : t358 = true
                    · subst c31
                      have H1 : (none) = some r := by rw [if_pos rfl] at H; exact H
                      clear H
                      have H := H1
                      clear H1
                      exact absurd H (by simp)
                    · replace c31 := Bool.eq_false_iff.mpr c31
                      subst c31
                      have H1 : ((table_Free.f kj24 l0 a1 a2 a3).bind fun t359 => (if t359 = true then (none) else ((boarderlaw25_knows.f kj24).bind fun t360 => (some t360)))) = some r := by rw [if_neg (show ¬ (false = true) by decide)] at H; exact H
                      clear H
                      have H := H1
                      clear H1
                      replace H := Option.bind_eq_some_iff.mp H
                      obtain ⟨t359, A320, H⟩ := H
                      replace H : (if t359 = true then (none) else ((boarderlaw25_knows.f kj24).bind fun t360 => (some t360))) = some r := H
                      have A32 := Aside0.mk A320
                      clear A320
                      by_cases c33 : t359 = true
                      · subst c33
                        have H1 : (none) = some r := by rw [if_pos rfl] at H; exact H
                        clear H
                        have H := H1
                        clear H1
                        exact absurd H (by simp)
                      · replace c33 := Bool.eq_false_iff.mpr c33
                        subst c33
                        have H1 : ((boarderlaw25_knows.f kj24).bind fun t360 => (some t360)) = some r := by rw [if_neg (show ¬ (false = true) by decide)] at H; exact H
                        clear H
                        have H := H1
                        clear H1
                        replace H := Option.bind_eq_some_iff.mp H
                        obtain ⟨t360, A340, H⟩ := H
                        replace H : (some t360) = some r := H
                        have A34 := Aside0.mk A340
                        clear A340
                        obtain rfl := Option.some.inj H
                        go_wp2_with (first | ((with_reducible refine gate_callee (f := 20) rfl ?_); refine goesL_ (some 69) rfl rfl Try.func20 (by kernel_rfl) rfl #[.slice A0 l0.length c0, .int .i64 a1, .string a2, .int .i64 (wrap64 ((wrap64 (a3 + t350)) - 1))] rfl (by (try simp only [List.map_toArray, List.map_cons, List.map_nil]); first | done | rfl | (simp only [List.length_drop, List.length_take]; rfl)) ?_; (with_reducible refine (table_Free.calls kj24 _ _ l0 a1 a2 (wrap64 ((wrap64 (a3 + t350)) - 1)) false _ ?side1 ?side2 A30.out).mono ?_); (case side1 => repeat (first | exact (Kd.C_below HR0.out HB.out) | (with_reducible refine Kd.C_alloc ?_ _) | (with_reducible refine Kd.C_drewN ?_ _) | (with_reducible refine Kd.C_drew ?_))); (case side2 => exact HC0.out); rintro e w35 ⟨rfl, hb⟩; refine ⟨_, rfl, ?_⟩; have n0_ := Aside0.mk (blk_below (g := gb356) (o := .cells #[.int .i64 t351, .int .i64 t352, .int .i64 t353, .string t354] 34 (0, 0)) (by (with_reducible repeat (first | refine blk_drewN ?_ _ | refine blk_drew ?_ | refine blk_alloc ?_ _)); exact BK356.out) hb); have n1_ := Aside0.mk (below_step (by repeat (first | (with_reducible first | exact HB.out | apply below_alloc | apply pw_below_drewN | apply below_drew1 | refine below_set ?_ GE356.out) | exact HB.out)) hb); clear BK356; clear HB; have BK356 := n0_; have HB := n1_; clear n0_ n1_; (try clear hb); (try clear hb2); (try clear hk); (try clear hi)) | (go_at_call 20; (with_reducible refine (table_Free.calls kj24 _ _ l0 a1 a2 a3 false _ ?side1 ?side2 A32.out).mono ?_); (case side1 => repeat (first | exact (Kd.C_below HR0.out HB.out) | (with_reducible refine Kd.C_alloc ?_ _) | (with_reducible refine Kd.C_drewN ?_ _) | (with_reducible refine Kd.C_drew ?_))); (case side2 => exact HC0.out); rintro e w36 ⟨rfl, hb⟩; have n0_ := Aside0.mk (blk_below (g := gb356) (o := .cells #[.int .i64 t351, .int .i64 t352, .int .i64 t353, .string t354] 34 (0, 0)) (by (with_reducible repeat (first | refine blk_drewN ?_ _ | refine blk_drew ?_ | refine blk_alloc ?_ _)); exact BK356.out) hb); have n1_ := Aside0.mk (below_step (by repeat (first | (with_reducible first | exact HB.out | apply below_alloc | apply pw_below_drewN | apply below_drew1 | refine below_set ?_ GE356.out) | exact HB.out)) hb); clear BK356; clear HB; have BK356 := n0_; have HB := n1_; clear n0_ n1_; (try clear hb); (try clear hb2); (try clear hk); (try clear hi)) | (go_at_call 9; (with_reducible refine (boarderlaw25_knows.calls kj24  t360 _ A34.out).mono ?_); rintro e w37 ⟨rfl, hb⟩; have n0_ := Aside0.mk (blk_below (g := gb356) (o := .cells #[.int .i64 t351, .int .i64 t352, .int .i64 t353, .string t354] 34 (0, 0)) (by (with_reducible repeat (first | refine blk_drewN ?_ _ | refine blk_drew ?_ | refine blk_alloc ?_ _)); exact BK356.out) hb); have n1_ := Aside0.mk (below_step (by repeat (first | (with_reducible first | exact HB.out | apply below_alloc | apply pw_below_drewN | apply below_drew1 | refine below_set ?_ GE356.out) | exact HB.out)) hb); clear BK356; clear HB; have BK356 := n0_; have HB := n1_; clear n0_ n1_; (try clear hb); (try clear hb2); (try clear hk); (try clear hi)))
                        go_ret
                        exact ⟨by first | rfl | (simp [errW_none, errW_some] <;> rfl) | (simp [*, errW_none, errW_some] <;> rfl), by repeat (first | (with_reducible first | exact HB.out | apply below_alloc | apply pw_below_drewN | apply below_drew1 | refine below_set ?_ GE356.out) | exact HB.out)⟩
                  · replace c29 := Bool.eq_false_iff.mpr c29
                    subst c29
                    have H1 : ((boarderlaw25_knows.f kj24).bind fun t361 => (some t361)) = some r := by rw [if_neg (show ¬ (false = true) by decide)] at H; exact H
                    clear H
                    have H := H1
                    clear H1
                    replace H := Option.bind_eq_some_iff.mp H
                    obtain ⟨t361, A380, H⟩ := H
                    replace H : (some t361) = some r := H
                    have A38 := Aside0.mk A380
                    clear A380
                    obtain rfl := Option.some.inj H
                    go_wp2_with (first | ((with_reducible refine gate_callee (f := 9) rfl ?_); refine goesL_ (some 82) rfl rfl Try.func9 (by kernel_rfl) rfl #[] rfl (by (try simp only [List.map_toArray, List.map_cons, List.map_nil]); first | done | rfl | (simp only [List.length_drop, List.length_take]; rfl)) ?_; (with_reducible refine (boarderlaw25_knows.calls kj24  t361 _ A38.out).mono ?_); rintro e w39 ⟨rfl, hb⟩; refine ⟨_, rfl, ?_⟩; have n0_ := Aside0.mk (blk_below (g := gb356) (o := .cells #[.int .i64 t351, .int .i64 t352, .int .i64 t353, .string t354] 34 (0, 0)) (by (with_reducible repeat (first | refine blk_drewN ?_ _ | refine blk_drew ?_ | refine blk_alloc ?_ _)); exact BK356.out) hb); have n1_ := Aside0.mk (below_step (by repeat (first | (with_reducible first | exact HB.out | apply below_alloc | apply pw_below_drewN | apply below_drew1 | refine below_set ?_ GE356.out) | exact HB.out)) hb); clear BK356; clear HB; have BK356 := n0_; have HB := n1_; clear n0_ n1_; (try clear hb); (try clear hb2); (try clear hk); (try clear hi)))
                    go_ret
                    exact ⟨by first | rfl | (simp [errW_none, errW_some] <;> rfl) | (simp [*, errW_none, errW_some] <;> rfl), by repeat (first | (with_reducible first | exact HB.out | apply below_alloc | apply pw_below_drewN | apply below_drew1 | refine below_set ?_ GE356.out) | exact HB.out)⟩

end Go.Proofs.Ytkjmfnijagdhpaa.PQueue
