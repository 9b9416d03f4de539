/- Lean functions for Go functions of the given program, and proofs that the code computes them, each under its theorem's own conditions. Written by a program of this session. -/
import Derived.Test.YtlabpabnddfllaaPTablex0
import Derived.Test.YtlabpabnddfllaaPTablex1
import Derived.Test.YtlabpabnddfllaaPTablex2
import Derived.Test.YtlabpabnddfllaaPTablex3
import Derived.Test.YtlabpabnddfllaaPTablex4
import Derived.Test.YtlabpabnddfllaaPTablex5
import Derived.Test.YtlabpabnddfllaaPTablex6
import Derived.Test.YtlabpabnddfllaaPTablex7
import Derived.Test.YtlabpabnddfllaaPTablex8
namespace Go.Proofs.Ytlabpabnddfllaa.PTable
open Go.RowKit Go.Proofs.YtlabpabnddfllaaW.PrintWords Go.Proofs.YtlabpabnddfllaaW.PrintLast Go.Proofs.YtlabpabnddfllaaW.PrintMore
attribute [local go_sem] max2_int min2_int max_two min_two max_three min_three max_four min_four   -- for this text's walks alone
set_option linter.unusedVariables false
set_option linter.unusedSimpArgs false

attribute [local go_sem high] eqA43
/-! ### table_Of: function 43 -/
def table_Of.l0 : Nat → ByteArray → List (S43) → List (S43) → Int → Int → Option ((List (S43)))
  | 0, _, _, _, _, _ => none
  | k + 1, x1, x5, x9, x10, x11 => if x11 < x10 then (if 0 ≤ x11 then (if x11 < (x9.length : Int) then (if ((rd_T43 x9 x11).f3).toList = x1.toList then (if x5.length < 3518437208883 then (table_Of.l0 k x1 (x5 ++ [(⟨(rd_T43 x9 x11).f0, (rd_T43 x9 x11).f1, (rd_T43 x9 x11).f2, (rd_T43 x9 x11).f3⟩ : S43)]) x9 x10 (wrap64 (x11 + 1))) else (none)) else (table_Of.l0 k x1 x5 x9 x10 (wrap64 (x11 + 1)))) else (none)) else (none)) else (some x5)
def table_Of.f (k : Nat) (l0 : List (S43)) (a1 : ByteArray) : Option ((List (S43))) := (table_good.f k l0).bind fun t313 => (table_Of.l0 k a1 ([] : List (S43)) t313 (t313.length : Int) 0)
theorem table_Of.mono_l : ∀ k, (∀ y0 y1 y2 y3 y4, LeO (table_Of.l0 k y0 y1 y2 y3 y4) (table_Of.l0 (k + 1) y0 y1 y2 y3 y4))
  | 0 => fun _ _ _ _ _ r h => by simp [table_Of.l0] at h
  | k + 1 => by
    have ih0 := table_Of.mono_l k
    · intro y0 y1 y2 y3 y4
      unfold table_Of.l0
      repeat' first
      | (with_reducible exact ih0 _ _ _ _ _)
      | (with_reducible exact table_good.mono _ _)
      | (with_reducible exact LeO.refl _)
      | (with_reducible exact LeO.none _)
      | (with_reducible refine LeO.ite ?_ ?_)
      | (with_reducible refine LeO.bind ?_ (fun _ => ?_))
      | exact ih0 _ _ _ _ _
      | exact table_good.mono _ _
      | exact LeO.none _
      | refine LeO.ite ?_ ?_
      | refine LeO.bind ?_ (fun _ => ?_)
theorem table_Of.mono : ∀ a0 a1 k, LeO (table_Of.f k a0 a1) (table_Of.f (k + 1) a0 a1) := by
  intro a0 a1 k
  have ih0 := table_Of.mono_l k
  unfold table_Of.f
  repeat' first
      | (with_reducible exact ih0 _ _ _ _ _)
      | (with_reducible exact table_good.mono _ _)
      | (with_reducible exact LeO.refl _)
      | (with_reducible exact LeO.none _)
      | (with_reducible refine LeO.ite ?_ ?_)
      | (with_reducible refine LeO.bind ?_ (fun _ => ?_))
      | exact ih0 _ _ _ _ _
      | exact table_good.mono _ _
      | exact LeO.none _
      | refine LeO.ite ?_ ?_
      | refine LeO.bind ?_ (fun _ => ?_)
set_option maxHeartbeats 8000000 in
set_option maxRecDepth 100000 in
theorem table_Of.calls (k : Nat) (A0 : Option Addr) (c0 : Nat) (l0 : List (S43)) (a1 : ByteArray) (r : List (S43)) (w : World) (hr0 : Kd.C k43 w A0 l0.length l0) (hc0 : l0.length ≤ c0) (h : table_Of.f k l0 a1 = some r) :
    Calls Try.prog 43 #[.slice A0 l0.length c0, .string a1] w fun e w' => ∃ v0_ : Value, e = .returned (v0_) ∧ Kd.R k43 43 w' w.heap.size (fun _ => True) v0_ r ∧ Below w.heap.size w w' := by
  have hu43 := Try.underlying43
  have HR0 := Aside0.mk hr0
  have HC0 := Aside0.mk hc0
  clear hr0 hc0
  have HB := Aside0.mk (Below.refl w.heap.size w)
  have H : ((table_good.f k l0).bind fun t313 => (table_Of.l0 k a1 ([] : List (S43)) t313 (t313.length : Int) 0)) = some r := h
  clear h
  replace H := Option.bind_eq_some_iff.mp H
  obtain ⟨t313, A30, H⟩ := H
  replace H : (table_Of.l0 k a1 ([] : List (S43)) t313 (t313.length : Int) 0) = some r := H
  have A3 := Aside0.mk A30
  clear A30
  have H' := Aside0.mk H
  clear H
  go_enter Try.func43, Try.ntmps43
  go_wp2_with (first | ((with_reducible refine gate_callee (f := 57) rfl ?_); refine goesL_ (some 9) rfl rfl Try.func57 (by kernel_rfl) rfl #[.slice A0 l0.length c0] rfl (by (try simp only [List.map_toArray, List.map_cons, List.map_nil]); first | done | rfl | (simp only [List.length_drop, List.length_take]; rfl)) ?_; (with_reducible refine (table_good.calls k _ _ l0 t313 _ ?side1 ?side2 A3.out).mono ?_); (case side1 => repeat (first | exact HR0.out | (with_reducible refine Kd.C_alloc ?_ _) | (with_reducible refine Kd.C_drewN ?_ _) | (with_reducible refine Kd.C_drew ?_))); (case side2 => exact HC0.out); rintro e w4 ⟨v314, rfl, ho0, hb⟩; refine ⟨_, rfl, ?_⟩; have n0_ := Aside0.mk (Kd.R_lower ho0 (below_size (by repeat (first | (with_reducible first | exact HB.out | apply below_alloc | apply pw_below_drewN | apply below_drew1) | exact HB.out)))); have n1_ := Aside0.mk (below_step (by repeat (first | (with_reducible first | exact HB.out | apply below_alloc | apply pw_below_drewN | apply below_drew1) | exact HB.out)) hb); clear HB; have HO315 := n0_; have HB := n1_; clear n0_ n1_; (try clear hb); (try clear hb2); (try clear hk); (try clear hi); (try clear ho0); obtain ⟨Ao5, co5, eo5⟩ := Kd.R_slice HO315.out; subst eo5))
  go_loopg [5, 11] k (fun kq v5 v11 w' => ∃ (x5_1 : List (S43)) (x11_1 : Int), v11 = .int .i64 x11_1 ∧ Aside0 (table_Of.l0 kq a1 x5_1 t313 (t313.length : Int) x11_1 = some r) ∧ Aside0 (kq ≤ k) ∧ Aside0 (Kd.R k43 43 w' w.heap.size (fun k_ => some k_ ≠ ((.slice Ao5 t313.length co5) : Value).ownBlock) v5 x5_1) ∧ Aside0 (Kd.R k43 43 w' w.heap.size (fun k_ => some k_ ≠ (v5 : Value).ownBlock) (.slice Ao5 t313.length co5) t313) ∧ Aside0 (Below w.heap.size w w'))
  case atStart => exact ⟨(([] : List (S43))), (0), (by first | rfl | (simp; done) | (simp [*]; done)), H', ⟨Nat.le_refl _⟩, ⟨by first | exact Kd.R_nil _ _ _ _ _ | exact Kd.N_nil _ _ _ _ _ | exact Kd.V_nil _ _ _ _ _ | exact Kd.Q_nil _ _ _ _ _ | exact Kd.S_nil _ _ _ _ _⟩, ⟨by (with_reducible repeat (first | apply Kd.R_alloc | apply Kd.R_drewN | apply Kd.R_drew)); exact Kd.R_mono HO315.out (fun _ hk => (by simp [Value.ownBlock]))⟩, ⟨by repeat (first | (with_reducible first | exact HB.out | apply below_alloc | apply pw_below_drewN | apply below_drew1) | exact HB.out)⟩⟩
  case round =>
    clear H'
    try clear p2
    try clear c4
    try clear c5
    obtain ⟨x5_1, x11_1, rfl, HA, HK1, HO_5, HO_9, HB⟩ := hrel
    cases gk with
    | zero => exact absurd HA.out (by simp [table_Of.l0])
    | succ k1 =>
      have H := HA.out
      clear HA
      simp only [table_Of.l0] at H
      by_cases c6 : x11_1 < (t313.length : Int)
      · rw [if_pos c6] at H
        have c6b0 : decide (x11_1 < (t313.length : Int)) = true := decide_eq_true c6
        clear c6
        by_cases c7 : 0 ≤ x11_1
        · rw [if_pos c7] at H
          have c7b0 : decide (0 ≤ x11_1) = true := decide_eq_true c7
          clear c7
          by_cases c8 : x11_1 < (t313.length : Int)
          · rw [if_pos c8] at H
            have c8b0 : decide (x11_1 < (t313.length : Int)) = true := decide_eq_true c8
            clear c8
            by_cases c9 : ((rd_T43 t313 x11_1).f3).toList = a1.toList
            · rw [if_pos c9] at H
              have c9b0 : (((rd_T43 t313 x11_1).f3).toList == a1.toList) = true := beq_iff_eq.mpr c9
              have c9b1 : (((rd_T43 t313 x11_1).f3).toList != a1.toList) = false := bne_eq_false_iff_eq.mpr c9
              clear c9
              by_cases c10 : x5_1.length < 3518437208883
              · rw [if_pos c10] at H
                have LMc10 := Aside0.mk c10
                clear c10
                obtain ⟨y318, hy318⟩ : ∃ y_ : List (S43), y_ = (x5_1 ++ [(⟨(rd_T43 t313 x11_1).f0, (rd_T43 t313 x11_1).f1, (rd_T43 t313 x11_1).f2, (rd_T43 t313 x11_1).f3⟩ : S43)]) := ⟨_, rfl⟩
                replace H : (table_Of.l0 k1 a1 y318 t313 (t313.length : Int) (wrap64 (x11_1 + 1))) = some r := by first | (rw [hy318]; with_reducible exact H) | (have H2_ := (Option.bind_some _ _).symm.trans H; rw [hy318]; with_reducible exact H2_) | (have H2_ := (Option.bind_some _ _).symm.trans H; with_reducible exact H2_) | with_reducible exact H | (rw [hy318]; exact H) | exact H
                have Ny318 := Aside0.mk hy318
                clear hy318
                have H' := Aside0.mk H
                clear H
                have p316 : 0 ≤ (x11_1 : Int) := of_decide_eq_true (by first | (with_reducible assumption) | assumption)
                have q316 : x11_1 < (t313.length : Int) := of_decide_eq_true (by first | (with_reducible assumption) | assumption)
                obtain ⟨ad316, e316, hx316_0, hx316_1, hx316_2, hx316_3⟩ := at_T43 (Kd.R_reads' HO_9.out).2.2 x11_1 p316 q316
                cases e316
                replace p316 := eq_true p316
                replace q316 := eq_true q316
                go_wp2_with (first | ((with_reducible refine gate_dst (N := 7) rfl ?_); refine box_event ?hg (N := 7) ?hd (cs := #[.int .i64 0, .int .i64 0, .int .i64 0, .string (⟨#[]⟩ : ByteArray)]) (t := 43) ?hr ?_; (case hd => rfl); (case hg => rfl); (case hr => first | (go_simp; done) | (go_simp; rfl)); intro gb317 hg w11 hbox hb; have n0_ := Aside0.mk (Kd.R_below (Kd.R_elderB (by (with_reducible repeat (first | apply Kd.R_alloc | apply Kd.R_drewN | apply Kd.R_drew)); exact HO_5.out) gb317 (Nat.le_of_eq hg.symm)) hb); have n1_ := Aside0.mk (Kd.R_below (Kd.R_elderB (by (with_reducible repeat (first | apply Kd.R_alloc | apply Kd.R_drewN | apply Kd.R_drew)); exact HO_9.out) gb317 (Nat.le_of_eq hg.symm)) hb); have n2_ := Aside0.mk (below_step (by repeat (first | (with_reducible first | exact HB.out | apply below_alloc | apply pw_below_drewN | apply below_drew1) | exact HB.out)) hb); have n3_ := Aside0.mk (hbox); have n4_ := Aside0.mk ((by rw [hg]; exact (below_size (by repeat (first | (with_reducible first | exact HB.out | apply below_alloc | apply pw_below_drewN | apply below_drew1) | exact HB.out))) : w.heap.size ≤ gb317)); have n5_ := Aside0.mk ((by rw [hg]; exact (below_size (by repeat (first | (with_reducible first | exact HB.out | apply below_alloc | apply pw_below_drewN | apply below_drew1) | exact HB.out))) : w.heap.size ≤ gb317)); clear HO_5; clear HO_9; clear HB; have HO_5 := n0_; have HO_9 := n1_; have HB := n2_; have BK317 := n3_; have GW317 := n4_; have GE317 := n5_; clear n0_ n1_ n2_ n3_ n4_ n5_; clear hb hbox hg; have hcz12_0 : w11.cell? ⟨gb317, 0, none⟩ = some (.int .i64 0) := (blk_cell BK317.out 0).trans rfl; have hcz12_1 : w11.cell? ⟨gb317, 1, none⟩ = some (.int .i64 0) := (blk_cell BK317.out 1).trans rfl; have hcz12_2 : w11.cell? ⟨gb317, 2, none⟩ = some (.int .i64 0) := (blk_cell BK317.out 2).trans rfl; have hcz12_3 : w11.cell? ⟨gb317, 3, none⟩ = some (.string (⟨#[]⟩ : ByteArray)) := (blk_cell BK317.out 3).trans rfl; have hfz12_0 := blk_frozen BK317.out 0; have hfz12_1 := blk_frozen BK317.out 1; have hfz12_2 := blk_frozen BK317.out 2; have hfz12_3 := blk_frozen BK317.out 3) | ((with_reducible refine gate_builtin (b := .append) (xs := #[.tmp 19, .tmp 21]) rfl ?_); at_builtin; refine Kd.R_append k43 (w0 := w) w.heap.size rfl (.tmp 19) (.tmp 21) 41 43 (.agg #[(.int .i64 0), (.int .i64 0), (.int .i64 0), (.string ⟨#[]⟩)]) 40 rfl Try.underlying41 info43 rfl (by decide) (by omega) u5 x5_1 (⟨(rd_T43 t313 x11_1).f0, (rd_T43 t313 x11_1).f1, (rd_T43 t313 x11_1).f2, (rd_T43 t313 x11_1).f3⟩ : S43) [.int .i64 ((rd_T43 t313 x11_1).f0), .int .i64 ((rd_T43 t313 x11_1).f1), .int .i64 ((rd_T43 t313 x11_1).f2), .string ((rd_T43 t313 x11_1).f3)] (fun k_ => some k_ ≠ (.slice (some ad316) t313.length co5 : Value).ownBlock ∧ k_ ≠ gb317) (fun _ => False) rfl (by first | (go_simp; done) | (go_simp; rfl)) ?aP (fun _ hk => hk.elim) ?aF ?aO ?aB ?aS ?aL ?_; (case aP => exact k43_mkM _ _ _ (⟨(rd_T43 t313 x11_1).f0, (rd_T43 t313 x11_1).f1, (rd_T43 t313 x11_1).f2, (rd_T43 t313 x11_1).f3⟩ : S43)); (case aB => exact (by repeat (first | (with_reducible first | exact HB.out | apply below_alloc | apply pw_below_drewN | apply below_drew1 | refine below_set ?_ GE317.out) | exact HB.out))); (case aF => exact (fun k_ hk => ⟨Kd.fresh' (Kd.R_lt (by (with_reducible repeat (first | apply Kd.R_alloc | apply Kd.R_drewN | apply Kd.R_drew)); exact (Kd.R_mono (Kd.R_far (p := ⟨gb317, 3, none⟩) (Kd.R_far (p := ⟨gb317, 2, none⟩) (Kd.R_far (p := ⟨gb317, 1, none⟩) (Kd.R_far (p := ⟨gb317, 0, none⟩) (Kd.R_mono HO_9.out (fun k_ hk => (⟨hk, hk.2⟩ : _ ∧ k_ ≠ gb317))) (fun _ hk => hk.2) (.int .i64 ((rd_T43 t313 x11_1).f0))) (fun _ hk => hk.2) (.int .i64 ((rd_T43 t313 x11_1).f1))) (fun _ hk => hk.2) (.int .i64 ((rd_T43 t313 x11_1).f2))) (fun _ hk => hk.2) (.string ((rd_T43 t313 x11_1).f3))) (fun _ h_ => h_.1)))) k_ hk, Kd.freshB (g := gb317) (o := .cells #[.int .i64 ((rd_T43 t313 x11_1).f0), .int .i64 ((rd_T43 t313 x11_1).f1), .int .i64 ((rd_T43 t313 x11_1).f2), .string ((rd_T43 t313 x11_1).f3)] 43 (0, 0)) (by (with_reducible repeat (first | refine blk_drewN ?_ _ | refine blk_drew ?_ | refine blk_alloc ?_ _)); refine blk_put (cs := #[.int .i64 ((rd_T43 t313 x11_1).f0), .int .i64 ((rd_T43 t313 x11_1).f1), .int .i64 ((rd_T43 t313 x11_1).f2), .string (⟨#[]⟩ : ByteArray)]) ?_ 3 _ rfl; (with_reducible repeat (first | refine blk_drewN ?_ _ | refine blk_drew ?_ | refine blk_alloc ?_ _)); refine blk_put (cs := #[.int .i64 ((rd_T43 t313 x11_1).f0), .int .i64 ((rd_T43 t313 x11_1).f1), .int .i64 0, .string (⟨#[]⟩ : ByteArray)]) ?_ 2 _ rfl; (with_reducible repeat (first | refine blk_drewN ?_ _ | refine blk_drew ?_ | refine blk_alloc ?_ _)); refine blk_put (cs := #[.int .i64 ((rd_T43 t313 x11_1).f0), .int .i64 0, .int .i64 0, .string (⟨#[]⟩ : ByteArray)]) ?_ 1 _ rfl; (with_reducible repeat (first | refine blk_drewN ?_ _ | refine blk_drew ?_ | refine blk_alloc ?_ _)); refine blk_put (cs := #[.int .i64 0, .int .i64 0, .int .i64 0, .string (⟨#[]⟩ : ByteArray)]) ?_ 0 _ rfl; (with_reducible repeat (first | refine blk_drewN ?_ _ | refine blk_drew ?_ | refine blk_alloc ?_ _)); exact BK317.out) k_ hk⟩)); (case aO => exact (by (with_reducible repeat (first | apply Kd.R_alloc | apply Kd.R_drewN | apply Kd.R_drew)); exact Kd.R_mono (Kd.R_far (p := ⟨gb317, 3, none⟩) (Kd.R_far (p := ⟨gb317, 2, none⟩) (Kd.R_far (p := ⟨gb317, 1, none⟩) (Kd.R_far (p := ⟨gb317, 0, none⟩) (Kd.R_mono HO_5.out (fun k_ hk => (⟨hk, hk.2⟩ : _ ∧ k_ ≠ gb317))) (fun _ hk => hk.2) (.int .i64 ((rd_T43 t313 x11_1).f0))) (fun _ hk => hk.2) (.int .i64 ((rd_T43 t313 x11_1).f1))) (fun _ hk => hk.2) (.int .i64 ((rd_T43 t313 x11_1).f2))) (fun _ hk => hk.2) (.string ((rd_T43 t313 x11_1).f3))) (fun _ hk => ⟨hk.1.1, hk.1.2⟩))); (case aS => exact (below_size (by repeat (first | (with_reducible first | exact HB.out | apply below_alloc | apply pw_below_drewN | apply below_drew1 | refine below_set ?_ GE317.out) | exact HB.out)))); (case aL => have := LMc10.out; omega); intro v319 w13 ho hb hg hat; rw [← Ny318.out] at ho; have n0_ := Aside0.mk (Kd.R_after (ok := (fun k_ => k_ ≠ gb317)) (by (with_reducible repeat (first | apply Kd.R_alloc | apply Kd.R_drewN | apply Kd.R_drew)); exact Kd.R_mono (Kd.R_far (p := ⟨gb317, 3, none⟩) (Kd.R_far (p := ⟨gb317, 2, none⟩) (Kd.R_far (p := ⟨gb317, 1, none⟩) (Kd.R_far (p := ⟨gb317, 0, none⟩) (Kd.R_mono HO_9.out (fun k_ hk => (⟨hk, hk.2⟩ : _ ∧ k_ ≠ gb317))) (fun _ hk => hk.2) (.int .i64 ((rd_T43 t313 x11_1).f0))) (fun _ hk => hk.2) (.int .i64 ((rd_T43 t313 x11_1).f1))) (fun _ hk => hk.2) (.int .i64 ((rd_T43 t313 x11_1).f2))) (fun _ hk => hk.2) (.string ((rd_T43 t313 x11_1).f3))) (fun _ hk => ⟨hk.1.2, hk.1.1⟩)) hg hat); have n1_ := Aside0.mk (blk_grown (g := gb317) (o := .cells #[.int .i64 ((rd_T43 t313 x11_1).f0), .int .i64 ((rd_T43 t313 x11_1).f1), .int .i64 ((rd_T43 t313 x11_1).f2), .string ((rd_T43 t313 x11_1).f3)] 43 (0, 0)) (by (with_reducible repeat (first | refine blk_drewN ?_ _ | refine blk_drew ?_ | refine blk_alloc ?_ _)); refine blk_put (cs := #[.int .i64 ((rd_T43 t313 x11_1).f0), .int .i64 ((rd_T43 t313 x11_1).f1), .int .i64 ((rd_T43 t313 x11_1).f2), .string (⟨#[]⟩ : ByteArray)]) ?_ 3 _ rfl; (with_reducible repeat (first | refine blk_drewN ?_ _ | refine blk_drew ?_ | refine blk_alloc ?_ _)); refine blk_put (cs := #[.int .i64 ((rd_T43 t313 x11_1).f0), .int .i64 ((rd_T43 t313 x11_1).f1), .int .i64 0, .string (⟨#[]⟩ : ByteArray)]) ?_ 2 _ rfl; (with_reducible repeat (first | refine blk_drewN ?_ _ | refine blk_drew ?_ | refine blk_alloc ?_ _)); refine blk_put (cs := #[.int .i64 ((rd_T43 t313 x11_1).f0), .int .i64 0, .int .i64 0, .string (⟨#[]⟩ : ByteArray)]) ?_ 1 _ rfl; (with_reducible repeat (first | refine blk_drewN ?_ _ | refine blk_drew ?_ | refine blk_alloc ?_ _)); refine blk_put (cs := #[.int .i64 0, .int .i64 0, .int .i64 0, .string (⟨#[]⟩ : ByteArray)]) ?_ 0 _ rfl; (with_reducible repeat (first | refine blk_drewN ?_ _ | refine blk_drew ?_ | refine blk_alloc ?_ _)); exact BK317.out) hg (Kd.R_away HO_5.out (fun _ hk => hk.2))); have n2_ := Aside0.mk (hb); have n3_ := Aside0.mk (ho); clear HO_9; clear BK317; clear HB; clear HO_5; have HO_9 := n0_; have BK317 := n1_; have HB := n2_; have HO320 := n3_; clear n0_ n1_ n2_ n3_; clear ho hb hg hat))
                go_roundg k1
                case measure => have := HK1.out; omega
                case rel => exact ⟨(y318), (wrap64 (x11_1 + 1)), (by first | rfl | (simp; done) | (simp [*]; done)), H', ⟨by have := HK1.out; omega⟩, ⟨by (with_reducible repeat (first | apply Kd.R_alloc | apply Kd.R_drewN | apply Kd.R_drew)); exact Kd.R_mono HO320.out (fun _ hk => hk.1)⟩, ⟨by (with_reducible repeat (first | apply Kd.R_alloc | apply Kd.R_drewN | apply Kd.R_drew)); exact Kd.R_mono HO_9.out (fun _ hk => hk.2)⟩, ⟨by repeat (first | (with_reducible first | exact HB.out | apply below_alloc | apply pw_below_drewN | apply below_drew1 | refine below_set ?_ GE317.out) | exact HB.out)⟩⟩
              · rw [if_neg c10] at H
                exact absurd H (by simp)
            · rw [if_neg c9] at H
              have c9b0 : (((rd_T43 t313 x11_1).f3).toList == a1.toList) = false := beq_eq_false_iff_ne.mpr c9
              have c9b1 : (((rd_T43 t313 x11_1).f3).toList != a1.toList) = true := bne_iff_ne.mpr c9
              have H' := Aside0.mk H
              clear H
              have p316 : 0 ≤ (x11_1 : Int) := of_decide_eq_true (by first | (with_reducible assumption) | assumption)
              have q316 : x11_1 < (t313.length : Int) := of_decide_eq_true (by first | (with_reducible assumption) | assumption)
              obtain ⟨ad316, e316, hx316_0, hx316_1, hx316_2, hx316_3⟩ := at_T43 (Kd.R_reads' HO_9.out).2.2 x11_1 p316 q316
              cases e316
              replace p316 := eq_true p316
              replace q316 := eq_true q316
              go_wp2_with (first | ((with_reducible refine gate_dst (N := 7) rfl ?_); refine box_event ?hg (N := 7) ?hd (cs := #[.int .i64 0, .int .i64 0, .int .i64 0, .string (⟨#[]⟩ : ByteArray)]) (t := 43) ?hr ?_; (case hd => rfl); (case hg => rfl); (case hr => first | (go_simp; done) | (go_simp; rfl)); intro gb317 hg w14 hbox hb; have n0_ := Aside0.mk (Kd.R_below (Kd.R_elderB (by (with_reducible repeat (first | apply Kd.R_alloc | apply Kd.R_drewN | apply Kd.R_drew)); exact HO_5.out) gb317 (Nat.le_of_eq hg.symm)) hb); have n1_ := Aside0.mk (Kd.R_below (Kd.R_elderB (by (with_reducible repeat (first | apply Kd.R_alloc | apply Kd.R_drewN | apply Kd.R_drew)); exact HO_9.out) gb317 (Nat.le_of_eq hg.symm)) hb); have n2_ := Aside0.mk (below_step (by repeat (first | (with_reducible first | exact HB.out | apply below_alloc | apply pw_below_drewN | apply below_drew1) | exact HB.out)) hb); have n3_ := Aside0.mk (hbox); have n4_ := Aside0.mk ((by rw [hg]; exact (below_size (by repeat (first | (with_reducible first | exact HB.out | apply below_alloc | apply pw_below_drewN | apply below_drew1) | exact HB.out))) : w.heap.size ≤ gb317)); have n5_ := Aside0.mk ((by rw [hg]; exact (below_size (by repeat (first | (with_reducible first | exact HB.out | apply below_alloc | apply pw_below_drewN | apply below_drew1) | exact HB.out))) : w.heap.size ≤ gb317)); clear HO_5; clear HO_9; clear HB; have HO_5 := n0_; have HO_9 := n1_; have HB := n2_; have BK317 := n3_; have GW317 := n4_; have GE317 := n5_; clear n0_ n1_ n2_ n3_ n4_ n5_; clear hb hbox hg; have hcz15_0 : w14.cell? ⟨gb317, 0, none⟩ = some (.int .i64 0) := (blk_cell BK317.out 0).trans rfl; have hcz15_1 : w14.cell? ⟨gb317, 1, none⟩ = some (.int .i64 0) := (blk_cell BK317.out 1).trans rfl; have hcz15_2 : w14.cell? ⟨gb317, 2, none⟩ = some (.int .i64 0) := (blk_cell BK317.out 2).trans rfl; have hcz15_3 : w14.cell? ⟨gb317, 3, none⟩ = some (.string (⟨#[]⟩ : ByteArray)) := (blk_cell BK317.out 3).trans rfl; have hfz15_0 := blk_frozen BK317.out 0; have hfz15_1 := blk_frozen BK317.out 1; have hfz15_2 := blk_frozen BK317.out 2; have hfz15_3 := blk_frozen BK317.out 3))
              go_roundg k1
              case measure => have := HK1.out; omega
              case rel => exact ⟨(x5_1), (wrap64 (x11_1 + 1)), (by first | rfl | (simp; done) | (simp [*]; done)), H', ⟨by have := HK1.out; omega⟩, ⟨by (with_reducible repeat (first | apply Kd.R_alloc | apply Kd.R_drewN | apply Kd.R_drew)); exact Kd.R_mono (Kd.R_far (p := ⟨gb317, 3, none⟩) (Kd.R_far (p := ⟨gb317, 2, none⟩) (Kd.R_far (p := ⟨gb317, 1, none⟩) (Kd.R_far (p := ⟨gb317, 0, none⟩) (Kd.R_mono HO_5.out (fun k_ hk => (⟨hk, hk.2⟩ : _ ∧ k_ ≠ gb317))) (fun _ hk => hk.2) (.int .i64 ((rd_T43 t313 x11_1).f0))) (fun _ hk => hk.2) (.int .i64 ((rd_T43 t313 x11_1).f1))) (fun _ hk => hk.2) (.int .i64 ((rd_T43 t313 x11_1).f2))) (fun _ hk => hk.2) (.string ((rd_T43 t313 x11_1).f3))) (fun _ hk => hk.1.1)⟩, ⟨by (with_reducible repeat (first | apply Kd.R_alloc | apply Kd.R_drewN | apply Kd.R_drew)); exact Kd.R_mono (Kd.R_far (p := ⟨gb317, 3, none⟩) (Kd.R_far (p := ⟨gb317, 2, none⟩) (Kd.R_far (p := ⟨gb317, 1, none⟩) (Kd.R_far (p := ⟨gb317, 0, none⟩) (Kd.R_mono HO_9.out (fun k_ hk => (⟨hk, hk.2⟩ : _ ∧ k_ ≠ gb317))) (fun _ hk => hk.2) (.int .i64 ((rd_T43 t313 x11_1).f0))) (fun _ hk => hk.2) (.int .i64 ((rd_T43 t313 x11_1).f1))) (fun _ hk => hk.2) (.int .i64 ((rd_T43 t313 x11_1).f2))) (fun _ hk => hk.2) (.string ((rd_T43 t313 x11_1).f3))) (fun _ hk => hk.1.1)⟩, ⟨by repeat (first | (with_reducible first | exact HB.out | apply below_alloc | apply pw_below_drewN | apply below_drew1 | refine below_set ?_ GE317.out) | exact HB.out)⟩⟩
          · rw [if_neg c8] at H
            exact absurd H (by simp)
        · rw [if_neg c7] at H
          exact absurd H (by simp)
      · rw [if_neg c6] at H
        have c6b0 : decide (x11_1 < (t313.length : Int)) = false := decide_eq_false c6
        clear c6
        obtain rfl := Option.some.inj H
        go_wp2
        go_ret
        exact ⟨_, by first | rfl | (simp [errW_none, errW_some] <;> rfl) | (simp [*, errW_none, errW_some] <;> rfl), by (with_reducible repeat (first | apply Kd.R_alloc | apply Kd.R_drewN | apply Kd.R_drew)); exact Kd.R_mono HO_5.out (fun _ hk => trivial), by repeat (first | (with_reducible first | exact HB.out | apply below_alloc | apply pw_below_drewN | apply below_drew1) | exact HB.out)⟩

/-! ### boarderref12_Of: function 44 -/
def boarderref12_Of.l0 : Nat → List (S43) → ByteArray → List (S43) → Int → Option ((List (S43)))
  | 0, _, _, _, _ => none
  | k + 1, x0, x1, x5, x6 => if x6 < (x0.length : Int) then (if 0 ≤ x6 then (if ((rd_T43 x0 x6).f3).toList = x1.toList then (if x5.length < 3518437208883 then (boarderref12_Of.l0 k x0 x1 (x5 ++ [(⟨(rd_T43 x0 x6).f0, (rd_T43 x0 x6).f1, (rd_T43 x0 x6).f2, (rd_T43 x0 x6).f3⟩ : S43)]) (wrap64 (x6 + 1))) else (none)) else (boarderref12_Of.l0 k x0 x1 x5 (wrap64 (x6 + 1)))) else (none)) else (some x5)
def boarderref12_Of.f (k : Nat) (l0 : List (S43)) (a1 : ByteArray) : Option ((List (S43))) := (boarderref12_Good.f k l0).bind fun t322 => (boarderref12_Of.l0 k t322 a1 ([] : List (S43)) 0)
theorem boarderref12_Of.mono_l : ∀ k, (∀ y0 y1 y2 y3, LeO (boarderref12_Of.l0 k y0 y1 y2 y3) (boarderref12_Of.l0 (k + 1) y0 y1 y2 y3))
  | 0 => fun _ _ _ _ r h => by simp [boarderref12_Of.l0] at h
  | k + 1 => by
    have ih0 := boarderref12_Of.mono_l k
    · intro y0 y1 y2 y3
      unfold boarderref12_Of.l0
      repeat' first
      | (with_reducible exact ih0 _ _ _ _)
      | (with_reducible exact boarderref12_Good.mono _ _)
      | (with_reducible exact LeO.refl _)
      | (with_reducible exact LeO.none _)
      | (with_reducible refine LeO.ite ?_ ?_)
      | (with_reducible refine LeO.bind ?_ (fun _ => ?_))
      | exact ih0 _ _ _ _
      | exact boarderref12_Good.mono _ _
      | exact LeO.none _
      | refine LeO.ite ?_ ?_
      | refine LeO.bind ?_ (fun _ => ?_)
theorem boarderref12_Of.mono : ∀ a0 a1 k, LeO (boarderref12_Of.f k a0 a1) (boarderref12_Of.f (k + 1) a0 a1) := by
  intro a0 a1 k
  have ih0 := boarderref12_Of.mono_l k
  unfold boarderref12_Of.f
  repeat' first
      | (with_reducible exact ih0 _ _ _ _)
      | (with_reducible exact boarderref12_Good.mono _ _)
      | (with_reducible exact LeO.refl _)
      | (with_reducible exact LeO.none _)
      | (with_reducible refine LeO.ite ?_ ?_)
      | (with_reducible refine LeO.bind ?_ (fun _ => ?_))
      | exact ih0 _ _ _ _
      | exact boarderref12_Good.mono _ _
      | exact LeO.none _
      | refine LeO.ite ?_ ?_
      | refine LeO.bind ?_ (fun _ => ?_)
set_option maxHeartbeats 8000000 in
set_option maxRecDepth 100000 in
theorem boarderref12_Of.calls (k : Nat) (A0 : Option Addr) (c0 : Nat) (l0 : List (S43)) (a1 : ByteArray) (r : List (S43)) (w : World) (hr0 : Kd.C k43 w A0 l0.length l0) (hc0 : l0.length ≤ c0) (h : boarderref12_Of.f k l0 a1 = some r) :
    Calls Try.prog 44 #[.slice A0 l0.length c0, .string a1] w fun e w' => ∃ v0_ : Value, e = .returned (v0_) ∧ Kd.R k43 43 w' w.heap.size (fun _ => True) v0_ r ∧ Below w.heap.size w w' := by
  have hu43 := Try.underlying43
  have HR0 := Aside0.mk hr0
  have HC0 := Aside0.mk hc0
  clear hr0 hc0
  have HB := Aside0.mk (Below.refl w.heap.size w)
  have H : ((boarderref12_Good.f k l0).bind fun t322 => (boarderref12_Of.l0 k t322 a1 ([] : List (S43)) 0)) = some r := h
  clear h
  replace H := Option.bind_eq_some_iff.mp H
  obtain ⟨t322, A30, H⟩ := H
  replace H : (boarderref12_Of.l0 k t322 a1 ([] : List (S43)) 0) = some r := H
  have A3 := Aside0.mk A30
  clear A30
  have H' := Aside0.mk H
  clear H
  go_enter Try.func44, Try.ntmps44
  go_wp2_with (first | ((with_reducible refine gate_callee (f := 60) rfl ?_); refine goesL_ (some 8) rfl rfl Try.func60 (by kernel_rfl) rfl #[.slice A0 l0.length c0] rfl (by (try simp only [List.map_toArray, List.map_cons, List.map_nil]); first | done | rfl | (simp only [List.length_drop, List.length_take]; rfl)) ?_; (with_reducible refine (boarderref12_Good.calls k _ _ l0 t322 _ ?side1 ?side2 A3.out).mono ?_); (case side1 => repeat (first | exact HR0.out | (with_reducible refine Kd.C_alloc ?_ _) | (with_reducible refine Kd.C_drewN ?_ _) | (with_reducible refine Kd.C_drew ?_))); (case side2 => exact HC0.out); rintro e w4 ⟨An321, cn321, rfl, hri_, hci_, hb⟩; refine ⟨_, rfl, ?_⟩; have HRn321 := Aside0.mk (hri_ _ HR0.out); have HCn321 := Aside0.mk hci_; clear hri_ hci_; have n0_ := Aside0.mk (below_step (by repeat (first | (with_reducible first | exact HB.out | apply below_alloc | apply pw_below_drewN | apply below_drew1) | exact HB.out)) hb); clear HB; have HB := n0_; clear n0_; (try clear hb); (try clear hb2); (try clear hk); (try clear hi)))
  go_loopg [5, 6] k (fun kq v5 v6 w' => ∃ (x5_1 : List (S43)) (x6_1 : Int), v6 = .int .i64 x6_1 ∧ Aside0 (boarderref12_Of.l0 kq t322 a1 x5_1 x6_1 = some r) ∧ Aside0 (kq ≤ k) ∧ Aside0 (Kd.R k43 43 w' w.heap.size (fun _ => True) v5 x5_1) ∧ Aside0 (Below w.heap.size w w'))
  case atStart => exact ⟨(([] : List (S43))), (0), (by first | rfl | (simp; done) | (simp [*]; done)), H', ⟨Nat.le_refl _⟩, ⟨by first | exact Kd.R_nil _ _ _ _ _ | exact Kd.N_nil _ _ _ _ _ | exact Kd.V_nil _ _ _ _ _ | exact Kd.Q_nil _ _ _ _ _ | exact Kd.S_nil _ _ _ _ _⟩, ⟨by repeat (first | (with_reducible first | exact HB.out | apply below_alloc | apply pw_below_drewN | apply below_drew1) | exact HB.out)⟩⟩
  case round =>
    clear H'
    try clear p2
    try clear c4
    obtain ⟨x5_1, x6_1, rfl, HA, HK1, HO_5, HB⟩ := hrel
    cases gk with
    | zero => exact absurd HA.out (by simp [boarderref12_Of.l0])
    | succ k1 =>
      have H := HA.out
      clear HA
      simp only [boarderref12_Of.l0] at H
      by_cases c5 : x6_1 < (t322.length : Int)
      · rw [if_pos c5] at H
        have c5b0 : decide (x6_1 < (t322.length : Int)) = true := decide_eq_true c5
        clear c5
        by_cases c6 : 0 ≤ x6_1
        · rw [if_pos c6] at H
          have c6b0 : decide (0 ≤ x6_1) = true := decide_eq_true c6
          clear c6
          by_cases c7 : ((rd_T43 t322 x6_1).f3).toList = a1.toList
          · rw [if_pos c7] at H
            have c7b0 : (((rd_T43 t322 x6_1).f3).toList == a1.toList) = true := beq_iff_eq.mpr c7
            have c7b1 : (((rd_T43 t322 x6_1).f3).toList != a1.toList) = false := bne_eq_false_iff_eq.mpr c7
            clear c7
            by_cases c8 : x5_1.length < 3518437208883
            · rw [if_pos c8] at H
              have LMc8 := Aside0.mk c8
              clear c8
              obtain ⟨y325, hy325⟩ : ∃ y_ : List (S43), y_ = (x5_1 ++ [(⟨(rd_T43 t322 x6_1).f0, (rd_T43 t322 x6_1).f1, (rd_T43 t322 x6_1).f2, (rd_T43 t322 x6_1).f3⟩ : S43)]) := ⟨_, rfl⟩
              replace H : (boarderref12_Of.l0 k1 t322 a1 y325 (wrap64 (x6_1 + 1))) = some r := by first | (rw [hy325]; with_reducible exact H) | (have H2_ := (Option.bind_some _ _).symm.trans H; rw [hy325]; with_reducible exact H2_) | (have H2_ := (Option.bind_some _ _).symm.trans H; with_reducible exact H2_) | with_reducible exact H | (rw [hy325]; exact H) | exact H
              have Ny325 := Aside0.mk hy325
              clear hy325
              have H' := Aside0.mk H
              clear H
              have p323 : 0 ≤ (x6_1 : Int) := of_decide_eq_true (by first | (with_reducible assumption) | assumption)
              have q323 : x6_1 < (t322.length : Int) := of_decide_eq_true (by first | (with_reducible assumption) | assumption)
              obtain ⟨ad323, e323, hx323_0, hx323_1, hx323_2, hx323_3⟩ := at_T43 HRn321.out x6_1 p323 q323
              cases e323
              replace hx323_0 := (HB.out.cell (World.block_lt_of_cell? w _ hx323_0)).trans hx323_0
              replace hx323_1 := (HB.out.cell (World.block_lt_of_cell? w _ hx323_1)).trans hx323_1
              replace hx323_2 := (HB.out.cell (World.block_lt_of_cell? w _ hx323_2)).trans hx323_2
              replace hx323_3 := (HB.out.cell (World.block_lt_of_cell? w _ hx323_3)).trans hx323_3
              replace p323 := eq_true p323
              replace q323 := eq_true q323
              have p324 : 0 ≤ (x6_1 : Int) := of_decide_eq_true (by first | (with_reducible assumption) | assumption)
              have q324 : x6_1 < (t322.length : Int) := of_decide_eq_true (by first | (with_reducible assumption) | assumption)
              obtain ⟨ad324, e324, hx324_0, hx324_1, hx324_2, hx324_3⟩ := at_T43 HRn321.out x6_1 p324 q324
              obtain rfl : ad323 = ad324 := (by injection e324)
              replace hx324_0 := (HB.out.cell (World.block_lt_of_cell? w _ hx324_0)).trans hx324_0
              replace hx324_1 := (HB.out.cell (World.block_lt_of_cell? w _ hx324_1)).trans hx324_1
              replace hx324_2 := (HB.out.cell (World.block_lt_of_cell? w _ hx324_2)).trans hx324_2
              replace hx324_3 := (HB.out.cell (World.block_lt_of_cell? w _ hx324_3)).trans hx324_3
              replace p324 := eq_true p324
              replace q324 := eq_true q324
              go_wp2_with (first | ((with_reducible refine gate_builtin (b := .append) (xs := #[.tmp 22, .tmp 27]) rfl ?_); at_builtin; refine Kd.R_append k43 (w0 := w) w.heap.size rfl (.tmp 22) (.tmp 27) 41 43 (.agg #[(.int .i64 0), (.int .i64 0), (.int .i64 0), (.string ⟨#[]⟩)]) 40 rfl Try.underlying41 info43 rfl (by decide) (by omega) u5 x5_1 (⟨(rd_T43 t322 x6_1).f0, (rd_T43 t322 x6_1).f1, (rd_T43 t322 x6_1).f2, (rd_T43 t322 x6_1).f3⟩ : S43) [.int .i64 ((rd_T43 t322 x6_1).f0), .int .i64 ((rd_T43 t322 x6_1).f1), .int .i64 ((rd_T43 t322 x6_1).f2), .string ((rd_T43 t322 x6_1).f3)] (fun _ => True) (fun _ => False) rfl rfl ?aP (fun _ hk => hk.elim) ?aF ?aO ?aB ?aS ?aL ?_; (case aP => exact k43_mkM _ _ _ (⟨(rd_T43 t322 x6_1).f0, (rd_T43 t322 x6_1).f1, (rd_T43 t322 x6_1).f2, (rd_T43 t322 x6_1).f3⟩ : S43)); (case aB => exact (by repeat (first | (with_reducible first | exact HB.out | apply below_alloc | apply pw_below_drewN | apply below_drew1) | exact HB.out))); (case aF => exact (fun _ _ => trivial)); (case aO => exact (by (with_reducible repeat (first | apply Kd.R_alloc | apply Kd.R_drewN | apply Kd.R_drew)); exact HO_5.out)); (case aS => exact (below_size (by repeat (first | (with_reducible first | exact HB.out | apply below_alloc | apply pw_below_drewN | apply below_drew1) | exact HB.out)))); (case aL => have := LMc8.out; omega); intro v326 w9 ho hb hg hat; rw [← Ny325.out] at ho; have n0_ := Aside0.mk (hb); have n1_ := Aside0.mk (ho); clear HB; clear HO_5; have HB := n0_; have HO327 := n1_; clear n0_ n1_; clear ho hb hg hat))
              go_roundg k1
              case measure => have := HK1.out; omega
              case rel => exact ⟨(y325), (wrap64 (x6_1 + 1)), (by first | rfl | (simp; done) | (simp [*]; done)), H', ⟨by have := HK1.out; omega⟩, ⟨by (with_reducible repeat (first | apply Kd.R_alloc | apply Kd.R_drewN | apply Kd.R_drew)); exact HO327.out⟩, ⟨by repeat (first | (with_reducible first | exact HB.out | apply below_alloc | apply pw_below_drewN | apply below_drew1) | exact HB.out)⟩⟩
            · rw [if_neg c8] at H
              exact absurd H (by simp)
          · rw [if_neg c7] at H
            have c7b0 : (((rd_T43 t322 x6_1).f3).toList == a1.toList) = false := beq_eq_false_iff_ne.mpr c7
            have c7b1 : (((rd_T43 t322 x6_1).f3).toList != a1.toList) = true := bne_iff_ne.mpr c7
            have H' := Aside0.mk H
            clear H
            have p323 : 0 ≤ (x6_1 : Int) := of_decide_eq_true (by first | (with_reducible assumption) | assumption)
            have q323 : x6_1 < (t322.length : Int) := of_decide_eq_true (by first | (with_reducible assumption) | assumption)
            obtain ⟨ad323, e323, hx323_0, hx323_1, hx323_2, hx323_3⟩ := at_T43 HRn321.out x6_1 p323 q323
            cases e323
            replace hx323_0 := (HB.out.cell (World.block_lt_of_cell? w _ hx323_0)).trans hx323_0
            replace hx323_1 := (HB.out.cell (World.block_lt_of_cell? w _ hx323_1)).trans hx323_1
            replace hx323_2 := (HB.out.cell (World.block_lt_of_cell? w _ hx323_2)).trans hx323_2
            replace hx323_3 := (HB.out.cell (World.block_lt_of_cell? w _ hx323_3)).trans hx323_3
            replace p323 := eq_true p323
            replace q323 := eq_true q323
            go_wp2
            go_roundg k1
            case measure => have := HK1.out; omega
            case rel => exact ⟨(x5_1), (wrap64 (x6_1 + 1)), (by first | rfl | (simp; done) | (simp [*]; done)), H', ⟨by have := HK1.out; omega⟩, ⟨by (with_reducible repeat (first | apply Kd.R_alloc | apply Kd.R_drewN | apply Kd.R_drew)); exact HO_5.out⟩, ⟨by repeat (first | (with_reducible first | exact HB.out | apply below_alloc | apply pw_below_drewN | apply below_drew1) | exact HB.out)⟩⟩
        · rw [if_neg c6] at H
          exact absurd H (by simp)
      · rw [if_neg c5] at H
        have c5b0 : decide (x6_1 < (t322.length : Int)) = false := decide_eq_false c5
        clear c5
        obtain rfl := Option.some.inj H
        go_wp2
        go_ret
        exact ⟨_, by first | rfl | (simp [errW_none, errW_some] <;> rfl) | (simp [*, errW_none, errW_some] <;> rfl), by (with_reducible repeat (first | apply Kd.R_alloc | apply Kd.R_drewN | apply Kd.R_drew)); exact HO_5.out, by repeat (first | (with_reducible first | exact HB.out | apply below_alloc | apply pw_below_drewN | apply below_drew1) | exact HB.out)⟩

/-! ### boarderlaw12_TableGets: function 12 -/
def boarderlaw12_TableGets.j0 : Nat → List (S43) → Int → ByteArray → Bool → Option (Bool)
  | 0, _, _, _, _ => none
  | k + 1, x0, x1, x2, x17 => if x17 = true then ((boarderlaw12_knows.f k).bind fun t329 => (some t329)) else ((table_Get.f k x0 x1).bind fun bt330 => ((boarderref12_Get.f k x0 x1).bind fun bt336 => ((table_Right.f k x0).bind fun t342 => ((boarderref12_Right.f k x0).bind fun t343 => (if (t342 == t343) = true then (if (bt330.1 == bt336.1 && (bt330.2.1 == bt336.2.1 && (bt330.2.2.1 == bt336.2.2.1 && (bt330.2.2.2.1.toList == bt336.2.2.2.1.toList)))) = true then (if (bt330.2.2.2.2 == bt336.2.2.2.2) = true then ((table_Of.f k x0 x2).bind fun t344 => ((boarderref12_Of.f k x0 x2).bind fun t347 => ((boarderref10_SameLeases.f k t344 t347).bind fun t350 => (if t350 = true then ((boarderlaw12_knows.f k).bind fun t351 => (some t351)) else (none))))) else (none)) else (none)) else (none))))))
def boarderlaw12_TableGets.f (k : Nat) (l0 : List (S43)) (a1 : Int) (a2 : ByteArray) : Option (Bool) := (boarderlaw12_Great.f k l0).bind fun t328 => (if t328 = true then (boarderlaw12_TableGets.j0 k l0 a1 a2 true) else (boarderlaw12_TableGets.j0 k l0 a1 a2 (decide ((a2.size : Int) > 1000))))
theorem boarderlaw12_TableGets.mono_l : ∀ k, (∀ y0 y1 y2 y3, LeO (boarderlaw12_TableGets.j0 k y0 y1 y2 y3) (boarderlaw12_TableGets.j0 (k + 1) y0 y1 y2 y3))
  | 0 => fun _ _ _ _ r h => by simp [boarderlaw12_TableGets.j0] at h
  | k + 1 => by
    have ih0 := boarderlaw12_TableGets.mono_l k
    · intro y0 y1 y2 y3
      unfold boarderlaw12_TableGets.j0
      repeat' first
      | (with_reducible exact ih0 _ _ _ _)
      | (with_reducible exact boarderlaw12_Great.mono _ _)
      | (with_reducible exact boarderlaw12_knows.mono _)
      | (with_reducible exact boarderref10_SameLeases.mono _ _ _)
      | (with_reducible exact boarderref12_Get.mono _ _ _)
      | (with_reducible exact boarderref12_Of.mono _ _ _)
      | (with_reducible exact boarderref12_Right.mono _ _)
      | (with_reducible exact table_Get.mono _ _ _)
      | (with_reducible exact table_Of.mono _ _ _)
      | (with_reducible exact table_Right.mono _ _)
      | (with_reducible exact LeO.refl _)
      | (with_reducible exact LeO.none _)
      | (with_reducible refine LeO.ite ?_ ?_)
      | (with_reducible refine LeO.bind ?_ (fun _ => ?_))
      | exact ih0 _ _ _ _
      | exact boarderlaw12_Great.mono _ _
      | exact boarderlaw12_knows.mono _
      | exact boarderref10_SameLeases.mono _ _ _
      | exact boarderref12_Get.mono _ _ _
      | exact boarderref12_Of.mono _ _ _
      | exact boarderref12_Right.mono _ _
      | exact table_Get.mono _ _ _
      | exact table_Of.mono _ _ _
      | exact table_Right.mono _ _
      | exact LeO.none _
      | refine LeO.ite ?_ ?_
      | refine LeO.bind ?_ (fun _ => ?_)
theorem boarderlaw12_TableGets.mono : ∀ a0 a1 a2 k, LeO (boarderlaw12_TableGets.f k a0 a1 a2) (boarderlaw12_TableGets.f (k + 1) a0 a1 a2) := by
  intro a0 a1 a2 k
  have ih0 := boarderlaw12_TableGets.mono_l k
  unfold boarderlaw12_TableGets.f
  repeat' first
      | (with_reducible exact ih0 _ _ _ _)
      | (with_reducible exact boarderlaw12_Great.mono _ _)
      | (with_reducible exact boarderlaw12_knows.mono _)
      | (with_reducible exact boarderref10_SameLeases.mono _ _ _)
      | (with_reducible exact boarderref12_Get.mono _ _ _)
      | (with_reducible exact boarderref12_Of.mono _ _ _)
      | (with_reducible exact boarderref12_Right.mono _ _)
      | (with_reducible exact table_Get.mono _ _ _)
      | (with_reducible exact table_Of.mono _ _ _)
      | (with_reducible exact table_Right.mono _ _)
      | (with_reducible exact LeO.refl _)
      | (with_reducible exact LeO.none _)
      | (with_reducible refine LeO.ite ?_ ?_)
      | (with_reducible refine LeO.bind ?_ (fun _ => ?_))
      | exact ih0 _ _ _ _
      | exact boarderlaw12_Great.mono _ _
      | exact boarderlaw12_knows.mono _
      | exact boarderref10_SameLeases.mono _ _ _
      | exact boarderref12_Get.mono _ _ _
      | exact boarderref12_Of.mono _ _ _
      | exact boarderref12_Right.mono _ _
      | exact table_Get.mono _ _ _
      | exact table_Of.mono _ _ _
      | exact table_Right.mono _ _
      | exact LeO.none _
      | refine LeO.ite ?_ ?_
      | refine LeO.bind ?_ (fun _ => ?_)
set_option maxHeartbeats 8000000 in
set_option maxRecDepth 100000 in
theorem boarderlaw12_TableGets.calls (k : Nat) (A0 : Option Addr) (c0 : Nat) (l0 : List (S43)) (a1 : Int) (a2 : ByteArray) (r : Bool) (w : World) (hr0 : Kd.C k43 w A0 l0.length l0) (hc0 : l0.length ≤ c0) (h : boarderlaw12_TableGets.f k l0 a1 a2 = some r) :
    Calls Try.prog 12 #[.slice A0 l0.length c0, .int .i64 a1, .string a2] w fun e w' => e = .returned (.bool r) ∧ Below w.heap.size w w' := by
  have hu43 := Try.underlying43
  have HR0 := Aside0.mk hr0
  have HC0 := Aside0.mk hc0
  clear hr0 hc0
  have HB := Aside0.mk (Below.refl w.heap.size w)
  have H : ((boarderlaw12_Great.f k l0).bind fun t328 => (if t328 = true then (boarderlaw12_TableGets.j0 k l0 a1 a2 true) else (boarderlaw12_TableGets.j0 k l0 a1 a2 (decide ((a2.size : Int) > 1000))))) = some r := h
  clear h
  have HC4 := Aside0.mk H
  clear H
  go_enter Try.func12, Try.ntmps12
  go_upto_region 1 with (fail)
  go_cut [17] (fun v17 wc => ∃ (kq : Nat) (x17_3 : Bool), v17 = .bool x17_3 ∧ Aside0 (boarderlaw12_TableGets.j0 kq l0 a1 a2 x17_3 = some r) ∧ Aside0 (kq ≤ k) ∧ Aside0 (Below w.heap.size w wc))
  case first =>
    have H := HC4.out
    clear HC4
    replace H := Option.bind_eq_some_iff.mp H
    obtain ⟨t328, A50, H⟩ := H
    replace H : (if t328 = true then (boarderlaw12_TableGets.j0 k l0 a1 a2 true) else (boarderlaw12_TableGets.j0 k l0 a1 a2 (decide ((a2.size : Int) > 1000)))) = some r := H
    have A5 := Aside0.mk A50
    clear A50
    by_cases c6 : t328 = true
    · subst c6
      have H1 : (boarderlaw12_TableGets.j0 k l0 a1 a2 true) = some r := by rw [if_pos rfl] at H; exact H
      clear H
      have H := H1
      clear H1
      have H' := Aside0.mk H
      clear H
      go_wp2_with (first | ((with_reducible refine gate_callee (f := 32) rfl ?_); refine goesL_ (some 12) rfl rfl Try.func32 (by kernel_rfl) rfl #[.slice A0 l0.length c0] rfl (by (try simp only [List.map_toArray, List.map_cons, List.map_nil]); first | done | rfl | (simp only [List.length_drop, List.length_take]; rfl)) ?_; (with_reducible refine (boarderlaw12_Great.calls k _ _ l0 true _ ?side1 ?side2 A5.out).mono ?_); (case side1 => repeat (first | exact (Kd.C_below HR0.out HB.out) | (with_reducible refine Kd.C_alloc ?_ _) | (with_reducible refine Kd.C_drewN ?_ _) | (with_reducible refine Kd.C_drew ?_))); (case side2 => exact HC0.out); rintro e w' ⟨rfl, ⟨nd, rfl⟩⟩; refine ⟨_, rfl, ?_⟩))
      go_meet
      case rel => exact ⟨_, (true), (by first | rfl | (simp; done) | (simp [*]; done)), H', ⟨by first | omega | exact Nat.le_refl _⟩, ⟨by repeat (first | (with_reducible first | exact HB.out | apply below_alloc | apply pw_below_drewN | apply below_drew1) | exact HB.out)⟩⟩
    · replace c6 := Bool.eq_false_iff.mpr c6
      subst c6
      have H1 : (boarderlaw12_TableGets.j0 k l0 a1 a2 (decide ((a2.size : Int) > 1000))) = some r := by rw [if_neg (show ¬ (false = true) by decide)] at H; exact H
      clear H
      have H := H1
      clear H1
      have H' := Aside0.mk H
      clear H
      go_wp2_with (first | ((with_reducible refine gate_callee (f := 32) rfl ?_); refine goesL_ (some 12) rfl rfl Try.func32 (by kernel_rfl) rfl #[.slice A0 l0.length c0] rfl (by (try simp only [List.map_toArray, List.map_cons, List.map_nil]); first | done | rfl | (simp only [List.length_drop, List.length_take]; rfl)) ?_; (with_reducible refine (boarderlaw12_Great.calls k _ _ l0 false _ ?side1 ?side2 A5.out).mono ?_); (case side1 => repeat (first | exact (Kd.C_below HR0.out HB.out) | (with_reducible refine Kd.C_alloc ?_ _) | (with_reducible refine Kd.C_drewN ?_ _) | (with_reducible refine Kd.C_drew ?_))); (case side2 => exact HC0.out); rintro e w' ⟨rfl, ⟨nd, rfl⟩⟩; refine ⟨_, rfl, ?_⟩))
      go_meet
      case rel => exact ⟨_, (decide ((a2.size : Int) > 1000)), (by first | rfl | (simp; done) | (simp [*]; done)), H', ⟨by first | omega | exact Nat.le_refl _⟩, ⟨by repeat (first | (with_reducible first | exact HB.out | apply below_alloc | apply pw_below_drewN | apply below_drew1) | exact HB.out)⟩⟩
  case rest =>
    clear HC4
    try clear c1
    try clear p2
    try clear c3
    try clear c6
    obtain ⟨kq, x17_3, rfl, HA, HJ3, HB⟩ := hcut
    cases kq with
    | zero => exact absurd HA.out (by simp [boarderlaw12_TableGets.j0])
    | succ kj3 =>
      have H := HA.out
      clear HA
      simp only [boarderlaw12_TableGets.j0] at H
      by_cases c7 : x17_3 = true
      · subst c7
        have H1 : ((boarderlaw12_knows.f kj3).bind fun t329 => (some t329)) = some r := by rw [if_pos rfl] at H; exact H
        clear H
        have H := H1
        clear H1
        replace H := Option.bind_eq_some_iff.mp H
        obtain ⟨t329, A80, H⟩ := H
        replace H : (some t329) = some r := H
        have A8 := Aside0.mk A80
        clear A80
        obtain rfl := Option.some.inj H
        go_wp2_with (first | ((with_reducible refine gate_callee (f := 33) rfl ?_); refine goesL_ (some 18) rfl rfl Try.func33 (by kernel_rfl) rfl #[] rfl (by (try simp only [List.map_toArray, List.map_cons, List.map_nil]); first | done | rfl | (simp only [List.length_drop, List.length_take]; rfl)) ?_; (with_reducible refine (boarderlaw12_knows.calls kj3  t329 _ A8.out).mono ?_); rintro e w9 ⟨rfl, hb⟩; refine ⟨_, rfl, ?_⟩; have n0_ := Aside0.mk (below_step (by repeat (first | (with_reducible first | exact HB.out | apply below_alloc | apply pw_below_drewN | apply below_drew1) | exact HB.out)) hb); clear HB; have HB := n0_; clear n0_; (try clear hb); (try clear hb2); (try clear hk); (try clear hi)))
        go_ret
        exact ⟨by first | rfl | (simp [errW_none, errW_some] <;> rfl) | (simp [*, errW_none, errW_some] <;> rfl), by repeat (first | (with_reducible first | exact HB.out | apply below_alloc | apply pw_below_drewN | apply below_drew1) | exact HB.out)⟩
      · replace c7 := Bool.eq_false_iff.mpr c7
        subst c7
        have H1 : ((table_Get.f kj3 l0 a1).bind fun bt330 => ((boarderref12_Get.f kj3 l0 a1).bind fun bt336 => ((table_Right.f kj3 l0).bind fun t342 => ((boarderref12_Right.f kj3 l0).bind fun t343 => (if (t342 == t343) = true then (if (bt330.1 == bt336.1 && (bt330.2.1 == bt336.2.1 && (bt330.2.2.1 == bt336.2.2.1 && (bt330.2.2.2.1.toList == bt336.2.2.2.1.toList)))) = true then (if (bt330.2.2.2.2 == bt336.2.2.2.2) = true then ((table_Of.f kj3 l0 a2).bind fun t344 => ((boarderref12_Of.f kj3 l0 a2).bind fun t347 => ((boarderref10_SameLeases.f kj3 t344 t347).bind fun t350 => (if t350 = true then ((boarderlaw12_knows.f kj3).bind fun t351 => (some t351)) else (none))))) else (none)) else (none)) else (none)))))) = some r := by rw [if_neg (show ¬ (false = true) by decide)] at H; exact H
        clear H
        have H := H1
        clear H1
        replace H := Option.bind_eq_some_iff.mp H
        obtain ⟨⟨t330, t331, t332, t333, t334⟩, A100, H⟩ := H
        replace H : ((boarderref12_Get.f kj3 l0 a1).bind fun bt336 => ((table_Right.f kj3 l0).bind fun t342 => ((boarderref12_Right.f kj3 l0).bind fun t343 => (if (t342 == t343) = true then (if (t330 == bt336.1 && (t331 == bt336.2.1 && (t332 == bt336.2.2.1 && (t333.toList == bt336.2.2.2.1.toList)))) = true then (if (t334 == bt336.2.2.2.2) = true then ((table_Of.f kj3 l0 a2).bind fun t344 => ((boarderref12_Of.f kj3 l0 a2).bind fun t347 => ((boarderref10_SameLeases.f kj3 t344 t347).bind fun t350 => (if t350 = true then ((boarderlaw12_knows.f kj3).bind fun t351 => (some t351)) else (none))))) else (none)) else (none)) else (none))))) = some r := H
        have A10 := Aside0.mk A100
        clear A100
        replace H := Option.bind_eq_some_iff.mp H
        obtain ⟨⟨t336, t337, t338, t339, t340⟩, A110, H⟩ := H
        replace H : ((table_Right.f kj3 l0).bind fun t342 => ((boarderref12_Right.f kj3 l0).bind fun t343 => (if (t342 == t343) = true then (if (t330 == t336 && (t331 == t337 && (t332 == t338 && (t333.toList == t339.toList)))) = true then (if (t334 == t340) = true then ((table_Of.f kj3 l0 a2).bind fun t344 => ((boarderref12_Of.f kj3 l0 a2).bind fun t347 => ((boarderref10_SameLeases.f kj3 t344 t347).bind fun t350 => (if t350 = true then ((boarderlaw12_knows.f kj3).bind fun t351 => (some t351)) else (none))))) else (none)) else (none)) else (none)))) = some r := H
        have A11 := Aside0.mk A110
        clear A110
        replace H := Option.bind_eq_some_iff.mp H
        obtain ⟨t342, A120, H⟩ := H
        replace H : ((boarderref12_Right.f kj3 l0).bind fun t343 => (if (t342 == t343) = true then (if (t330 == t336 && (t331 == t337 && (t332 == t338 && (t333.toList == t339.toList)))) = true then (if (t334 == t340) = true then ((table_Of.f kj3 l0 a2).bind fun t344 => ((boarderref12_Of.f kj3 l0 a2).bind fun t347 => ((boarderref10_SameLeases.f kj3 t344 t347).bind fun t350 => (if t350 = true then ((boarderlaw12_knows.f kj3).bind fun t351 => (some t351)) else (none))))) else (none)) else (none)) else (none))) = some r := H
        have A12 := Aside0.mk A120
        clear A120
        replace H := Option.bind_eq_some_iff.mp H
        obtain ⟨t343, A130, H⟩ := H
        replace H : (if (t342 == t343) = true then (if (t330 == t336 && (t331 == t337 && (t332 == t338 && (t333.toList == t339.toList)))) = true then (if (t334 == t340) = true then ((table_Of.f kj3 l0 a2).bind fun t344 => ((boarderref12_Of.f kj3 l0 a2).bind fun t347 => ((boarderref10_SameLeases.f kj3 t344 t347).bind fun t350 => (if t350 = true then ((boarderlaw12_knows.f kj3).bind fun t351 => (some t351)) else (none))))) else (none)) else (none)) else (none)) = some r := H
        have A13 := Aside0.mk A130
        clear A130
        by_cases c14 : (t342 == t343) = true
        · rw [if_pos c14] at H
          have c14b0 : (t342 == t343) = true := c14
          (try (have c14b1 : decide (t342 = t343) = true := by simpa using c14))
          (try (have c14b2 : (t342 == t343) = true := by simpa using c14))
          clear c14
          by_cases c15 : (t330 == t336 && (t331 == t337 && (t332 == t338 && (t333.toList == t339.toList)))) = true
          · rw [if_pos c15] at H
            have c15b0 : (t330 == t336 && (t331 == t337 && (t332 == t338 && (t333.toList == t339.toList)))) = true := c15
            (try (have c15b1 : decide (t330 = t336 && (t331 == t337 && (t332 == t338 && (t333.toList == t339.toList)))) = true := by simpa using c15))
            (try (have c15b2 : (t330 == t336 && (t331 == t337 && (t332 == t338 && (t333.toList == t339.toList)))) = true := by simpa using c15))
            clear c15
            by_cases c16 : (t334 == t340) = true
            · rw [if_pos c16] at H
              have c16b0 : (t334 == t340) = true := c16
              (try (have c16b1 : decide (t334 = t340) = true := by simpa using c16))
              (try (have c16b2 : (t334 == t340) = true := by simpa using c16))
              clear c16
              replace H := Option.bind_eq_some_iff.mp H
              obtain ⟨t344, A170, H⟩ := H
              replace H : ((boarderref12_Of.f kj3 l0 a2).bind fun t347 => ((boarderref10_SameLeases.f kj3 t344 t347).bind fun t350 => (if t350 = true then ((boarderlaw12_knows.f kj3).bind fun t351 => (some t351)) else (none)))) = some r := H
              have A17 := Aside0.mk A170
              clear A170
              replace H := Option.bind_eq_some_iff.mp H
              obtain ⟨t347, A180, H⟩ := H
              replace H : ((boarderref10_SameLeases.f kj3 t344 t347).bind fun t350 => (if t350 = true then ((boarderlaw12_knows.f kj3).bind fun t351 => (some t351)) else (none))) = some r := H
              have A18 := Aside0.mk A180
              clear A180
              replace H := Option.bind_eq_some_iff.mp H
              obtain ⟨t350, A190, H⟩ := H
              replace H : (if t350 = true then ((boarderlaw12_knows.f kj3).bind fun t351 => (some t351)) else (none)) = some r := H
              have A19 := Aside0.mk A190
              clear A190
              by_cases c20 : t350 = true
              · subst c20
                have H1 : ((boarderlaw12_knows.f kj3).bind fun t351 => (some t351)) = some r := by rw [if_pos rfl] at H; exact H
                clear H
                have H := H1
                clear H1
                replace H := Option.bind_eq_some_iff.mp H
                obtain ⟨t351, A210, H⟩ := H
                replace H : (some t351) = some r := H
                have A21 := Aside0.mk A210
                clear A210
                obtain rfl := Option.some.inj H
                go_wp2_with (first | ((with_reducible refine gate_callee (f := 40) rfl ?_); refine goesL_ (some 22) rfl rfl Try.func40 (by kernel_rfl) rfl #[.slice A0 l0.length c0, .int .i64 a1] rfl (by (try simp only [List.map_toArray, List.map_cons, List.map_nil]); first | done | rfl | (simp only [List.length_drop, List.length_take]; rfl)) ?_; (with_reducible refine (table_Get.calls kj3 _ _ l0 a1 t330 t331 t332 t333 t334 _ ?side1 ?side2 A10.out).mono ?_); (case side1 => repeat (first | exact (Kd.C_below HR0.out HB.out) | (with_reducible refine Kd.C_alloc ?_ _) | (with_reducible refine Kd.C_drewN ?_ _) | (with_reducible refine Kd.C_drew ?_))); (case side2 => exact HC0.out); rintro e w22 ⟨rfl, hb⟩; refine ⟨_, rfl, ?_⟩; have n0_ := Aside0.mk (below_step (by repeat (first | (with_reducible first | exact HB.out | apply below_alloc | apply pw_below_drewN | apply below_drew1) | exact HB.out)) hb); clear HB; have HB := n0_; clear n0_; (try clear hb); (try clear hb2); (try clear hk); (try clear hi)) | ((with_reducible refine gate_dst (N := 7) rfl ?_); (try (refine gate_guard (by rfl) ?_; dsimp only)); refine box_event ?hg (N := 7) ?hd (cs := #[.int .i64 0, .int .i64 0, .int .i64 0, .string (⟨#[]⟩ : ByteArray)]) (t := 43) ?hr ?_; (case hd => rfl); (case hg => rfl); (case hr => first | (go_simp; done) | (go_simp; rfl)); intro gb335 hg w23 hbox hb; have n0_ := Aside0.mk (below_step (by repeat (first | (with_reducible first | exact HB.out | apply below_alloc | apply pw_below_drewN | apply below_drew1) | exact HB.out)) hb); have n1_ := Aside0.mk (hbox); have n2_ := Aside0.mk ((by rw [hg]; exact (below_size (by repeat (first | (with_reducible first | exact HB.out | apply below_alloc | apply pw_below_drewN | apply below_drew1) | exact HB.out))) : w.heap.size ≤ gb335)); have n3_ := Aside0.mk ((by rw [hg]; exact (below_size (by repeat (first | (with_reducible first | exact HB.out | apply below_alloc | apply pw_below_drewN | apply below_drew1) | exact HB.out))) : w.heap.size ≤ gb335)); clear HB; have HB := n0_; have BK335 := n1_; have GW335 := n2_; have GE335 := n3_; clear n0_ n1_ n2_ n3_; clear hb hbox hg; have hcz24_0 : w23.cell? ⟨gb335, 0, none⟩ = some (.int .i64 0) := (blk_cell BK335.out 0).trans rfl; have hcz24_1 : w23.cell? ⟨gb335, 1, none⟩ = some (.int .i64 0) := (blk_cell BK335.out 1).trans rfl; have hcz24_2 : w23.cell? ⟨gb335, 2, none⟩ = some (.int .i64 0) := (blk_cell BK335.out 2).trans rfl; have hcz24_3 : w23.cell? ⟨gb335, 3, none⟩ = some (.string (⟨#[]⟩ : ByteArray)) := (blk_cell BK335.out 3).trans rfl; have hfz24_0 := blk_frozen BK335.out 0; have hfz24_1 := blk_frozen BK335.out 1; have hfz24_2 := blk_frozen BK335.out 2; have hfz24_3 := blk_frozen BK335.out 3) | ((with_reducible refine gate_callee (f := 42) rfl ?_); refine goesL_ (some 28) rfl rfl Try.func42 (by kernel_rfl) rfl #[.slice A0 l0.length c0, .int .i64 a1] rfl (by (try simp only [List.map_toArray, List.map_cons, List.map_nil]); first | done | rfl | (simp only [List.length_drop, List.length_take]; rfl)) ?_; (with_reducible refine (boarderref12_Get.calls kj3 _ _ l0 a1 t336 t337 t338 t339 t340 _ ?side1 ?side2 A11.out).mono ?_); (case side1 => exact Kd.C_below HR0.out (by repeat (first | (with_reducible first | exact HB.out | apply below_alloc | apply pw_below_drewN | apply below_drew1 | refine below_set ?_ GE335.out) | exact HB.out))); (case side2 => exact HC0.out); rintro e w25 ⟨rfl, hb⟩; refine ⟨_, rfl, ?_⟩; have n0_ := Aside0.mk (blk_below (g := gb335) (o := .cells #[.int .i64 t330, .int .i64 t331, .int .i64 t332, .string t333] 43 (0, 0)) (by (with_reducible repeat (first | refine blk_drewN ?_ _ | refine blk_drew ?_ | refine blk_alloc ?_ _)); refine blk_put (cs := #[.int .i64 t330, .int .i64 t331, .int .i64 t332, .string (⟨#[]⟩ : ByteArray)]) ?_ 3 _ rfl; (with_reducible repeat (first | refine blk_drewN ?_ _ | refine blk_drew ?_ | refine blk_alloc ?_ _)); refine blk_put (cs := #[.int .i64 t330, .int .i64 t331, .int .i64 0, .string (⟨#[]⟩ : ByteArray)]) ?_ 2 _ rfl; (with_reducible repeat (first | refine blk_drewN ?_ _ | refine blk_drew ?_ | refine blk_alloc ?_ _)); refine blk_put (cs := #[.int .i64 t330, .int .i64 0, .int .i64 0, .string (⟨#[]⟩ : ByteArray)]) ?_ 1 _ rfl; (with_reducible repeat (first | refine blk_drewN ?_ _ | refine blk_drew ?_ | refine blk_alloc ?_ _)); refine blk_put (cs := #[.int .i64 0, .int .i64 0, .int .i64 0, .string (⟨#[]⟩ : ByteArray)]) ?_ 0 _ rfl; (with_reducible repeat (first | refine blk_drewN ?_ _ | refine blk_drew ?_ | refine blk_alloc ?_ _)); exact BK335.out) hb); have n1_ := Aside0.mk (below_step (by repeat (first | (with_reducible first | exact HB.out | apply below_alloc | apply pw_below_drewN | apply below_drew1 | refine below_set ?_ GE335.out) | exact HB.out)) hb); clear BK335; clear HB; have BK335 := n0_; have HB := n1_; clear n0_ n1_; (try clear hb); (try clear hb2); (try clear hk); (try clear hi)) | ((with_reducible refine gate_dst (N := 9) rfl ?_); (try (refine gate_guard (by rfl) ?_; dsimp only)); refine box_event ?hg (N := 9) ?hd (cs := #[.int .i64 0, .int .i64 0, .int .i64 0, .string (⟨#[]⟩ : ByteArray)]) (t := 43) ?hr ?_; (case hd => rfl); (case hg => rfl); (case hr => first | (go_simp; done) | (go_simp; rfl)); intro gb341 hg w26 hbox hb; have n0_ := Aside0.mk (blk_below (g := gb335) (o := .cells #[.int .i64 t330, .int .i64 t331, .int .i64 t332, .string t333] 43 (0, 0)) (by (with_reducible repeat (first | refine blk_drewN ?_ _ | refine blk_drew ?_ | refine blk_alloc ?_ _)); exact BK335.out) hb); have n1_ := Aside0.mk (below_step (by repeat (first | (with_reducible first | exact HB.out | apply below_alloc | apply pw_below_drewN | apply below_drew1 | refine below_set ?_ GE335.out) | exact HB.out)) hb); have n2_ := Aside0.mk (hbox); have n3_ := Aside0.mk ((by rw [hg]; exact (below_size (by repeat (first | (with_reducible first | exact HB.out | apply below_alloc | apply pw_below_drewN | apply below_drew1 | refine below_set ?_ GE335.out) | exact HB.out))) : w.heap.size ≤ gb341)); have n4_ := Aside0.mk ((by rw [hg]; exact (below_size (by repeat (first | (with_reducible first | exact HB.out | apply below_alloc | apply pw_below_drewN | apply below_drew1 | refine below_set ?_ GE335.out) | exact HB.out))) : w.heap.size ≤ gb341)); have n5_ := Aside0.mk ((by rw [hg]; exact Nat.ne_of_lt (blk_lt (g := gb335) (o := .cells #[.int .i64 t330, .int .i64 t331, .int .i64 t332, .string t333] 43 (0, 0)) (by (with_reducible repeat (first | refine blk_drewN ?_ _ | refine blk_drew ?_ | refine blk_alloc ?_ _)); exact BK335.out)) : gb335 ≠ gb341)); have n6_ := Aside0.mk ((by rw [hg]; exact Nat.ne_of_gt (blk_lt (g := gb335) (o := .cells #[.int .i64 t330, .int .i64 t331, .int .i64 t332, .string t333] 43 (0, 0)) (by (with_reducible repeat (first | refine blk_drewN ?_ _ | refine blk_drew ?_ | refine blk_alloc ?_ _)); exact BK335.out)) : gb341 ≠ gb335)); clear BK335; clear HB; have BK335 := n0_; have HB := n1_; have BK341 := n2_; have GW341 := n3_; have GE341 := n4_; have NB335_341 := n5_; have NB341_335 := n6_; clear n0_ n1_ n2_ n3_ n4_ n5_ n6_; clear hb hbox hg; have hnb27 := NB341_335.out; have hnc27 := NB335_341.out; have hcz28_0 : w26.cell? ⟨gb341, 0, none⟩ = some (.int .i64 0) := (blk_cell BK341.out 0).trans rfl; have hcz28_1 : w26.cell? ⟨gb341, 1, none⟩ = some (.int .i64 0) := (blk_cell BK341.out 1).trans rfl; have hcz28_2 : w26.cell? ⟨gb341, 2, none⟩ = some (.int .i64 0) := (blk_cell BK341.out 2).trans rfl; have hcz28_3 : w26.cell? ⟨gb341, 3, none⟩ = some (.string (⟨#[]⟩ : ByteArray)) := (blk_cell BK341.out 3).trans rfl; have hfz28_0 := blk_frozen BK341.out 0; have hfz28_1 := blk_frozen BK341.out 1; have hfz28_2 := blk_frozen BK341.out 2; have hfz28_3 := blk_frozen BK341.out 3) | ((with_reducible refine gate_callee (f := 37) rfl ?_); refine goesL_ (some 32) rfl rfl Try.func37 (by kernel_rfl) rfl #[.slice A0 l0.length c0] rfl (by (try simp only [List.map_toArray, List.map_cons, List.map_nil]); first | done | rfl | (simp only [List.length_drop, List.length_take]; rfl)) ?_; (with_reducible refine (table_Right.calls kj3 _ _ l0 t342 _ ?side1 ?side2 A12.out).mono ?_); (case side1 => exact Kd.C_below HR0.out (by repeat (first | (with_reducible first | exact HB.out | apply below_alloc | apply pw_below_drewN | apply below_drew1 | refine below_set ?_ GE335.out | refine below_set ?_ GE341.out) | exact HB.out))); (case side2 => exact HC0.out); rintro e w29 ⟨rfl, hb⟩; refine ⟨_, rfl, ?_⟩; have n0_ := Aside0.mk (blk_below (g := gb335) (o := .cells #[.int .i64 t330, .int .i64 t331, .int .i64 t332, .string t333] 43 (0, 0)) (by (with_reducible repeat (first | refine blk_drewN ?_ _ | refine blk_drew ?_ | refine blk_alloc ?_ _)); refine blk_far ?_ NB335_341.out _; (with_reducible repeat (first | refine blk_drewN ?_ _ | refine blk_drew ?_ | refine blk_alloc ?_ _)); refine blk_far ?_ NB335_341.out _; (with_reducible repeat (first | refine blk_drewN ?_ _ | refine blk_drew ?_ | refine blk_alloc ?_ _)); refine blk_far ?_ NB335_341.out _; (with_reducible repeat (first | refine blk_drewN ?_ _ | refine blk_drew ?_ | refine blk_alloc ?_ _)); refine blk_far ?_ NB335_341.out _; (with_reducible repeat (first | refine blk_drewN ?_ _ | refine blk_drew ?_ | refine blk_alloc ?_ _)); exact BK335.out) hb); have n1_ := Aside0.mk (blk_below (g := gb341) (o := .cells #[.int .i64 t336, .int .i64 t337, .int .i64 t338, .string t339] 43 (0, 0)) (by (with_reducible repeat (first | refine blk_drewN ?_ _ | refine blk_drew ?_ | refine blk_alloc ?_ _)); refine blk_put (cs := #[.int .i64 t336, .int .i64 t337, .int .i64 t338, .string (⟨#[]⟩ : ByteArray)]) ?_ 3 _ rfl; (with_reducible repeat (first | refine blk_drewN ?_ _ | refine blk_drew ?_ | refine blk_alloc ?_ _)); refine blk_put (cs := #[.int .i64 t336, .int .i64 t337, .int .i64 0, .string (⟨#[]⟩ : ByteArray)]) ?_ 2 _ rfl; (with_reducible repeat (first | refine blk_drewN ?_ _ | refine blk_drew ?_ | refine blk_alloc ?_ _)); refine blk_put (cs := #[.int .i64 t336, .int .i64 0, .int .i64 0, .string (⟨#[]⟩ : ByteArray)]) ?_ 1 _ rfl; (with_reducible repeat (first | refine blk_drewN ?_ _ | refine blk_drew ?_ | refine blk_alloc ?_ _)); refine blk_put (cs := #[.int .i64 0, .int .i64 0, .int .i64 0, .string (⟨#[]⟩ : ByteArray)]) ?_ 0 _ rfl; (with_reducible repeat (first | refine blk_drewN ?_ _ | refine blk_drew ?_ | refine blk_alloc ?_ _)); exact BK341.out) hb); have n2_ := Aside0.mk (below_step (by repeat (first | (with_reducible first | exact HB.out | apply below_alloc | apply pw_below_drewN | apply below_drew1 | refine below_set ?_ GE335.out | refine below_set ?_ GE341.out) | exact HB.out)) hb); clear BK335; clear BK341; clear HB; have BK335 := n0_; have BK341 := n1_; have HB := n2_; clear n0_ n1_ n2_; (try clear hb); (try clear hb2); (try clear hk); (try clear hi)) | ((with_reducible refine gate_callee (f := 38) rfl ?_); refine goesL_ (some 34) rfl rfl Try.func38 (by kernel_rfl) rfl #[.slice A0 l0.length c0] rfl (by (try simp only [List.map_toArray, List.map_cons, List.map_nil]); first | done | rfl | (simp only [List.length_drop, List.length_take]; rfl)) ?_; (with_reducible refine (boarderref12_Right.calls kj3 _ _ l0 t343 _ ?side1 ?side2 A13.out).mono ?_); (case side1 => repeat (first | exact (Kd.C_below HR0.out HB.out) | (with_reducible refine Kd.C_alloc ?_ _) | (with_reducible refine Kd.C_drewN ?_ _) | (with_reducible refine Kd.C_drew ?_))); (case side2 => exact HC0.out); rintro e w30 ⟨rfl, hb⟩; refine ⟨_, rfl, ?_⟩; have n0_ := Aside0.mk (blk_below (g := gb335) (o := .cells #[.int .i64 t330, .int .i64 t331, .int .i64 t332, .string t333] 43 (0, 0)) (by (with_reducible repeat (first | refine blk_drewN ?_ _ | refine blk_drew ?_ | refine blk_alloc ?_ _)); exact BK335.out) hb); have n1_ := Aside0.mk (blk_below (g := gb341) (o := .cells #[.int .i64 t336, .int .i64 t337, .int .i64 t338, .string t339] 43 (0, 0)) (by (with_reducible repeat (first | refine blk_drewN ?_ _ | refine blk_drew ?_ | refine blk_alloc ?_ _)); exact BK341.out) hb); have n2_ := Aside0.mk (below_step (by repeat (first | (with_reducible first | exact HB.out | apply below_alloc | apply pw_below_drewN | apply below_drew1 | refine below_set ?_ GE335.out | refine below_set ?_ GE341.out) | exact HB.out)) hb); clear BK335; clear BK341; clear HB; have BK335 := n0_; have BK341 := n1_; have HB := n2_; clear n0_ n1_ n2_; (try clear hb); (try clear hb2); (try clear hk); (try clear hi); have hcz31_0 : w30.cell? ⟨gb335, 0, none⟩ = some (.int .i64 t330) := (blk_cell BK335.out 0).trans rfl; have hcz31_1 : w30.cell? ⟨gb335, 1, none⟩ = some (.int .i64 t331) := (blk_cell BK335.out 1).trans rfl; have hcz31_2 : w30.cell? ⟨gb335, 2, none⟩ = some (.int .i64 t332) := (blk_cell BK335.out 2).trans rfl; have hcz31_3 : w30.cell? ⟨gb335, 3, none⟩ = some (.string t333) := (blk_cell BK335.out 3).trans rfl; have hfz31_0 := blk_frozen BK335.out 0; have hfz31_1 := blk_frozen BK335.out 1; have hfz31_2 := blk_frozen BK335.out 2; have hfz31_3 := blk_frozen BK335.out 3; have hcz32_0 : w30.cell? ⟨gb341, 0, none⟩ = some (.int .i64 t336) := (blk_cell BK341.out 0).trans rfl; have hcz32_1 : w30.cell? ⟨gb341, 1, none⟩ = some (.int .i64 t337) := (blk_cell BK341.out 1).trans rfl; have hcz32_2 : w30.cell? ⟨gb341, 2, none⟩ = some (.int .i64 t338) := (blk_cell BK341.out 2).trans rfl; have hcz32_3 : w30.cell? ⟨gb341, 3, none⟩ = some (.string t339) := (blk_cell BK341.out 3).trans rfl; have hfz32_0 := blk_frozen BK341.out 0; have hfz32_1 := blk_frozen BK341.out 1; have hfz32_2 := blk_frozen BK341.out 2; have hfz32_3 := blk_frozen BK341.out 3) | (go_at_call 43; (with_reducible refine (table_Of.calls kj3 _ _ l0 a2 t344 _ ?side1 ?side2 A17.out).mono ?_); (case side1 => repeat (first | exact (Kd.C_below HR0.out HB.out) | (with_reducible refine Kd.C_alloc ?_ _) | (with_reducible refine Kd.C_drewN ?_ _) | (with_reducible refine Kd.C_drew ?_))); (case side2 => exact HC0.out); rintro e w33 ⟨v345, rfl, ho0, hb⟩; have n0_ := Aside0.mk (Kd.R_lower (Kd.R_newB (Kd.R_newB ho0 (g := gb335) (o := .cells #[.int .i64 t330, .int .i64 t331, .int .i64 t332, .string t333] 43 (0, 0)) (by (with_reducible repeat (first | refine blk_drewN ?_ _ | refine blk_drew ?_ | refine blk_alloc ?_ _)); exact BK335.out)) (g := gb341) (o := .cells #[.int .i64 t336, .int .i64 t337, .int .i64 t338, .string t339] 43 (0, 0)) (by (with_reducible repeat (first | refine blk_drewN ?_ _ | refine blk_drew ?_ | refine blk_alloc ?_ _)); exact BK341.out)) (below_size (by repeat (first | (with_reducible first | exact HB.out | apply below_alloc | apply pw_below_drewN | apply below_drew1 | refine below_set ?_ GE335.out | refine below_set ?_ GE341.out) | exact HB.out)))); have n1_ := Aside0.mk (blk_below (g := gb335) (o := .cells #[.int .i64 t330, .int .i64 t331, .int .i64 t332, .string t333] 43 (0, 0)) (by (with_reducible repeat (first | refine blk_drewN ?_ _ | refine blk_drew ?_ | refine blk_alloc ?_ _)); exact BK335.out) hb); have n2_ := Aside0.mk (blk_below (g := gb341) (o := .cells #[.int .i64 t336, .int .i64 t337, .int .i64 t338, .string t339] 43 (0, 0)) (by (with_reducible repeat (first | refine blk_drewN ?_ _ | refine blk_drew ?_ | refine blk_alloc ?_ _)); exact BK341.out) hb); have n3_ := Aside0.mk (below_step (by repeat (first | (with_reducible first | exact HB.out | apply below_alloc | apply pw_below_drewN | apply below_drew1 | refine below_set ?_ GE335.out | refine below_set ?_ GE341.out) | exact HB.out)) hb); clear BK335; clear BK341; clear HB; have HO346 := n0_; have BK335 := n1_; have BK341 := n2_; have HB := n3_; clear n0_ n1_ n2_ n3_; (try clear hb); (try clear hb2); (try clear hk); (try clear hi); (try clear ho0)) | (go_at_call 44; (with_reducible refine (boarderref12_Of.calls kj3 _ _ l0 a2 t347 _ ?side1 ?side2 A18.out).mono ?_); (case side1 => repeat (first | exact (Kd.C_below HR0.out HB.out) | (with_reducible refine Kd.C_alloc ?_ _) | (with_reducible refine Kd.C_drewN ?_ _) | (with_reducible refine Kd.C_drew ?_))); (case side2 => exact HC0.out); rintro e w34 ⟨v348, rfl, ho0, hb⟩; have n0_ := Aside0.mk (Kd.R_elder' (by (with_reducible repeat (first | apply Kd.R_alloc | apply Kd.R_drewN | apply Kd.R_drew)); exact HO346.out) (Kd.R_base ho0) hb); have n1_ := Aside0.mk (Kd.R_lower (Kd.R_newB (Kd.R_newB (Kd.R_new' ho0 (Kd.R_lt (by (with_reducible repeat (first | apply Kd.R_alloc | apply Kd.R_drewN | apply Kd.R_drew)); exact HO346.out))) (g := gb335) (o := .cells #[.int .i64 t330, .int .i64 t331, .int .i64 t332, .string t333] 43 (0, 0)) (by (with_reducible repeat (first | refine blk_drewN ?_ _ | refine blk_drew ?_ | refine blk_alloc ?_ _)); exact BK335.out)) (g := gb341) (o := .cells #[.int .i64 t336, .int .i64 t337, .int .i64 t338, .string t339] 43 (0, 0)) (by (with_reducible repeat (first | refine blk_drewN ?_ _ | refine blk_drew ?_ | refine blk_alloc ?_ _)); exact BK341.out)) (below_size (by repeat (first | (with_reducible first | exact HB.out | apply below_alloc | apply pw_below_drewN | apply below_drew1 | refine below_set ?_ GE335.out | refine below_set ?_ GE341.out) | exact HB.out)))); have n2_ := Aside0.mk (blk_below (g := gb335) (o := .cells #[.int .i64 t330, .int .i64 t331, .int .i64 t332, .string t333] 43 (0, 0)) (by (with_reducible repeat (first | refine blk_drewN ?_ _ | refine blk_drew ?_ | refine blk_alloc ?_ _)); exact BK335.out) hb); have n3_ := Aside0.mk (blk_below (g := gb341) (o := .cells #[.int .i64 t336, .int .i64 t337, .int .i64 t338, .string t339] 43 (0, 0)) (by (with_reducible repeat (first | refine blk_drewN ?_ _ | refine blk_drew ?_ | refine blk_alloc ?_ _)); exact BK341.out) hb); have n4_ := Aside0.mk (below_step (by repeat (first | (with_reducible first | exact HB.out | apply below_alloc | apply pw_below_drewN | apply below_drew1 | refine below_set ?_ GE335.out | refine below_set ?_ GE341.out) | exact HB.out)) hb); clear HO346; clear BK335; clear BK341; clear HB; have HO346 := n0_; have HO349 := n1_; have BK335 := n2_; have BK341 := n3_; have HB := n4_; clear n0_ n1_ n2_ n3_ n4_; (try clear hb); (try clear hb2); (try clear hk); (try clear hi); (try clear ho0); obtain ⟨Ao35, co35, eo35⟩ := Kd.R_slice HO346.out; subst eo35; obtain ⟨Ao36, co36, eo36⟩ := Kd.R_slice HO349.out; subst eo36) | (go_at_call 36; (with_reducible refine (boarderref10_SameLeases.calls kj3 _ _ t344 _ _ t347 true _ ?side1 ?side2 ?side3 ?side4 A19.out).mono ?_); (case side1 => repeat (first | exact (Kd.R_reads' HO346.out).2.2 | (with_reducible refine Kd.C_alloc ?_ _) | (with_reducible refine Kd.C_drewN ?_ _) | (with_reducible refine Kd.C_drew ?_))); (case side2 => exact (Kd.R_reads' HO346.out).2.1); (case side3 => repeat (first | exact (Kd.R_reads' HO349.out).2.2 | (with_reducible refine Kd.C_alloc ?_ _) | (with_reducible refine Kd.C_drewN ?_ _) | (with_reducible refine Kd.C_drew ?_))); (case side4 => exact (Kd.R_reads' HO349.out).2.1); rintro e w' ⟨rfl, ⟨nd, rfl⟩⟩) | (go_at_call 33; (with_reducible refine (boarderlaw12_knows.calls kj3  t351 _ A21.out).mono ?_); rintro e w37 ⟨rfl, hb⟩; have n0_ := Aside0.mk (Kd.R_below (by (with_reducible repeat (first | apply Kd.R_alloc | apply Kd.R_drewN | apply Kd.R_drew)); exact HO346.out) hb); have n1_ := Aside0.mk (Kd.R_below (by (with_reducible repeat (first | apply Kd.R_alloc | apply Kd.R_drewN | apply Kd.R_drew)); exact HO349.out) hb); have n2_ := Aside0.mk (blk_below (g := gb335) (o := .cells #[.int .i64 t330, .int .i64 t331, .int .i64 t332, .string t333] 43 (0, 0)) (by (with_reducible repeat (first | refine blk_drewN ?_ _ | refine blk_drew ?_ | refine blk_alloc ?_ _)); exact BK335.out) hb); have n3_ := Aside0.mk (blk_below (g := gb341) (o := .cells #[.int .i64 t336, .int .i64 t337, .int .i64 t338, .string t339] 43 (0, 0)) (by (with_reducible repeat (first | refine blk_drewN ?_ _ | refine blk_drew ?_ | refine blk_alloc ?_ _)); exact BK341.out) hb); have n4_ := Aside0.mk (below_step (by repeat (first | (with_reducible first | exact HB.out | apply below_alloc | apply pw_below_drewN | apply below_drew1 | refine below_set ?_ GE335.out | refine below_set ?_ GE341.out) | exact HB.out)) hb); clear HO346; clear HO349; clear BK335; clear BK341; clear HB; have HO346 := n0_; have HO349 := n1_; have BK335 := n2_; have BK341 := n3_; have HB := n4_; clear n0_ n1_ n2_ n3_ n4_; (try clear hb); (try clear hb2); (try clear hk); (try clear hi)))
                go_ret
                exact ⟨by first | rfl | (simp [errW_none, errW_some] <;> rfl) | (simp [*, errW_none, errW_some] <;> rfl), by repeat (first | (with_reducible first | exact HB.out | apply below_alloc | apply pw_below_drewN | apply below_drew1 | refine below_set ?_ GE335.out | refine below_set ?_ GE341.out) | exact HB.out)⟩
              · replace c20 := Bool.eq_false_iff.mpr c20
                subst c20
                have H1 : (none) = some r := by rw [if_neg (show ¬ (false = true) by decide)] at H; exact H
                clear H
                have H := H1
                clear H1
                exact absurd H (by simp)
            · rw [if_neg c16] at H
              exact absurd H (by simp)
          · rw [if_neg c15] at H
            exact absurd H (by simp)
        · rw [if_neg c14] at H
          exact absurd H (by simp)

end Go.Proofs.Ytlabpabnddfllaa.PTable
