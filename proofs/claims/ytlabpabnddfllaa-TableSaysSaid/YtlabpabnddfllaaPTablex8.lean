/- Lean functions for Go functions of the given program, and proofs that the code computes them, each under its theorem's own conditions. Written by a program of this session. -/
import Derived.Test.YtlabpabnddfllaaPTablex0
import Derived.Test.YtlabpabnddfllaaPTablex7
namespace Go.Proofs.Ytlabpabnddfllaa.PTable
open Go.RowKit Go.Proofs.YtlabpabnddfllaaW.PrintWords Go.Proofs.YtlabpabnddfllaaW.PrintLast Go.Proofs.YtlabpabnddfllaaW.PrintMore
attribute [local go_sem] max2_int min2_int max_two min_two max_three min_three max_four min_four   -- for this text's walks alone
set_option linter.unusedVariables false
set_option linter.unusedSimpArgs false

/-! ### boarderref12_Get: function 42 -/
def boarderref12_Get.l0 : Nat → List (S43) → Int → Int → Option (Int × Int × Int × ByteArray × Bool)
  | 0, _, _, _ => none
  | k + 1, x0, x1, x6 => if x6 < (x0.length : Int) then (if 0 ≤ x6 then (if ((rd_T43 x0 x6).f0) = x1 then (some ((rd_T43 x0 x6).f0, (rd_T43 x0 x6).f1, (rd_T43 x0 x6).f2, (rd_T43 x0 x6).f3, true)) else (boarderref12_Get.l0 k x0 x1 (wrap64 (x6 + 1)))) else (none)) else (some (0, 0, 0, (⟨#[]⟩ : ByteArray), false))
def boarderref12_Get.f (k : Nat) (l0 : List (S43)) (a1 : Int) : Option (Int × Int × Int × ByteArray × Bool) := (boarderref12_Good.f k l0).bind fun t310 => (boarderref12_Get.l0 k t310 a1 0)
theorem boarderref12_Get.mono_l : ∀ k, (∀ y0 y1 y2, LeO (boarderref12_Get.l0 k y0 y1 y2) (boarderref12_Get.l0 (k + 1) y0 y1 y2))
  | 0 => fun _ _ _ r h => by simp [boarderref12_Get.l0] at h
  | k + 1 => by
    have ih0 := boarderref12_Get.mono_l k
    · intro y0 y1 y2
      unfold boarderref12_Get.l0
      repeat' first
      | (with_reducible exact ih0 _ _ _)
      | (with_reducible exact boarderref12_Good.mono _ _)
      | (with_reducible exact LeO.refl _)
      | (with_reducible exact LeO.none _)
      | (with_reducible refine LeO.ite ?_ ?_)
      | (with_reducible refine LeO.bind ?_ (fun _ => ?_))
      | exact ih0 _ _ _
      | exact boarderref12_Good.mono _ _
      | exact LeO.none _
      | refine LeO.ite ?_ ?_
      | refine LeO.bind ?_ (fun _ => ?_)
theorem boarderref12_Get.mono : ∀ a0 a1 k, LeO (boarderref12_Get.f k a0 a1) (boarderref12_Get.f (k + 1) a0 a1) := by
  intro a0 a1 k
  have ih0 := boarderref12_Get.mono_l k
  unfold boarderref12_Get.f
  repeat' first
      | (with_reducible exact ih0 _ _ _)
      | (with_reducible exact boarderref12_Good.mono _ _)
      | (with_reducible exact LeO.refl _)
      | (with_reducible exact LeO.none _)
      | (with_reducible refine LeO.ite ?_ ?_)
      | (with_reducible refine LeO.bind ?_ (fun _ => ?_))
      | exact ih0 _ _ _
      | exact boarderref12_Good.mono _ _
      | exact LeO.none _
      | refine LeO.ite ?_ ?_
      | refine LeO.bind ?_ (fun _ => ?_)
set_option maxHeartbeats 8000000 in
set_option maxRecDepth 100000 in
theorem boarderref12_Get.calls (k : Nat) (A0 : Option Addr) (c0 : Nat) (l0 : List (S43)) (a1 : Int) (r1 : Int) (r2 : Int) (r3 : Int) (r4 : ByteArray) (r5 : Bool) (w : World) (hr0 : Kd.C k43 w A0 l0.length l0) (hc0 : l0.length ≤ c0) (h : boarderref12_Get.f k l0 a1 = some (r1, r2, r3, r4, r5)) :
    Calls Try.prog 42 #[.slice A0 l0.length c0, .int .i64 a1] w fun e w' => e = .returned (.tuple #[.agg #[.int .i64 r1, .int .i64 r2, .int .i64 r3, .string r4], .bool r5]) ∧ Below w.heap.size w w' := by
  have hu43 := Try.underlying43
  have HR0 := Aside0.mk hr0
  have HC0 := Aside0.mk hc0
  clear hr0 hc0
  have HB := Aside0.mk (Below.refl w.heap.size w)
  have H : ((boarderref12_Good.f k l0).bind fun t310 => (boarderref12_Get.l0 k t310 a1 0)) = some (r1, r2, r3, r4, r5) := h
  clear h
  replace H := Option.bind_eq_some_iff.mp H
  obtain ⟨t310, A30, H⟩ := H
  replace H : (boarderref12_Get.l0 k t310 a1 0) = some (r1, r2, r3, r4, r5) := H
  have A3 := Aside0.mk A30
  clear A30
  have H' := Aside0.mk H
  clear H
  go_enter Try.func42, Try.ntmps42
  go_wp2_with (first | ((with_reducible refine gate_dst (N := 4) rfl ?_); refine box_event ?hg (N := 4) ?hd (cs := #[.int .i64 0, .int .i64 0, .int .i64 0, .string (⟨#[]⟩ : ByteArray)]) (t := 43) ?hr ?_; (case hd => rfl); (case hg => rfl); (case hr => first | (go_simp; done) | (go_simp; rfl)); intro gb308 hg w4 hbox hb; have n0_ := Aside0.mk (below_step (by repeat (first | (with_reducible first | exact HB.out | apply below_alloc | apply pw_below_drewN | apply below_drew1) | exact HB.out)) hb); have n1_ := Aside0.mk (hbox); have n2_ := Aside0.mk ((by rw [hg]; exact (below_size (by repeat (first | (with_reducible first | exact HB.out | apply below_alloc | apply pw_below_drewN | apply below_drew1) | exact HB.out))) : w.heap.size ≤ gb308)); have n3_ := Aside0.mk ((by rw [hg]; exact (below_size (by repeat (first | (with_reducible first | exact HB.out | apply below_alloc | apply pw_below_drewN | apply below_drew1) | exact HB.out))) : w.heap.size ≤ gb308)); clear HB; have HB := n0_; have BK308 := n1_; have GW308 := n2_; have GE308 := n3_; clear n0_ n1_ n2_ n3_; clear hb hbox hg) | ((with_reducible refine gate_callee (f := 60) rfl ?_); refine goesL_ (some 8) rfl rfl Try.func60 (by kernel_rfl) rfl #[.slice A0 l0.length c0] rfl (by (try simp only [List.map_toArray, List.map_cons, List.map_nil]); first | done | rfl | (simp only [List.length_drop, List.length_take]; rfl)) ?_; (with_reducible refine (boarderref12_Good.calls k _ _ l0 t310 _ ?side1 ?side2 A3.out).mono ?_); (case side1 => repeat (first | exact (Kd.C_below HR0.out HB.out) | (with_reducible refine Kd.C_alloc ?_ _) | (with_reducible refine Kd.C_drewN ?_ _) | (with_reducible refine Kd.C_drew ?_))); (case side2 => exact HC0.out); rintro e w5 ⟨An309, cn309, rfl, hri_, hci_, hb⟩; refine ⟨_, rfl, ?_⟩; have HRn309 := Aside0.mk (hri_ _ HR0.out); have HCn309 := Aside0.mk hci_; clear hri_ hci_; have n0_ := Aside0.mk (blk_below (g := gb308) (o := .cells #[.int .i64 0, .int .i64 0, .int .i64 0, .string (⟨#[]⟩ : ByteArray)] 43 (0, 0)) (by (with_reducible repeat (first | refine blk_drewN ?_ _ | refine blk_drew ?_ | refine blk_alloc ?_ _)); exact BK308.out) hb); have n1_ := Aside0.mk (below_step (by repeat (first | (with_reducible first | exact HB.out | apply below_alloc | apply pw_below_drewN | apply below_drew1 | refine below_set ?_ GE308.out) | exact HB.out)) hb); clear BK308; clear HB; have BK308 := n0_; have HB := n1_; clear n0_ n1_; (try clear hb); (try clear hb2); (try clear hk); (try clear hi)))
  go_loopg [6] k (fun kq v6 w' => ∃ (x6_1 : Int) (x309000_1 : Int) (x309001_1 : Int) (x309002_1 : Int) (x309003_1 : ByteArray), v6 = .int .i64 x6_1 ∧ Aside0 (boarderref12_Get.l0 kq t310 a1 x6_1 = some (r1, r2, r3, r4, r5)) ∧ Aside0 (kq ≤ k) ∧ Aside0 (w'.heap[gb308]? = some (.cells #[.int .i64 x309000_1, .int .i64 x309001_1, .int .i64 x309002_1, .string x309003_1] 43 (0, 0))) ∧ Aside0 (Below w.heap.size w w'))
  case atStart => exact ⟨(0), (0), (0), (0), ((⟨#[]⟩ : ByteArray)), (by first | rfl | (simp; done) | (simp [*]; done)), H', ⟨Nat.le_refl _⟩, ⟨by (with_reducible repeat (first | refine blk_drewN ?_ _ | refine blk_drew ?_ | refine blk_alloc ?_ _)); exact BK308.out⟩, ⟨by repeat (first | (with_reducible first | exact HB.out | apply below_alloc | apply pw_below_drewN | apply below_drew1 | refine below_set ?_ GE308.out) | exact HB.out)⟩⟩
  case round =>
    clear H'
    try clear p2
    try clear c4
    obtain ⟨x6_1, x309000_1, x309001_1, x309002_1, x309003_1, rfl, HA, HK1, BK308, HB⟩ := hrel
    cases gk with
    | zero => exact absurd HA.out (by simp [boarderref12_Get.l0])
    | succ k1 =>
      have H := HA.out
      clear HA
      simp only [boarderref12_Get.l0] at H
      by_cases c6 : x6_1 < (t310.length : Int)
      · rw [if_pos c6] at H
        have c6b0 : decide (x6_1 < (t310.length : Int)) = true := decide_eq_true c6
        clear c6
        by_cases c7 : 0 ≤ x6_1
        · rw [if_pos c7] at H
          have c7b0 : decide (0 ≤ x6_1) = true := decide_eq_true c7
          clear c7
          by_cases c8 : ((rd_T43 t310 x6_1).f0) = a1
          · rw [if_pos c8] at H
            have c8b0 : (((rd_T43 t310 x6_1).f0) == a1) = true := beq_iff_eq.mpr c8
            have c8b1 : (((rd_T43 t310 x6_1).f0) != a1) = false := bne_eq_false_iff_eq.mpr c8
            clear c8
            simp only [Option.some.injEq, Prod.mk.injEq] at H
            obtain ⟨rfl, rfl, rfl, rfl, rfl⟩ := H
            have p311 : 0 ≤ (x6_1 : Int) := of_decide_eq_true (by first | (with_reducible assumption) | assumption)
            have q311 : x6_1 < (t310.length : Int) := of_decide_eq_true (by first | (with_reducible assumption) | assumption)
            obtain ⟨ad311, e311, hx311_0, hx311_1, hx311_2, hx311_3⟩ := at_T43 HRn309.out x6_1 p311 q311
            cases e311
            replace hx311_0 := (HB.out.cell (World.block_lt_of_cell? w _ hx311_0)).trans hx311_0
            replace hx311_1 := (HB.out.cell (World.block_lt_of_cell? w _ hx311_1)).trans hx311_1
            replace hx311_2 := (HB.out.cell (World.block_lt_of_cell? w _ hx311_2)).trans hx311_2
            replace hx311_3 := (HB.out.cell (World.block_lt_of_cell? w _ hx311_3)).trans hx311_3
            replace p311 := eq_true p311
            replace q311 := eq_true q311
            have p312 : 0 ≤ (x6_1 : Int) := of_decide_eq_true (by first | (with_reducible assumption) | assumption)
            have q312 : x6_1 < (t310.length : Int) := of_decide_eq_true (by first | (with_reducible assumption) | assumption)
            obtain ⟨ad312, e312, hx312_0, hx312_1, hx312_2, hx312_3⟩ := at_T43 HRn309.out x6_1 p312 q312
            obtain rfl : ad311 = ad312 := (by injection e312)
            replace hx312_0 := (HB.out.cell (World.block_lt_of_cell? w _ hx312_0)).trans hx312_0
            replace hx312_1 := (HB.out.cell (World.block_lt_of_cell? w _ hx312_1)).trans hx312_1
            replace hx312_2 := (HB.out.cell (World.block_lt_of_cell? w _ hx312_2)).trans hx312_2
            replace hx312_3 := (HB.out.cell (World.block_lt_of_cell? w _ hx312_3)).trans hx312_3
            replace p312 := eq_true p312
            replace q312 := eq_true q312
            have hcz9_0 : wr.cell? ⟨gb308, 0, none⟩ = some (.int .i64 x309000_1) := (blk_cell BK308.out 0).trans rfl
            have hcz9_1 : wr.cell? ⟨gb308, 1, none⟩ = some (.int .i64 x309001_1) := (blk_cell BK308.out 1).trans rfl
            have hcz9_2 : wr.cell? ⟨gb308, 2, none⟩ = some (.int .i64 x309002_1) := (blk_cell BK308.out 2).trans rfl
            have hcz9_3 : wr.cell? ⟨gb308, 3, none⟩ = some (.string x309003_1) := (blk_cell BK308.out 3).trans rfl
            have hfz9_0 := blk_frozen BK308.out 0
            have hfz9_1 := blk_frozen BK308.out 1
            have hfz9_2 := blk_frozen BK308.out 2
            have hfz9_3 := blk_frozen BK308.out 3
            go_wp2
            refine bodyPost_ret (results_ct rfl _ _ gb308 43 #[.int .i64 ((rd_T43 t310 x6_1).f0), .int .i64 ((rd_T43 t310 x6_1).f1), .int .i64 ((rd_T43 t310 x6_1).f2), .string ((rd_T43 t310 x6_1).f3)] (0, 0) _ rfl (by (with_reducible repeat (first | refine blk_drewN ?_ _ | refine blk_drew ?_ | refine blk_alloc ?_ _)); refine blk_put (cs := #[.int .i64 ((rd_T43 t310 x6_1).f0), .int .i64 ((rd_T43 t310 x6_1).f1), .int .i64 ((rd_T43 t310 x6_1).f2), .string x309003_1]) ?_ 3 _ rfl; (with_reducible repeat (first | refine blk_drewN ?_ _ | refine blk_drew ?_ | refine blk_alloc ?_ _)); refine blk_put (cs := #[.int .i64 ((rd_T43 t310 x6_1).f0), .int .i64 ((rd_T43 t310 x6_1).f1), .int .i64 x309002_1, .string x309003_1]) ?_ 2 _ rfl; (with_reducible repeat (first | refine blk_drewN ?_ _ | refine blk_drew ?_ | refine blk_alloc ?_ _)); refine blk_put (cs := #[.int .i64 ((rd_T43 t310 x6_1).f0), .int .i64 x309001_1, .int .i64 x309002_1, .string x309003_1]) ?_ 1 _ rfl; (with_reducible repeat (first | refine blk_drewN ?_ _ | refine blk_drew ?_ | refine blk_alloc ?_ _)); refine blk_put (cs := #[.int .i64 x309000_1, .int .i64 x309001_1, .int .i64 x309002_1, .string x309003_1]) ?_ 0 _ rfl; (with_reducible repeat (first | refine blk_drewN ?_ _ | refine blk_drew ?_ | refine blk_alloc ?_ _)); exact BK308.out) Try.underlying43 rfl (by kernel_rfl)) rfl ?_
            exact ⟨by first | rfl | (simp [errW_none, errW_some] <;> rfl) | (simp [*, errW_none, errW_some] <;> rfl), by repeat (first | (with_reducible first | exact HB.out | apply below_alloc | apply pw_below_drewN | apply below_drew1 | refine below_set ?_ GE308.out) | exact HB.out)⟩
          · rw [if_neg c8] at H
            have c8b0 : (((rd_T43 t310 x6_1).f0) == a1) = false := beq_eq_false_iff_ne.mpr c8
            have c8b1 : (((rd_T43 t310 x6_1).f0) != a1) = true := bne_iff_ne.mpr c8
            have H' := Aside0.mk H
            clear H
            have p311 : 0 ≤ (x6_1 : Int) := of_decide_eq_true (by first | (with_reducible assumption) | assumption)
            have q311 : x6_1 < (t310.length : Int) := of_decide_eq_true (by first | (with_reducible assumption) | assumption)
            obtain ⟨ad311, e311, hx311_0, hx311_1, hx311_2, hx311_3⟩ := at_T43 HRn309.out x6_1 p311 q311
            cases e311
            replace hx311_0 := (HB.out.cell (World.block_lt_of_cell? w _ hx311_0)).trans hx311_0
            replace hx311_1 := (HB.out.cell (World.block_lt_of_cell? w _ hx311_1)).trans hx311_1
            replace hx311_2 := (HB.out.cell (World.block_lt_of_cell? w _ hx311_2)).trans hx311_2
            replace hx311_3 := (HB.out.cell (World.block_lt_of_cell? w _ hx311_3)).trans hx311_3
            replace p311 := eq_true p311
            replace q311 := eq_true q311
            go_wp2
            go_roundg k1
            case measure => have := HK1.out; omega
            case rel => exact ⟨(wrap64 (x6_1 + 1)), (x309000_1), (x309001_1), (x309002_1), (x309003_1), (by first | rfl | (simp; done) | (simp [*]; done)), H', ⟨by have := HK1.out; omega⟩, ⟨by (with_reducible repeat (first | refine blk_drewN ?_ _ | refine blk_drew ?_ | refine blk_alloc ?_ _)); exact BK308.out⟩, ⟨by repeat (first | (with_reducible first | exact HB.out | apply below_alloc | apply pw_below_drewN | apply below_drew1 | refine below_set ?_ GE308.out) | exact HB.out)⟩⟩
        · rw [if_neg c7] at H
          exact absurd H (by simp)
      · rw [if_neg c6] at H
        have c6b0 : decide (x6_1 < (t310.length : Int)) = false := decide_eq_false c6
        clear c6
        simp only [Option.some.injEq, Prod.mk.injEq] at H
        obtain ⟨rfl, rfl, rfl, rfl, rfl⟩ := H
        have hcz10_0 : wr.cell? ⟨gb308, 0, none⟩ = some (.int .i64 x309000_1) := (blk_cell BK308.out 0).trans rfl
        have hcz10_1 : wr.cell? ⟨gb308, 1, none⟩ = some (.int .i64 x309001_1) := (blk_cell BK308.out 1).trans rfl
        have hcz10_2 : wr.cell? ⟨gb308, 2, none⟩ = some (.int .i64 x309002_1) := (blk_cell BK308.out 2).trans rfl
        have hcz10_3 : wr.cell? ⟨gb308, 3, none⟩ = some (.string x309003_1) := (blk_cell BK308.out 3).trans rfl
        have hfz10_0 := blk_frozen BK308.out 0
        have hfz10_1 := blk_frozen BK308.out 1
        have hfz10_2 := blk_frozen BK308.out 2
        have hfz10_3 := blk_frozen BK308.out 3
        go_wp2
        refine bodyPost_ret (results_ct rfl _ _ gb308 43 #[.int .i64 0, .int .i64 0, .int .i64 0, .string (⟨#[]⟩ : ByteArray)] (0, 0) _ rfl (by (with_reducible repeat (first | refine blk_drewN ?_ _ | refine blk_drew ?_ | refine blk_alloc ?_ _)); refine blk_put (cs := #[.int .i64 0, .int .i64 0, .int .i64 0, .string x309003_1]) ?_ 3 _ rfl; (with_reducible repeat (first | refine blk_drewN ?_ _ | refine blk_drew ?_ | refine blk_alloc ?_ _)); refine blk_put (cs := #[.int .i64 0, .int .i64 0, .int .i64 x309002_1, .string x309003_1]) ?_ 2 _ rfl; (with_reducible repeat (first | refine blk_drewN ?_ _ | refine blk_drew ?_ | refine blk_alloc ?_ _)); refine blk_put (cs := #[.int .i64 0, .int .i64 x309001_1, .int .i64 x309002_1, .string x309003_1]) ?_ 1 _ rfl; (with_reducible repeat (first | refine blk_drewN ?_ _ | refine blk_drew ?_ | refine blk_alloc ?_ _)); refine blk_put (cs := #[.int .i64 x309000_1, .int .i64 x309001_1, .int .i64 x309002_1, .string x309003_1]) ?_ 0 _ rfl; (with_reducible repeat (first | refine blk_drewN ?_ _ | refine blk_drew ?_ | refine blk_alloc ?_ _)); exact BK308.out) Try.underlying43 rfl (by kernel_rfl)) rfl ?_
        exact ⟨by first | rfl | (simp [errW_none, errW_some] <;> rfl) | (simp [*, errW_none, errW_some] <;> rfl), by repeat (first | (with_reducible first | exact HB.out | apply below_alloc | apply pw_below_drewN | apply below_drew1 | refine below_set ?_ GE308.out) | exact HB.out)⟩

end Go.Proofs.Ytlabpabnddfllaa.PTable
