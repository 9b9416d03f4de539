/- Lean functions for Go functions of the given program, and proofs that the code computes them, each under its theorem's own conditions. Written by a program of this session. -/
import Derived.Test.YtkjmfnijagdhpaaPQueuex0
import Derived.Test.YtkjmfnijagdhpaaPQueuex1
import Derived.Test.YtkjmfnijagdhpaaPQueuex2
import Derived.Test.YtkjmfnijagdhpaaPQueuex3
namespace Go.Proofs.Ytkjmfnijagdhpaa.PQueue
open Go.RowKit Go.Proofs.YtkjmfnijagdhpaaW.PrintWords Go.Proofs.YtkjmfnijagdhpaaW.PrintLast Go.Proofs.YtkjmfnijagdhpaaW.PrintMore
attribute [local go_sem] max2_int min2_int max_two min_two max_three min_three max_four min_four   -- for this text's walks alone
set_option linter.unusedVariables false
set_option linter.unusedSimpArgs false

attribute [local go_sem high] eqA34
/-! ### table_Holds: function 33 -/
def table_Holds.f (a0_0 : Int) (a0_1 : Int) (a0_2 : Int) (a0_3 : ByteArray) (a1 : Int) : Option (Bool) := if a0_1 = 1 then (some (decide (a1 < a0_2))) else (some false)
set_option maxHeartbeats 8000000 in
set_option maxRecDepth 100000 in
theorem table_Holds.calls (a0_0 : Int) (a0_1 : Int) (a0_2 : Int) (a0_3 : ByteArray) (a1 : Int) (r : Bool) (w : World) (h : table_Holds.f a0_0 a0_1 a0_2 a0_3 a1 = some r) :
    Calls Try.prog 33 #[.agg #[.int .i64 a0_0, .int .i64 a0_1, .int .i64 a0_2, .string a0_3], .int .i64 a1] w fun e w' => e = .returned (.bool r) ∧ Below w.heap.size w w' := by
 have hu34 := Try.underlying34
 have HB := Aside0.mk (Below.refl w.heap.size w)
 have H : (if a0_1 = 1 then (some (decide (a1 < a0_2))) else (some false)) = some r := h
 clear h
 by_cases c3 : a0_1 = 1
 rotate_left
 · rw [if_neg c3] at H
   have c3b0 : (a0_1 == 1) = false := beq_eq_false_iff_ne.mpr c3
   have c3b1 : (a0_1 != 1) = true := bne_iff_ne.mpr c3
   obtain rfl := Option.some.inj H
   go_enter Try.func33, Try.ntmps33
   go_wp2_with (first | ((with_reducible refine gate_dst (N := 2) rfl ?_); refine box_event rfl (N := 2) rfl (cs := #[.int .i64 a0_0, .int .i64 a0_1, .int .i64 a0_2, .string a0_3]) (t := 34) sqs ?_; intro gb149 hg w6 hbox hb; have BK149 := sqM (hbox); have GW149 := sqM (sqZ hg (sqB HB.out)); have GE149 := sqM (sqZ hg (sqB HB.out)); replace HB := sqM (below_step (sqB HB.out) hb); clear hb hbox hg; obtain ⟨hcz7_0, hcz7_1, hcz7_2, hcz7_3, hfz7_0, hfz7_1, hfz7_2, hfz7_3⟩ := sqF4 BK149.out))
   go_ret
   exact ⟨sqE, sqB1 HB.out GE149.out⟩
 rw [if_pos c3] at H
 have c3b0 : (a0_1 == 1) = true := beq_iff_eq.mpr c3
 have c3b1 : (a0_1 != 1) = false := bne_eq_false_iff_eq.mpr c3
 clear c3
 obtain rfl := Option.some.inj H
 go_enter Try.func33, Try.ntmps33
 go_wp2_with (first | ((with_reducible refine gate_dst (N := 2) rfl ?_); refine box_event rfl (N := 2) rfl (cs := #[.int .i64 a0_0, .int .i64 a0_1, .int .i64 a0_2, .string a0_3]) (t := 34) sqs ?_; intro gb149 hg w4 hbox hb; have BK149 := sqM (hbox); have GW149 := sqM (sqZ hg (sqB HB.out)); have GE149 := sqM (sqZ hg (sqB HB.out)); replace HB := sqM (below_step (sqB HB.out) hb); clear hb hbox hg; obtain ⟨hcz5_0, hcz5_1, hcz5_2, hcz5_3, hfz5_0, hfz5_1, hfz5_2, hfz5_3⟩ := sqF4 BK149.out))
 go_ret
 exact ⟨sqE, sqB1 HB.out GE149.out⟩

/-! ### queue_counts: function 28 -/
def queue_counts.f (a0_0 : Int) (a0_1 : Int) (a0_2 : Int) (a0_3 : ByteArray) (a1 : Int) : Option (Bool) := (table_Holds.f a0_0 a0_1 a0_2 a0_3 a1).bind fun t151 => (if t151 = true then (some true) else ((table_Rests.f a0_0 a0_1 a0_2 a0_3 a1).bind fun t152 => (some t152)))
set_option maxHeartbeats 8000000 in
set_option maxRecDepth 100000 in
theorem queue_counts.calls (a0_0 : Int) (a0_1 : Int) (a0_2 : Int) (a0_3 : ByteArray) (a1 : Int) (r : Bool) (w : World) (h : queue_counts.f a0_0 a0_1 a0_2 a0_3 a1 = some r) :
    Calls Try.prog 28 #[.agg #[.int .i64 a0_0, .int .i64 a0_1, .int .i64 a0_2, .string a0_3], .int .i64 a1] w fun e w' => e = .returned (.bool r) ∧ Below w.heap.size w w' := by
 have hu34 := Try.underlying34
 have HB := Aside0.mk (Below.refl w.heap.size w)
 have H : ((table_Holds.f a0_0 a0_1 a0_2 a0_3 a1).bind fun t151 => (if t151 = true then (some true) else ((table_Rests.f a0_0 a0_1 a0_2 a0_3 a1).bind fun t152 => (some t152)))) = some r := h
 clear h
 replace H := Option.bind_eq_some_iff.mp H
 obtain ⟨t151, A30, H⟩ := H
 replace H : (if t151 = true then (some true) else ((table_Rests.f a0_0 a0_1 a0_2 a0_3 a1).bind fun t152 => (some t152))) = some r := H
 have A3 := Aside0.mk A30
 clear A30
 by_cases c4 : t151 = true
 · subst c4
   have H1 : (some true) = some r := by rw [if_pos rfl] at H; exact H
   clear H
   have H := H1
   clear H1
   obtain rfl := Option.some.inj H
   go_enter Try.func28, Try.ntmps28
   go_wp2_with (first | ((with_reducible refine gate_dst (N := 2) rfl ?_); refine box_event rfl (N := 2) rfl (cs := #[.int .i64 a0_0, .int .i64 a0_1, .int .i64 a0_2, .string a0_3]) (t := 34) sqs ?_; intro gb150 hg w5 hbox hb; have BK150 := sqM (hbox); have GW150 := sqM (sqZ hg (sqB HB.out)); have GE150 := sqM (sqZ hg (sqB HB.out)); replace HB := sqM (below_step (sqB HB.out) hb); clear hb hbox hg; obtain ⟨hcz6_0, hcz6_1, hcz6_2, hcz6_3, hfz6_0, hfz6_1, hfz6_2, hfz6_3⟩ := sqF4 BK150.out) | ((with_reducible refine gate_callee (f := 33) rfl ?_); refine goesL_ (some 7) rfl rfl Try.func33 (by kernel_rfl) rfl #[.agg #[.int .i64 a0_0, .int .i64 a0_1, .int .i64 a0_2, .string a0_3], .int .i64 a1] rfl sqA ?_; (with_reducible refine (table_Holds.calls _ _ _ _ _ _ _ A3.out).mono ?_); rintro e w7 ⟨rfl, hb⟩; refine ⟨_, rfl, ?_⟩; replace BK150 := sqM (blk_below (sqK BK150.out) hb); replace HB := sqM (below_step (sqB1 HB.out GE150.out) hb); (try clear hb); (try clear hb2); (try clear hk); (try clear hi)))
   go_ret
   exact ⟨sqE, sqB1 HB.out GE150.out⟩
 replace c4 := Bool.eq_false_iff.mpr c4
 subst c4
 have H1 : ((table_Rests.f a0_0 a0_1 a0_2 a0_3 a1).bind fun t152 => (some t152)) = some r := by rw [if_neg (show ¬ (false = true) by decide)] at H; exact H
 clear H
 have H := H1
 clear H1
 replace H := Option.bind_eq_some_iff.mp H
 obtain ⟨t152, A80, H⟩ := H
 replace H : (some t152) = some r := H
 have A8 := Aside0.mk A80
 clear A80
 obtain rfl := Option.some.inj H
 go_enter Try.func28, Try.ntmps28
 go_wp2_with (first | ((with_reducible refine gate_dst (N := 2) rfl ?_); refine box_event rfl (N := 2) rfl (cs := #[.int .i64 a0_0, .int .i64 a0_1, .int .i64 a0_2, .string a0_3]) (t := 34) sqs ?_; intro gb150 hg w9 hbox hb; have BK150 := sqM (hbox); have GW150 := sqM (sqZ hg (sqB HB.out)); have GE150 := sqM (sqZ hg (sqB HB.out)); replace HB := sqM (below_step (sqB HB.out) hb); clear hb hbox hg; obtain ⟨hcz10_0, hcz10_1, hcz10_2, hcz10_3, hfz10_0, hfz10_1, hfz10_2, hfz10_3⟩ := sqF4 BK150.out) | ((with_reducible refine gate_callee (f := 33) rfl ?_); refine goesL_ (some 7) rfl rfl Try.func33 (by kernel_rfl) rfl #[.agg #[.int .i64 a0_0, .int .i64 a0_1, .int .i64 a0_2, .string a0_3], .int .i64 a1] rfl sqA ?_; (with_reducible refine (table_Holds.calls _ _ _ _ _ _ _ A3.out).mono ?_); rintro e w11 ⟨rfl, hb⟩; refine ⟨_, rfl, ?_⟩; replace BK150 := sqM (blk_below (sqK BK150.out) hb); replace HB := sqM (below_step (sqB1 HB.out GE150.out) hb); (try clear hb); (try clear hb2); (try clear hk); (try clear hi); obtain ⟨hcz12_0, hcz12_1, hcz12_2, hcz12_3, hfz12_0, hfz12_1, hfz12_2, hfz12_3⟩ := sqF4 BK150.out) | (go_at_call 32; (with_reducible refine (table_Rests.calls _ _ _ _ _ _ _ A8.out).mono ?_); rintro e w13 ⟨rfl, hb⟩; replace BK150 := sqM (blk_below (sqK BK150.out) hb); replace HB := sqM (below_step (sqB1 HB.out GE150.out) hb); (try clear hb); (try clear hb2); (try clear hk); (try clear hi)))
 go_ret
 exact ⟨sqE, sqB1 HB.out GE150.out⟩

/-! ### queue_Next_1: function 27 -/
def queue_Next_1.f (a0_0 : Int) (a0_1 : Int) (a0_2 : Int) (a0_3 : ByteArray) (now : Int) : Option Bool := queue_counts.f a0_0 a0_1 a0_2 a0_3 now
set_option maxHeartbeats 8000000 in
set_option maxRecDepth 100000 in
theorem queue_Next_1.calls (g : Nat) (now : Int) (a0_0 : Int) (a0_1 : Int) (a0_2 : Int) (a0_3 : ByteArray) (r : Bool) (w : World) (hg0 : w.heap[g]? = some (.cells #[.int .i64 now] 3 (0, 0))) (h : queue_counts.f a0_0 a0_1 a0_2 a0_3 now = some r) :
    Calls Try.prog 27 #[.agg #[.int .i64 a0_0, .int .i64 a0_1, .int .i64 a0_2, .string a0_3], .pointer (some ⟨g, 0, none⟩)] w fun e w' => e = .returned (.bool r) ∧ Below w.heap.size w w' := by
 have hu34 := Try.underlying34
 have HB := Aside0.mk (Below.refl w.heap.size w)
 have BK := Aside0.mk hg0
 have HH := Aside0.mk h
 clear hg0 h
 go_enter Try.func27, Try.ntmps27
 go_wp2_with (first | ((with_reducible refine gate_dst (N := 2) rfl ?_); refine box_event rfl (N := 2) rfl (cs := #[.int .i64 a0_0, .int .i64 a0_1, .int .i64 a0_2, .string a0_3]) (t := 34) sqs ?_; intro gl hg w2 hbox hb; replace BK := sqM (blk_below (sqK BK.out) hb); replace HB := sqM (below_step (sqB HB.out) hb); have BKgl := sqM hbox; clear hb hbox hg; have hcgl_0 : w2.cell? ⟨gl, 0, none⟩ = some (.int .i64 a0_0) := (blk_cell BKgl.out 0).trans rfl; have hcgl_1 : w2.cell? ⟨gl, 1, none⟩ = some (.int .i64 a0_1) := (blk_cell BKgl.out 1).trans rfl; have hcgl_2 : w2.cell? ⟨gl, 2, none⟩ = some (.int .i64 a0_2) := (blk_cell BKgl.out 2).trans rfl; have hcgl_3 : w2.cell? ⟨gl, 3, none⟩ = some (.string a0_3) := (blk_cell BKgl.out 3).trans rfl; have hfgl_0 := blk_frozen BKgl.out 0; have hfgl_1 := blk_frozen BKgl.out 1; have hfgl_2 := blk_frozen BKgl.out 2; have hfgl_3 := blk_frozen BKgl.out 3; have hcg_0 : w2.cell? ⟨g, 0, none⟩ = some (.int .i64 now) := (blk_cell BK.out 0).trans rfl; have hfg_0 := blk_frozen BK.out 0) | ((with_reducible refine gate_callee (f := 28) rfl ?_); refine goesL_ (some 6) rfl rfl Try.func28 (by kernel_rfl) rfl #[.agg #[.int .i64 a0_0, .int .i64 a0_1, .int .i64 a0_2, .string a0_3], .int .i64 now] rfl sqA ?_; (with_reducible refine (queue_counts.calls _ _ _ _ _ _ _ HH.out).mono ?_); rintro e w5 ⟨rfl, hb⟩; refine ⟨_, rfl, ?_⟩; have nb_ := sqM (below_step (sqB HB.out) hb); clear HB; have HB := nb_; clear nb_ hb))
 go_ret
 exact ⟨sqE, (sqB HB.out)⟩

/-! ### queue_Next: function 13 -/
def queue_Next.f (k : Nat) (l0 : List (S34)) (a1 : Int) : Option (Int × Bool) := (queue_someG.f (fun x0 x1 x2 x3 => queue_counts.f x0 x1 x2 x3 a1) k l0).bind fun t => (queue_sorter_sorted.f k () t).bind fun s => if (s.length : Int) = 0 then some (0, false) else some ((rd_T34 s 0).f2, true)
theorem queue_Next.mono : ∀ a0 a1 k, LeO (queue_Next.f k a0 a1) (queue_Next.f (k + 1) a0 a1) := by
 intro a0 a1 k
 unfold queue_Next.f
 refine LeO.bind (queue_someG.mono _ _ _) (fun _ => LeO.bind (queue_sorter_sorted.mono _ _ _) (fun _ => LeO.refl _))
set_option maxHeartbeats 8000000 in
set_option maxRecDepth 100000 in
theorem queue_Next.calls (k : Nat) (A0 : Option Addr) (c0 : Nat) (l0 : List (S34)) (a1 : Int) (r1 : Int) (r2 : Bool) (w : World) (hr0 : Kd.C k34 w A0 l0.length l0) (hc0 : l0.length ≤ c0) (h : queue_Next.f k l0 a1 = some (r1, r2)) :
    Calls Try.prog 13 #[.slice A0 l0.length c0, .int .i64 a1] w fun e w' => e = .returned (.tuple #[.int .i64 r1, .bool r2]) ∧ Below w.heap.size w w' := by
 have hu34 := Try.underlying34
 have HR0 := Aside0.mk hr0
 have HC0 := Aside0.mk hc0
 clear hr0 hc0
 have HB := Aside0.mk (Below.refl w.heap.size w)
 have hmf : ∀ (fn : Fn) (first cap : Array Value) (w : World), (Instr.makeFunc fn first cap).run Try.prog w = .ok (.func fn first cap) w := fun _ _ _ _ => rfl
 unfold queue_Next.f at h
 obtain ⟨t, h1, h⟩ := Option.bind_eq_some_iff.mp h
 obtain ⟨s, h2, h⟩ := Option.bind_eq_some_iff.mp h
 have A3 := Aside0.mk h1
 have A4 := Aside0.mk h2
 clear h1 h2
 by_cases c : (s.length : Int) = 0
 · rw [if_pos c] at h
   obtain ⟨rfl, rfl⟩ := Prod.mk.inj (Option.some.inj h)
   have cb : ((s.length : Int) == 0) = true := beq_iff_eq.2 c
   clear h c
   go_enter Try.func13, Try.ntmps13
   go_wp2_with (first | ((with_reducible refine gate_dst (N := 3) rfl ?_); refine box_event rfl (N := 3) rfl (cs := #[.int .i64 a1]) (t := 3) sqs ?_; intro g hg w2 hbox hb; replace HB := sqM (below_step (sqB HB.out) hb); have BKg := sqM hbox; clear hb hbox hg; have hcg_0 : w2.cell? ⟨g, 0, none⟩ = some (.int .i64 a1) := (blk_cell BKg.out 0).trans rfl; have hfg_0 := blk_frozen BKg.out 0) | ((with_reducible refine gate_callee (f := 21) rfl ?_); refine goesL_ (some 7) rfl rfl Try.func21 (by kernel_rfl) rfl #[] rfl sqA ?_; (with_reducible refine (queue_byEnd.calls () _ rfl).mono ?_); rintro e w5 ⟨rfl, hb⟩; refine ⟨_, rfl, ?_⟩; have nb_ := sqM (below_step (sqB HB.out) hb); have n0_ := sqM (blk_below (sqK BKg.out) hb); clear BKg HB; have HB := nb_; have BKg := n0_; clear nb_ hb) | ((with_reducible refine gate_callee (f := 23) rfl ?_); refine goesL_ (some 10) rfl rfl Try.func23 (by kernel_rfl) rfl #[.slice A0 l0.length c0, .func (.func 27) #[] #[.pointer (some ⟨g, 0, none⟩)]] rfl sqA ?_; (refine (queue_some27.calls (fun x0 x1 x2 x3 => queue_counts.f x0 x1 x2 x3 a1) _ _ _ _ _ _ _ ?side1 ?side2 ?side3 A3.out).mono ?_); (case side1 => (repeat (first | exact (Kd.C_below HR0.out HB.out) | (with_reducible refine Kd.C_alloc ?_ _) | (with_reducible refine Kd.C_drewN ?_ _) | (with_reducible refine Kd.C_drew ?_)))); (case side2 => exact HC0.out); (case side3 => exact fun x b w' hb' hp => queue_Next_1.calls g a1 _ _ _ _ b w' (blk_below (sqK BKg.out) hb') hp); rintro e w6 ⟨v143, rfl, ho0, hb⟩; refine ⟨_, rfl, ?_⟩; have HO144 := sqM (Kd.R_lower ho0 (below_size (sqB HB.out))); replace HB := sqM (below_step (sqB HB.out) hb); clear hb ho0; obtain ⟨Ao7, co7, eo7⟩ := Kd.R_slice HO144.out; subst eo7) | ((with_reducible refine gate_callee (f := 22) rfl ?_); refine goesL_ (some 11) rfl rfl Try.func22 (by kernel_rfl) rfl #[.agg #[.func (.func 34) #[] #[]], .slice Ao7 t.length co7] rfl sqA ?_; (with_reducible refine (queue_sorter_sorted.calls _ _ _ _ _ _ _ ?side1 ?side2 A4.out).mono ?_); (case side1 => (repeat (first | exact (Kd.R_reads' HO144.out).2.2 | (with_reducible refine Kd.C_alloc ?_ _) | (with_reducible refine Kd.C_drewN ?_ _) | (with_reducible refine Kd.C_drew ?_)))); (case side2 => exact (Kd.R_reads' HO144.out).2.1); rintro e w8 ⟨v146, rfl, ho0, hb⟩; refine ⟨_, rfl, ?_⟩; have n1_ := sqM (Kd.R_lower (Kd.R_new' ho0 (Kd.R_lt (sqR HO144.out))) (below_size (sqB HB.out))); have n2_ := sqM (below_step (sqB HB.out) hb); clear HO144 HB; have HO147 := n1_; have HB := n2_; clear n1_ n2_; clear hb ho0; obtain ⟨Ao9, co9, eo9⟩ := Kd.R_slice HO147.out; subst eo9))
   go_ret2
   exact ⟨sqE, (sqB HB.out)⟩
 rw [if_neg c] at h
 obtain ⟨rfl, rfl⟩ := Prod.mk.inj (Option.some.inj h)
 have cb : ((s.length : Int) == 0) = false := beq_eq_false_iff_ne.2 c
 have p0 : (0 : Int) ≤ 0 := Int.le_refl _
 have q0 : (0 : Int) < (s.length : Int) := by omega
 clear h
 go_enter Try.func13, Try.ntmps13
 go_wp2_with (first | ((with_reducible refine gate_dst (N := 3) rfl ?_); refine box_event rfl (N := 3) rfl (cs := #[.int .i64 a1]) (t := 3) sqs ?_; intro g hg w2 hbox hb; replace HB := sqM (below_step (sqB HB.out) hb); have BKg := sqM hbox; clear hb hbox hg; have hcg_0 : w2.cell? ⟨g, 0, none⟩ = some (.int .i64 a1) := (blk_cell BKg.out 0).trans rfl; have hfg_0 := blk_frozen BKg.out 0) | ((with_reducible refine gate_callee (f := 21) rfl ?_); refine goesL_ (some 7) rfl rfl Try.func21 (by kernel_rfl) rfl #[] rfl sqA ?_; (with_reducible refine (queue_byEnd.calls () _ rfl).mono ?_); rintro e w5 ⟨rfl, hb⟩; refine ⟨_, rfl, ?_⟩; have nb_ := sqM (below_step (sqB HB.out) hb); have n0_ := sqM (blk_below (sqK BKg.out) hb); clear BKg HB; have HB := nb_; have BKg := n0_; clear nb_ hb) | ((with_reducible refine gate_callee (f := 23) rfl ?_); refine goesL_ (some 10) rfl rfl Try.func23 (by kernel_rfl) rfl #[.slice A0 l0.length c0, .func (.func 27) #[] #[.pointer (some ⟨g, 0, none⟩)]] rfl sqA ?_; (refine (queue_some27.calls (fun x0 x1 x2 x3 => queue_counts.f x0 x1 x2 x3 a1) _ _ _ _ _ _ _ ?side1 ?side2 ?side3 A3.out).mono ?_); (case side1 => (repeat (first | exact (Kd.C_below HR0.out HB.out) | (with_reducible refine Kd.C_alloc ?_ _) | (with_reducible refine Kd.C_drewN ?_ _) | (with_reducible refine Kd.C_drew ?_)))); (case side2 => exact HC0.out); (case side3 => exact fun x b w' hb' hp => queue_Next_1.calls g a1 _ _ _ _ b w' (blk_below (sqK BKg.out) hb') hp); rintro e w6 ⟨v143, rfl, ho0, hb⟩; refine ⟨_, rfl, ?_⟩; have HO144 := sqM (Kd.R_lower ho0 (below_size (sqB HB.out))); replace HB := sqM (below_step (sqB HB.out) hb); clear hb ho0; obtain ⟨Ao7, co7, eo7⟩ := Kd.R_slice HO144.out; subst eo7) | ((with_reducible refine gate_callee (f := 22) rfl ?_); refine goesL_ (some 11) rfl rfl Try.func22 (by kernel_rfl) rfl #[.agg #[.func (.func 34) #[] #[]], .slice Ao7 t.length co7] rfl sqA ?_; (with_reducible refine (queue_sorter_sorted.calls _ _ _ _ _ _ _ ?side1 ?side2 A4.out).mono ?_); (case side1 => (repeat (first | exact (Kd.R_reads' HO144.out).2.2 | (with_reducible refine Kd.C_alloc ?_ _) | (with_reducible refine Kd.C_drewN ?_ _) | (with_reducible refine Kd.C_drew ?_)))); (case side2 => exact (Kd.R_reads' HO144.out).2.1); rintro e w8 ⟨v146, rfl, ho0, hb⟩; refine ⟨_, rfl, ?_⟩; have n1_ := sqM (Kd.R_lower (Kd.R_new' ho0 (Kd.R_lt (sqR HO144.out))) (below_size (sqB HB.out))); have n2_ := sqM (below_step (sqB HB.out) hb); clear HO144 HB; have HO147 := n1_; have HB := n2_; clear n1_ n2_; clear hb ho0; obtain ⟨Ao9, co9, eo9⟩ := Kd.R_slice HO147.out; subst eo9; obtain ⟨ad9, e9, hx9_0, hx9_1, hx9_2, hx9_3⟩ := at_T34 (Kd.R_reads' HO147.out).2.2 0 p0 q0; cases e9; have qi9 : (0 < s.length) = True := eq_true (by omega); (try rw [show ((0 : Int)).toNat = 0 from rfl] at hx9_0); (try rw [show 0 * 4 = 0 from rfl] at hx9_0); (try rw [Addr.add_zero'] at hx9_0); (try rw [show ((0 : Int)).toNat = 0 from rfl] at hx9_1); (try rw [show 0 * 4 = 0 from rfl] at hx9_1); (try rw [Addr.add_zero'] at hx9_1); (try rw [show ((0 : Int)).toNat = 0 from rfl] at hx9_2); (try rw [show 0 * 4 = 0 from rfl] at hx9_2); (try rw [Addr.add_zero'] at hx9_2); (try rw [show ((0 : Int)).toNat = 0 from rfl] at hx9_3); (try rw [show 0 * 4 = 0 from rfl] at hx9_3); (try rw [Addr.add_zero'] at hx9_3)))
 go_ret2
 exact ⟨sqE, (sqB HB.out)⟩

/-! ### queue_Ended_1: function 29 -/
def queue_Ended_1.f (a0_0 : Int) (a0_1 : Int) (a0_2 : Int) (a0_3 : ByteArray) (fr to_ : Int) : Option Bool := if fr ≤ to_ then (queue_counts.f a0_0 a0_1 a0_2 a0_3 fr).bind fun b => (if b = true then (queue_counts.f a0_0 a0_1 a0_2 a0_3 to_).bind fun c => some (!c) else some false) else some false
set_option maxHeartbeats 8000000 in
set_option maxRecDepth 100000 in
theorem queue_Ended_1.calls (g g2 : Nat) (fr to_ : Int) (a0_0 : Int) (a0_1 : Int) (a0_2 : Int) (a0_3 : ByteArray) (r : Bool) (w : World) (hg0 : w.heap[g]? = some (.cells #[.int .i64 fr] 3 (0, 0))) (hg2 : w.heap[g2]? = some (.cells #[.int .i64 to_] 3 (0, 0))) (h : queue_Ended_1.f a0_0 a0_1 a0_2 a0_3 fr to_ = some r) :
    Calls Try.prog 29 #[.agg #[.int .i64 a0_0, .int .i64 a0_1, .int .i64 a0_2, .string a0_3], .pointer (some ⟨g, 0, none⟩), .pointer (some ⟨g2, 0, none⟩)] w fun e w' => e = .returned (.bool r) ∧ Below w.heap.size w w' := by
 have hu34 := Try.underlying34
 have HB := Aside0.mk (Below.refl w.heap.size w)
 have BK := Aside0.mk hg0
 have BL := Aside0.mk hg2
 clear hg0 hg2
 unfold queue_Ended_1.f at h
 by_cases c : fr ≤ to_
 rotate_left
 · rw [if_neg c] at h
   have cb : decide (fr ≤ to_) = false := decide_eq_false c
   clear c
   obtain rfl := Option.some.inj h
   clear h
   go_enter Try.func29, Try.ntmps29
   go_wp2_with (first | ((with_reducible refine gate_dst (N := 3) rfl ?_); refine box_event rfl (N := 3) rfl (cs := #[.int .i64 a0_0, .int .i64 a0_1, .int .i64 a0_2, .string a0_3]) (t := 34) sqs ?_; intro gl hg w2 hbox hb; replace BK := sqM (blk_below (sqK BK.out) hb); replace BL := sqM (blk_below (sqK BL.out) hb); replace HB := sqM (below_step (sqB HB.out) hb); have BKgl := sqM hbox; clear hb hbox hg; have hcgl_0 : w2.cell? ⟨gl, 0, none⟩ = some (.int .i64 a0_0) := (blk_cell BKgl.out 0).trans rfl; have hcgl_1 : w2.cell? ⟨gl, 1, none⟩ = some (.int .i64 a0_1) := (blk_cell BKgl.out 1).trans rfl; have hcgl_2 : w2.cell? ⟨gl, 2, none⟩ = some (.int .i64 a0_2) := (blk_cell BKgl.out 2).trans rfl; have hcgl_3 : w2.cell? ⟨gl, 3, none⟩ = some (.string a0_3) := (blk_cell BKgl.out 3).trans rfl; have hfgl_0 := blk_frozen BKgl.out 0; have hfgl_1 := blk_frozen BKgl.out 1; have hfgl_2 := blk_frozen BKgl.out 2; have hfgl_3 := blk_frozen BKgl.out 3; have hcg_0 : w2.cell? ⟨g, 0, none⟩ = some (.int .i64 fr) := (blk_cell BK.out 0).trans rfl; have hfg_0 := blk_frozen BK.out 0; have hcg2_0 : w2.cell? ⟨g2, 0, none⟩ = some (.int .i64 to_) := (blk_cell BL.out 0).trans rfl; have hfg2_0 := blk_frozen BL.out 0))
   go_ret
   exact ⟨sqE, (sqB HB.out)⟩
 rw [if_pos c] at h
 have cb : decide (fr ≤ to_) = true := decide_eq_true c
 clear c
 obtain ⟨b, h1, h⟩ := Option.bind_eq_some_iff.mp h
 have H1 := Aside0.mk h1
 clear h1
 cases b with
 | true =>
  replace h : ((queue_counts.f a0_0 a0_1 a0_2 a0_3 to_).bind fun c => some (!c)) = some r := h
  obtain ⟨d, h2, h⟩ := Option.bind_eq_some_iff.mp h
  obtain rfl := Option.some.inj h
  have H2 := Aside0.mk h2
  clear h2 h
  go_enter Try.func29, Try.ntmps29
  go_wp2_with (first | ((with_reducible refine gate_dst (N := 3) rfl ?_); refine box_event rfl (N := 3) rfl (cs := #[.int .i64 a0_0, .int .i64 a0_1, .int .i64 a0_2, .string a0_3]) (t := 34) sqs ?_; intro gl hg w2 hbox hb; replace BK := sqM (blk_below (sqK BK.out) hb); replace BL := sqM (blk_below (sqK BL.out) hb); replace HB := sqM (below_step (sqB HB.out) hb); have BKgl := sqM hbox; clear hb hbox hg; have hcgl_0 : w2.cell? ⟨gl, 0, none⟩ = some (.int .i64 a0_0) := (blk_cell BKgl.out 0).trans rfl; have hcgl_1 : w2.cell? ⟨gl, 1, none⟩ = some (.int .i64 a0_1) := (blk_cell BKgl.out 1).trans rfl; have hcgl_2 : w2.cell? ⟨gl, 2, none⟩ = some (.int .i64 a0_2) := (blk_cell BKgl.out 2).trans rfl; have hcgl_3 : w2.cell? ⟨gl, 3, none⟩ = some (.string a0_3) := (blk_cell BKgl.out 3).trans rfl; have hfgl_0 := blk_frozen BKgl.out 0; have hfgl_1 := blk_frozen BKgl.out 1; have hfgl_2 := blk_frozen BKgl.out 2; have hfgl_3 := blk_frozen BKgl.out 3; have hcg_0 : w2.cell? ⟨g, 0, none⟩ = some (.int .i64 fr) := (blk_cell BK.out 0).trans rfl; have hfg_0 := blk_frozen BK.out 0; have hcg2_0 : w2.cell? ⟨g2, 0, none⟩ = some (.int .i64 to_) := (blk_cell BL.out 0).trans rfl; have hfg2_0 := blk_frozen BL.out 0) | (go_at_call 28; (with_reducible refine (queue_counts.calls _ _ _ _ _ _ _ H1.out).mono ?_); rintro e w5 ⟨rfl, hb⟩; have nb_ := sqM (below_step (sqB HB.out) hb); have n0_ := sqM (blk_below (sqK BK.out) hb); have n1_ := sqM (blk_below (sqK BL.out) hb); have n2_ := sqM (blk_below (sqK BKgl.out) hb); clear BK BL BKgl HB; have HB := nb_; have BK := n0_; have BL := n1_; have BKgl := n2_; clear nb_ hb; have hdgl_0 : w5.cell? ⟨gl, 0, none⟩ = some (.int .i64 a0_0) := (blk_cell BKgl.out 0).trans rfl; have hdgl_1 : w5.cell? ⟨gl, 1, none⟩ = some (.int .i64 a0_1) := (blk_cell BKgl.out 1).trans rfl; have hdgl_2 : w5.cell? ⟨gl, 2, none⟩ = some (.int .i64 a0_2) := (blk_cell BKgl.out 2).trans rfl; have hdgl_3 : w5.cell? ⟨gl, 3, none⟩ = some (.string a0_3) := (blk_cell BKgl.out 3).trans rfl; have hegl_0 := blk_frozen BKgl.out 0; have hegl_1 := blk_frozen BKgl.out 1; have hegl_2 := blk_frozen BKgl.out 2; have hegl_3 := blk_frozen BKgl.out 3; have hdg_0 : w5.cell? ⟨g, 0, none⟩ = some (.int .i64 fr) := (blk_cell BK.out 0).trans rfl; have heg_0 := blk_frozen BK.out 0; have hdg2_0 : w5.cell? ⟨g2, 0, none⟩ = some (.int .i64 to_) := (blk_cell BL.out 0).trans rfl; have heg2_0 := blk_frozen BL.out 0) | (go_at_call 28; (with_reducible refine (queue_counts.calls _ _ _ _ _ _ _ H2.out).mono ?_); rintro e w6 ⟨rfl, hb⟩; have nb_ := sqM (below_step (sqB HB.out) hb); clear HB; have HB := nb_; clear nb_ hb))
  go_ret
  exact ⟨sqE, (sqB HB.out)⟩
 | false =>
  obtain rfl := Option.some.inj (show some false = some r from h)
  clear h
  go_enter Try.func29, Try.ntmps29
  go_wp2_with (first | ((with_reducible refine gate_dst (N := 3) rfl ?_); refine box_event rfl (N := 3) rfl (cs := #[.int .i64 a0_0, .int .i64 a0_1, .int .i64 a0_2, .string a0_3]) (t := 34) sqs ?_; intro gl hg w2 hbox hb; replace BK := sqM (blk_below (sqK BK.out) hb); replace BL := sqM (blk_below (sqK BL.out) hb); replace HB := sqM (below_step (sqB HB.out) hb); have BKgl := sqM hbox; clear hb hbox hg; have hcgl_0 : w2.cell? ⟨gl, 0, none⟩ = some (.int .i64 a0_0) := (blk_cell BKgl.out 0).trans rfl; have hcgl_1 : w2.cell? ⟨gl, 1, none⟩ = some (.int .i64 a0_1) := (blk_cell BKgl.out 1).trans rfl; have hcgl_2 : w2.cell? ⟨gl, 2, none⟩ = some (.int .i64 a0_2) := (blk_cell BKgl.out 2).trans rfl; have hcgl_3 : w2.cell? ⟨gl, 3, none⟩ = some (.string a0_3) := (blk_cell BKgl.out 3).trans rfl; have hfgl_0 := blk_frozen BKgl.out 0; have hfgl_1 := blk_frozen BKgl.out 1; have hfgl_2 := blk_frozen BKgl.out 2; have hfgl_3 := blk_frozen BKgl.out 3; have hcg_0 : w2.cell? ⟨g, 0, none⟩ = some (.int .i64 fr) := (blk_cell BK.out 0).trans rfl; have hfg_0 := blk_frozen BK.out 0; have hcg2_0 : w2.cell? ⟨g2, 0, none⟩ = some (.int .i64 to_) := (blk_cell BL.out 0).trans rfl; have hfg2_0 := blk_frozen BL.out 0) | (go_at_call 28; (with_reducible refine (queue_counts.calls _ _ _ _ _ _ _ H1.out).mono ?_); rintro e w5 ⟨rfl, hb⟩; have nb_ := sqM (below_step (sqB HB.out) hb); have n0_ := sqM (blk_below (sqK BK.out) hb); have n1_ := sqM (blk_below (sqK BL.out) hb); have n2_ := sqM (blk_below (sqK BKgl.out) hb); clear BK BL BKgl HB; have HB := nb_; have BK := n0_; have BL := n1_; have BKgl := n2_; clear nb_ hb; have hdgl_0 : w5.cell? ⟨gl, 0, none⟩ = some (.int .i64 a0_0) := (blk_cell BKgl.out 0).trans rfl; have hdgl_1 : w5.cell? ⟨gl, 1, none⟩ = some (.int .i64 a0_1) := (blk_cell BKgl.out 1).trans rfl; have hdgl_2 : w5.cell? ⟨gl, 2, none⟩ = some (.int .i64 a0_2) := (blk_cell BKgl.out 2).trans rfl; have hdgl_3 : w5.cell? ⟨gl, 3, none⟩ = some (.string a0_3) := (blk_cell BKgl.out 3).trans rfl; have hegl_0 := blk_frozen BKgl.out 0; have hegl_1 := blk_frozen BKgl.out 1; have hegl_2 := blk_frozen BKgl.out 2; have hegl_3 := blk_frozen BKgl.out 3; have hdg_0 : w5.cell? ⟨g, 0, none⟩ = some (.int .i64 fr) := (blk_cell BK.out 0).trans rfl; have heg_0 := blk_frozen BK.out 0; have hdg2_0 : w5.cell? ⟨g2, 0, none⟩ = some (.int .i64 to_) := (blk_cell BL.out 0).trans rfl; have heg2_0 := blk_frozen BL.out 0))
  go_ret
  exact ⟨sqE, (sqB HB.out)⟩

/-! ### queue_Ended: function 15 -/
def queue_Ended.f (k : Nat) (l0 : List (S34)) (a1 a2 : Int) : Option (List (S34)) := (queue_someG.f (fun x0 x1 x2 x3 => queue_Ended_1.f x0 x1 x2 x3 a1 a2) k l0).bind fun t => (queue_sorter_sorted.f k () t).bind fun s => some s
theorem queue_Ended.mono : ∀ a0 a1 a2 k, LeO (queue_Ended.f k a0 a1 a2) (queue_Ended.f (k + 1) a0 a1 a2) := by
 intro a0 a1 a2 k
 unfold queue_Ended.f
 refine LeO.bind (queue_someG.mono _ _ _) (fun _ => LeO.bind (queue_sorter_sorted.mono _ _ _) (fun _ => LeO.refl _))
set_option maxHeartbeats 8000000 in
set_option maxRecDepth 100000 in
theorem queue_Ended.calls (k : Nat) (A0 : Option Addr) (c0 : Nat) (l0 : List (S34)) (a1 a2 : Int) (r : List (S34)) (w : World) (hr0 : Kd.C k34 w A0 l0.length l0) (hc0 : l0.length ≤ c0) (h : queue_Ended.f k l0 a1 a2 = some r) :
    Calls Try.prog 15 #[.slice A0 l0.length c0, .int .i64 a1, .int .i64 a2] w fun e w' => ∃ v0_ : Value, e = .returned (v0_) ∧ Kd.R k34 34 w' w.heap.size (fun _ => True) v0_ r ∧ Below w.heap.size w w' := by
 have hu34 := Try.underlying34
 have HR0 := Aside0.mk hr0
 have HC0 := Aside0.mk hc0
 clear hr0 hc0
 have HB := Aside0.mk (Below.refl w.heap.size w)
 have hmf : ∀ (fn : Fn) (first cap : Array Value) (w : World), (Instr.makeFunc fn first cap).run Try.prog w = .ok (.func fn first cap) w := fun _ _ _ _ => rfl
 unfold queue_Ended.f at h
 obtain ⟨t, h1, h⟩ := Option.bind_eq_some_iff.mp h
 obtain ⟨s, h2, h⟩ := Option.bind_eq_some_iff.mp h
 obtain rfl := Option.some.inj h
 have A3 := Aside0.mk h1
 have A4 := Aside0.mk h2
 clear h1 h2 h
 go_enter Try.func15, Try.ntmps15
 go_wp2_with (first | ((with_reducible refine gate_dst (N := 4) rfl ?_); refine box_event rfl (N := 4) rfl (cs := #[.int .i64 a1]) (t := 3) sqs ?_; intro g hg w2 hbox hb; replace HB := sqM (below_step (sqB HB.out) hb); have BKg := sqM hbox; clear hb hbox hg; have hcg_0 : w2.cell? ⟨g, 0, none⟩ = some (.int .i64 a1) := (blk_cell BKg.out 0).trans rfl; have hfg_0 := blk_frozen BKg.out 0) | ((with_reducible refine gate_dst (N := 5) rfl ?_); refine box_event rfl (N := 5) rfl (cs := #[.int .i64 a2]) (t := 3) sqs ?_; intro g2 hg w3 hbox hb; replace BKg := sqM (blk_below (sqK BKg.out) hb); replace HB := sqM (below_step (sqB HB.out) hb); have BKg2 := sqM hbox; clear hb hbox hg; have hcg2_0 : w3.cell? ⟨g2, 0, none⟩ = some (.int .i64 a2) := (blk_cell BKg2.out 0).trans rfl; have hfg2_0 := blk_frozen BKg2.out 0) | ((with_reducible refine gate_callee (f := 21) rfl ?_); refine goesL_ (some 7) rfl rfl Try.func21 (by kernel_rfl) rfl #[] rfl sqA ?_; (with_reducible refine (queue_byEnd.calls () _ rfl).mono ?_); rintro e w5 ⟨rfl, hb⟩; refine ⟨_, rfl, ?_⟩; have nb_ := sqM (below_step (sqB HB.out) hb); have n0_ := sqM (blk_below (sqK BKg.out) hb); have n1_ := sqM (blk_below (sqK BKg2.out) hb); clear BKg BKg2 HB; have HB := nb_; have BKg := n0_; have BKg2 := n1_; clear nb_ hb) | ((with_reducible refine gate_callee (f := 23) rfl ?_); refine goesL_ (some 10) rfl rfl Try.func23 (by kernel_rfl) rfl #[.slice A0 l0.length c0, .func (.func 29) #[] #[.pointer (some ⟨g, 0, none⟩), .pointer (some ⟨g2, 0, none⟩)]] rfl sqA ?_; (refine (queue_some29.calls (fun x0 x1 x2 x3 => queue_Ended_1.f x0 x1 x2 x3 a1 a2) _ _ _ _ _ _ _ _ ?side1 ?side2 ?side3 A3.out).mono ?_); (case side1 => (repeat (first | exact (Kd.C_below HR0.out HB.out) | (with_reducible refine Kd.C_alloc ?_ _) | (with_reducible refine Kd.C_drewN ?_ _) | (with_reducible refine Kd.C_drew ?_)))); (case side2 => exact HC0.out); (case side3 => exact fun x b w' hb' hp => queue_Ended_1.calls g g2 a1 a2 _ _ _ _ b w' (blk_below (sqK BKg.out) hb') (blk_below (sqK BKg2.out) hb') hp); rintro e w6 ⟨v143, rfl, ho0, hb⟩; refine ⟨_, rfl, ?_⟩; have HO144 := sqM (Kd.R_lower ho0 (below_size (sqB HB.out))); replace HB := sqM (below_step (sqB HB.out) hb); clear hb ho0; obtain ⟨Ao7, co7, eo7⟩ := Kd.R_slice HO144.out; subst eo7) | ((with_reducible refine gate_callee (f := 22) rfl ?_); refine goesL_ (some 11) rfl rfl Try.func22 (by kernel_rfl) rfl #[.agg #[.func (.func 34) #[] #[]], .slice Ao7 t.length co7] rfl sqA ?_; (with_reducible refine (queue_sorter_sorted.calls _ _ _ _ _ _ _ ?side1 ?side2 A4.out).mono ?_); (case side1 => (repeat (first | exact (Kd.R_reads' HO144.out).2.2 | (with_reducible refine Kd.C_alloc ?_ _) | (with_reducible refine Kd.C_drewN ?_ _) | (with_reducible refine Kd.C_drew ?_)))); (case side2 => exact (Kd.R_reads' HO144.out).2.1); rintro e w8 ⟨v146, rfl, ho0, hb⟩; refine ⟨_, rfl, ?_⟩; have n1_ := sqM (Kd.R_lower (Kd.R_new' ho0 (Kd.R_lt (sqR HO144.out))) (below_size (sqB HB.out))); have n2_ := sqM (below_step (sqB HB.out) hb); clear HO144 HB; have HO147 := n1_; have HB := n2_; clear n1_ n2_; clear hb ho0; obtain ⟨Ao9, co9, eo9⟩ := Kd.R_slice HO147.out; subst eo9))
 go_ret
 exact ⟨_, sqE, by refine sqR ?_; exact Kd.R_mono HO147.out (fun _ hk => trivial), (sqB HB.out)⟩

/-! ### table_good: function 38 -/
def table_good.f (k : Nat) (l0 : List (S34)) : Option ((List (S34))) := (table_Right.f k l0).bind fun t153 => (if t153 = true then ((some (([] : List (S34)) : List (S34))).bind fun y154 => (if y154.length + l0.length < 3518437208883 then (some (y154 ++ l0)) else (none))) else (some ([] : List (S34))))
theorem table_good.mono : ∀ a0 k, LeO (table_good.f k a0) (table_good.f (k + 1) a0) := by
 intro a0 k
 unfold table_good.f
 repeat' first
  | (with_reducible exact table_Right.mono _ _)
  | (with_reducible exact LeO.refl _)
  | (with_reducible exact LeO.none _)
  | (with_reducible refine LeO.ite ?_ ?_)
  | (with_reducible refine LeO.bind ?_ (fun _ => ?_))
  | exact table_Right.mono _ _
  | exact LeO.none _
  | refine LeO.ite ?_ ?_
  | refine LeO.bind ?_ (fun _ => ?_)
set_option maxHeartbeats 8000000 in
set_option maxRecDepth 100000 in
theorem table_good.calls (k : Nat) (A0 : Option Addr) (c0 : Nat) (l0 : List (S34)) (r : List (S34)) (w : World) (hr0 : Kd.C k34 w A0 l0.length l0) (hc0 : l0.length ≤ c0) (h : table_good.f k l0 = some r) :
    Calls Try.prog 38 #[.slice A0 l0.length c0] w fun e w' => ∃ v0_ : Value, e = .returned (v0_) ∧ Kd.R k34 34 w' w.heap.size (fun _ => True) v0_ r ∧ Below w.heap.size w w' := by
 have HR0 := Aside0.mk hr0
 have HC0 := Aside0.mk hc0
 clear hr0 hc0
 have HB := Aside0.mk (Below.refl w.heap.size w)
 have H : ((table_Right.f k l0).bind fun t153 => (if t153 = true then ((some (([] : List (S34)) : List (S34))).bind fun y154 => (if y154.length + l0.length < 3518437208883 then (some (y154 ++ l0)) else (none))) else (some ([] : List (S34))))) = some r := h
 clear h
 replace H := Option.bind_eq_some_iff.mp H
 obtain ⟨t153, A20, H⟩ := H
 replace H : (if t153 = true then ((some (([] : List (S34)) : List (S34))).bind fun y154 => (if y154.length + l0.length < 3518437208883 then (some (y154 ++ l0)) else (none))) else (some ([] : List (S34)))) = some r := H
 have A2 := Aside0.mk A20
 clear A20
 by_cases c3 : t153 = true
 rotate_left
 · replace c3 := Bool.eq_false_iff.mpr c3
   subst c3
   have H1 : (some ([] : List (S34))) = some r := by rw [if_neg (show ¬ (false = true) by decide)] at H; exact H
   clear H
   have H := H1
   clear H1
   obtain rfl := Option.some.inj H
   go_enter Try.func38, Try.ntmps38
   go_wp2_with (first | ((with_reducible refine gate_callee (f := 35) rfl ?_); refine goesL_ (some 4) rfl rfl Try.func35 (by kernel_rfl) rfl #[.slice A0 l0.length c0] rfl sqA ?_; (with_reducible refine (table_Right.calls _ _ _ _ _ _ ?side1 ?side2 A2.out).mono ?_); (case side1 => repeat (first | exact HR0.out | (with_reducible refine Kd.C_alloc ?_ _) | (with_reducible refine Kd.C_drewN ?_ _) | (with_reducible refine Kd.C_drew ?_))); (case side2 => exact HC0.out); rintro e w9 ⟨rfl, hb⟩; refine ⟨_, rfl, ?_⟩; replace HB := sqM (below_step (sqB HB.out) hb); (try clear hb); (try clear hb2); (try clear hk); (try clear hi)))
   go_ret
   exact ⟨_, sqE, by first | exact Kd.R_nil _ _ _ _ _ | exact Kd.N_nil _ _ _ _ _ | exact Kd.V_nil _ _ _ _ _ | exact Kd.Q_nil _ _ _ _ _ | exact Kd.S_nil _ _ _ _ _, sqB HB.out⟩
 subst c3
 have H1 : ((some (([] : List (S34)) : List (S34))).bind fun y154 => (if y154.length + l0.length < 3518437208883 then (some (y154 ++ l0)) else (none))) = some r := by rw [if_pos rfl] at H; exact H
 clear H
 have H := H1
 clear H1
 obtain ⟨y154, hy154⟩ : ∃ y_ : List (S34), y_ = (([] : List (S34))) := ⟨_, rfl⟩
 replace H : (if y154.length + l0.length < 3518437208883 then (some (y154 ++ l0)) else (none)) = some r := by first | (rw [hy154]; with_reducible exact H) | (have H2_ := (Option.bind_some _ _).symm.trans H; rw [hy154]; with_reducible exact H2_) | (have H2_ := (Option.bind_some _ _).symm.trans H; with_reducible exact H2_) | with_reducible exact H | (rw [hy154]; exact H) | exact H
 have Ny154 := Aside0.mk hy154
 clear hy154
 by_cases c4 : y154.length + l0.length < 3518437208883
 rotate_left
 · rw [if_neg c4] at H
   exact absurd H (by simp)
 rw [if_pos c4] at H
 have LMc4 := Aside0.mk c4
 clear c4
 obtain ⟨y157, hy157⟩ : ∃ y_ : List (S34), y_ = (y154 ++ l0) := ⟨_, rfl⟩
 replace H : (some y157) = some r := by first | (rw [hy157]; with_reducible exact H) | (have H2_ := (Option.bind_some _ _).symm.trans H; rw [hy157]; with_reducible exact H2_) | (have H2_ := (Option.bind_some _ _).symm.trans H; with_reducible exact H2_) | with_reducible exact H | (rw [hy157]; exact H) | exact H
 have Ny157 := Aside0.mk hy157
 clear hy157
 obtain rfl := Option.some.inj H
 go_enter Try.func38, Try.ntmps38
 go_wp2_with (first | ((with_reducible refine gate_callee (f := 35) rfl ?_); refine goesL_ (some 4) rfl rfl Try.func35 (by kernel_rfl) rfl #[.slice A0 l0.length c0] rfl sqA ?_; (with_reducible refine (table_Right.calls _ _ _ _ _ _ ?side1 ?side2 A2.out).mono ?_); (case side1 => repeat (first | exact HR0.out | (with_reducible refine Kd.C_alloc ?_ _) | (with_reducible refine Kd.C_drewN ?_ _) | (with_reducible refine Kd.C_drew ?_))); (case side2 => exact HC0.out); rintro e w5 ⟨rfl, hb⟩; refine ⟨_, rfl, ?_⟩; replace HB := sqM (below_step (sqB HB.out) hb); (try clear hb); (try clear hb2); (try clear hk); (try clear hi)) | ((with_reducible refine gate_dst (N := 6) rfl ?_); refine Kd.R_lit k34 _ 34 ?hg (N := 6) ?hd (xs := ([] : List (S34))) (inner := []) (ok := fun _ => True) (okp := fun _ => True) ?hr ?hp (fun _ hk => hk) trivial (Below.refl _ _) (Nat.le_refl _) (by simp) ?_; (case hd => rfl); (case hg => rfl); (case hr => first | (go_simp; done) | (go_simp; rfl)); (case hp => exact (Reps.none _ _)); intro v155 w6 ho7 hb hg_ hnew_; clear hg_ hnew_; (first | rw [← Ny154.out] at ho7 | (simp only [Int.reduceToNat] at ho7; rw [← Ny154.out] at ho7)); have HO156 := sqM (Kd.R_lower ho7 (below_size (sqB HB.out))); replace HB := sqM (below_step (sqB HB.out) hb); clear hb ho7) | ((with_reducible refine gate_builtin (b := .append) (xs := #[.tmp 6, .tmp 7]) rfl ?_); at_builtin; refine Kd.R_append_rows k34 (w0 := w) w.heap.size rfl (.tmp 6) (.tmp 7) 22 34 (.agg #[(.int .i64 0), (.int .i64 0), (.int .i64 0), (.string ⟨#[]⟩)]) 40 rfl Try.underlying22 info34 rfl (by decide) (by omega) v155 y154 l0 _ _ _ (fun _ => True) (fun _ => False) rfl rfl ?aO ?aR (fun _ _ h => h) (fun _ h => h.elim) ?aF ?aB ?aS ?aL ?_; (case aR => repeat (first | exact (Kd.C_below HR0.out HB.out) | (with_reducible refine Kd.C_alloc ?_ _) | (with_reducible refine Kd.C_drewN ?_ _) | (with_reducible refine Kd.C_drew ?_))); (case aB => exact (sqB HB.out)); (case aF => exact (fun _ _ => trivial)); (case aO => exact (sqR HO156.out)); (case aS => exact (below_size (sqB HB.out))); (case aL => have := LMc4.out; omega); intro v158 w8 ho hb hg hat; rw [← Ny157.out] at ho; have HO159 := sqM (ho); replace HB := sqM (hb); clear HO156; clear ho hb hg hat))
 go_ret
 exact ⟨_, sqE, by refine sqR ?_; exact HO159.out, sqB HB.out⟩

/-! ### table_place: function 39 -/
def table_place.l0 : Nat → List (S34) → Int → Int → Int → Option (Int × Bool)
  | 0, _, _, _, _ => none
  | k + 1, x0, x1, x6, x7 => if x6 < x7 then (if 0 ≤ (wrap64 (Int.tdiv (wrap64 (x6 + x7)) 2)) then (if (wrap64 (Int.tdiv (wrap64 (x6 + x7)) 2)) < (x0.length : Int) then (if ((rd_T34 x0 (wrap64 (Int.tdiv (wrap64 (x6 + x7)) 2))).f0) = x1 then (some (wrap64 (Int.tdiv (wrap64 (x6 + x7)) 2), (((rd_T34 x0 (wrap64 (Int.tdiv (wrap64 (x6 + x7)) 2))).f0) == x1))) else (if ((rd_T34 x0 (wrap64 (Int.tdiv (wrap64 (x6 + x7)) 2))).f0) < x1 then (table_place.l0 k x0 x1 (wrap64 ((wrap64 (Int.tdiv (wrap64 (x6 + x7)) 2)) + 1)) x7) else (table_place.l0 k x0 x1 x6 (wrap64 (Int.tdiv (wrap64 (x6 + x7)) 2))))) else (none)) else (none)) else (if x6 < (x0.length : Int) then (if 0 ≤ x6 then (some (x6, (((rd_T34 x0 x6).f0) == x1))) else (none)) else (some (x6, false)))
def table_place.f (k : Nat) (l0 : List (S34)) (a1 : Int) : Option (Int × Bool) := table_place.l0 k l0 a1 0 (l0.length : Int)
theorem table_place.mono_l : ∀ k, (∀ y0 y1 y2 y3, LeO (table_place.l0 k y0 y1 y2 y3) (table_place.l0 (k + 1) y0 y1 y2 y3))
  | 0 => fun _ _ _ _ r h => by simp [table_place.l0] at h
  | k + 1 => by
    have ih0 := table_place.mono_l k
    · intro y0 y1 y2 y3
      unfold table_place.l0
      repeat' first
      | (with_reducible exact ih0 _ _ _ _)
      | (with_reducible exact LeO.refl _)
      | (with_reducible exact LeO.none _)
      | (with_reducible refine LeO.ite ?_ ?_)
      | (with_reducible refine LeO.bind ?_ (fun _ => ?_))
      | exact ih0 _ _ _ _
      | exact LeO.none _
      | refine LeO.ite ?_ ?_
      | refine LeO.bind ?_ (fun _ => ?_)
theorem table_place.mono : ∀ a0 a1 k, LeO (table_place.f k a0 a1) (table_place.f (k + 1) a0 a1) := by
 intro a0 a1 k
 have ih0 := table_place.mono_l k
 unfold table_place.f
 repeat' first
  | (with_reducible exact ih0 _ _ _ _)
  | (with_reducible exact LeO.refl _)
  | (with_reducible exact LeO.none _)
  | (with_reducible refine LeO.ite ?_ ?_)
  | (with_reducible refine LeO.bind ?_ (fun _ => ?_))
  | exact ih0 _ _ _ _
  | exact LeO.none _
  | refine LeO.ite ?_ ?_
  | refine LeO.bind ?_ (fun _ => ?_)
set_option maxHeartbeats 8000000 in
set_option maxRecDepth 100000 in
theorem table_place.calls (k : Nat) (A0 : Option Addr) (c0 : Nat) (l0 : List (S34)) (a1 : Int) (r1 : Int) (r2 : Bool) (w : World) (hr0 : Kd.C k34 w A0 l0.length l0) (hc0 : l0.length ≤ c0) (h : table_place.f k l0 a1 = some (r1, r2)) :
    Calls Try.prog 39 #[.slice A0 l0.length c0, .int .i64 a1] w fun e w' => e = .returned (.tuple #[.int .i64 r1, .bool r2]) ∧ Drawn0 w w' := by
 have HR0 := Aside0.mk hr0
 have HC0 := Aside0.mk hc0
 clear hr0 hc0
 have H : (table_place.l0 k l0 a1 0 (l0.length : Int)) = some (r1, r2) := h
 clear h
 have H' := Aside0.mk H
 clear H
 go_enter Try.func39, Try.ntmps39
 (try go_wp2)
 go_step3
 (try go_wp2)
 (try go_step3)
 (try go_wp2)
 repeat (go_quiet (fail); try go_wp2)
 go_loopg [6, 7] k (fun kq v6 v7 w' => ∃ (x6_1 : Int) (x7_1 : Int), v6 = .int .i64 x6_1 ∧ v7 = .int .i64 x7_1 ∧ Aside0 (table_place.l0 kq l0 a1 x6_1 x7_1 = some (r1, r2)) ∧ Aside0 (kq ≤ k) ∧ Drawn0 w w')
 case atStart => exact ⟨(0), ((l0.length : Int)), sqI, sqI, H', ⟨Nat.le_refl _⟩, sqD⟩
 clear H'
 try clear p2
 obtain ⟨x6_1, x7_1, rfl, rfl, HA, HK1, ⟨m1, rfl⟩⟩ := hrel
 cases gk with
 | zero => exact absurd HA.out (by simp [table_place.l0])
 | succ k1 => ?_
 have H := HA.out
 clear HA
 simp only [table_place.l0] at H
 by_cases c3 : x6_1 < x7_1
 rotate_left
 · rw [if_neg c3] at H
   have c3b0 : decide (x6_1 < x7_1) = false := decide_eq_false c3
   clear c3
   by_cases c9 : x6_1 < (l0.length : Int)
   rotate_left
   · rw [if_neg c9] at H
     have c9b0 : decide (x6_1 < (l0.length : Int)) = false := decide_eq_false c9
     clear c9
     simp only [Option.some.injEq, Prod.mk.injEq] at H
     obtain ⟨rfl, rfl⟩ := H
     go_wp2
     repeat (go_quiet (fail); try go_wp2)
     (try rw [Exit.noGoto_ret])
     go_ret2
     exact ⟨sqI, sqD⟩
   rw [if_pos c9] at H
   have c9b0 : decide (x6_1 < (l0.length : Int)) = true := decide_eq_true c9
   clear c9
   by_cases c10 : 0 ≤ x6_1
   rotate_left
   · rw [if_neg c10] at H
     exact absurd H (by simp)
   rw [if_pos c10] at H
   have c10b0 : decide (0 ≤ x6_1) = true := decide_eq_true c10
   clear c10
   simp only [Option.some.injEq, Prod.mk.injEq] at H
   obtain ⟨rfl, rfl⟩ := H
   have p160 : 0 ≤ (x6_1 : Int) := of_decide_eq_true sqH
   have q160 : x6_1 < (l0.length : Int) := of_decide_eq_true sqH
   obtain ⟨ad160, e160, hx160_0, hx160_1, hx160_2, hx160_3⟩ := at_T34 HR0.out x6_1 p160 q160
   cases e160
   replace p160 := eq_true p160
   replace q160 := eq_true q160
   go_wp2
   repeat (go_quiet (fail); try go_wp2)
   (try rw [Exit.noGoto_ret])
   go_ret2
   exact ⟨sqI, sqD⟩
 rw [if_pos c3] at H
 have c3b0 : decide (x6_1 < x7_1) = true := decide_eq_true c3
 clear c3
 obtain ⟨ji4, hji4⟩ : ∃ j_ : Int, (wrap64 (Int.tdiv (wrap64 (x6_1 + x7_1)) 2)) = j_ := ⟨_, rfl⟩
 replace H : (if 0 ≤ (ji4) then (if (ji4) < (l0.length : Int) then (if ((rd_T34 l0 (ji4)).f0) = a1 then (some (ji4, (((rd_T34 l0 (ji4)).f0) == a1))) else (if ((rd_T34 l0 (ji4)).f0) < a1 then (table_place.l0 k1 l0 a1 (wrap64 ((ji4) + 1)) x7_1) else (table_place.l0 k1 l0 a1 x6_1 ji4))) else (none)) else (none)) = some (r1, r2) := by first | (rw [hji4] at H; exact H) | (simp only [hji4] at H ⊢; exact H)
 have hji4w : (IntKind.i64.wrap (Int.tdiv (wrap64 (x6_1 + x7_1)) 2)) = ji4 := (i64_w _).trans hji4
 by_cases c5 : 0 ≤ (ji4)
 rotate_left
 · rw [if_neg c5] at H
   exact absurd H (by simp)
 rw [if_pos c5] at H
 have c5b0 : decide (0 ≤ (ji4)) = true := decide_eq_true c5
 clear c5
 by_cases c6 : (ji4) < (l0.length : Int)
 rotate_left
 · rw [if_neg c6] at H
   exact absurd H (by simp)
 rw [if_pos c6] at H
 have c6b0 : decide ((ji4) < (l0.length : Int)) = true := decide_eq_true c6
 clear c6
 by_cases c7 : ((rd_T34 l0 (ji4)).f0) = a1
 · rw [if_pos c7] at H
   have c7b0 : (((rd_T34 l0 (ji4)).f0) == a1) = true := beq_iff_eq.mpr c7
   have c7b1 : (((rd_T34 l0 (ji4)).f0) != a1) = false := bne_eq_false_iff_eq.mpr c7
   clear c7
   simp only [Option.some.injEq, Prod.mk.injEq] at H
   obtain ⟨rfl, rfl⟩ := H
   have p161 : 0 ≤ ((ji4) : Int) := of_decide_eq_true sqH
   have q161 : (ji4) < (l0.length : Int) := of_decide_eq_true sqH
   obtain ⟨ad161, e161, hx161_0, hx161_1, hx161_2, hx161_3⟩ := at_T34 HR0.out (ji4) p161 q161
   cases e161
   replace p161 := eq_true p161
   replace q161 := eq_true q161
   have p162 : 0 ≤ ((ji4) : Int) := of_decide_eq_true sqH
   have q162 : (ji4) < (l0.length : Int) := of_decide_eq_true sqH
   obtain ⟨ad162, e162, hx162_0, hx162_1, hx162_2, hx162_3⟩ := at_T34 HR0.out (ji4) p162 q162
   obtain rfl : ad161 = ad162 := (by injection e162)
   replace p162 := eq_true p162
   replace q162 := eq_true q162
   go_wp2
   repeat (go_quiet (fail); try go_wp2)
   (try rw [Exit.noGoto_ret])
   go_ret2
   exact ⟨by first | rfl | (simp; done) | (simp only [← hji4] <;> (first | rfl | (simp; done))) | (simp [*]; done) | (simp_all; done), sqD⟩
 rw [if_neg c7] at H
 have c7b0 : (((rd_T34 l0 (ji4)).f0) == a1) = false := beq_eq_false_iff_ne.mpr c7
 have c7b1 : (((rd_T34 l0 (ji4)).f0) != a1) = true := bne_iff_ne.mpr c7
 by_cases c8 : ((rd_T34 l0 (ji4)).f0) < a1
 · rw [if_pos c8] at H
   have c8b0 : decide (((rd_T34 l0 (ji4)).f0) < a1) = true := decide_eq_true c8
   clear c8
   have H' := Aside0.mk H
   clear H
   have p161 : 0 ≤ ((ji4) : Int) := of_decide_eq_true sqH
   have q161 : (ji4) < (l0.length : Int) := of_decide_eq_true sqH
   obtain ⟨ad161, e161, hx161_0, hx161_1, hx161_2, hx161_3⟩ := at_T34 HR0.out (ji4) p161 q161
   cases e161
   replace p161 := eq_true p161
   replace q161 := eq_true q161
   have p163 : 0 ≤ ((ji4) : Int) := of_decide_eq_true sqH
   have q163 : (ji4) < (l0.length : Int) := of_decide_eq_true sqH
   obtain ⟨ad163, e163, hx163_0, hx163_1, hx163_2, hx163_3⟩ := at_T34 HR0.out (ji4) p163 q163
   obtain rfl : ad161 = ad163 := (by injection e163)
   replace p163 := eq_true p163
   replace q163 := eq_true q163
   go_wp2
   repeat (go_quiet (fail); try go_wp2)
   go_roundg k1
   case measure => have := HK1.out; omega
   case rel => exact ⟨(wrap64 ((ji4) + 1)), (x7_1), (by first | rfl | (simp; done) | (simp only [← hji4] <;> (first | rfl | (simp; done))) | (simp [*]; done) | (simp_all; done)), sqI, H', ⟨by have := HK1.out; omega⟩, sqD⟩
 rw [if_neg c8] at H
 have c8b0 : decide (((rd_T34 l0 (ji4)).f0) < a1) = false := decide_eq_false c8
 clear c8
 have H' := Aside0.mk H
 clear H
 have p161 : 0 ≤ ((ji4) : Int) := of_decide_eq_true sqH
 have q161 : (ji4) < (l0.length : Int) := of_decide_eq_true sqH
 obtain ⟨ad161, e161, hx161_0, hx161_1, hx161_2, hx161_3⟩ := at_T34 HR0.out (ji4) p161 q161
 cases e161
 replace p161 := eq_true p161
 replace q161 := eq_true q161
 have p163 : 0 ≤ ((ji4) : Int) := of_decide_eq_true sqH
 have q163 : (ji4) < (l0.length : Int) := of_decide_eq_true sqH
 obtain ⟨ad163, e163, hx163_0, hx163_1, hx163_2, hx163_3⟩ := at_T34 HR0.out (ji4) p163 q163
 obtain rfl : ad161 = ad163 := (by injection e163)
 replace p163 := eq_true p163
 replace q163 := eq_true q163
 go_wp2
 repeat (go_quiet (fail); try go_wp2)
 go_roundg k1
 case measure => have := HK1.out; omega
 case rel => exact ⟨(x6_1), (ji4), sqI, (by first | rfl | (simp; done) | (simp only [← hji4] <;> (first | rfl | (simp; done))) | (simp [*]; done) | (simp_all; done)), H', ⟨by have := HK1.out; omega⟩, sqD⟩

/-! ### table_Get: function 30 -/
def table_Get.f (k : Nat) (l0 : List (S34)) (a1 : Int) : Option (Int × Int × Int × ByteArray × Bool) := (table_good.f k l0).bind fun t165 => ((table_place.f k t165 a1).bind fun bt168 => (if bt168.2 = true then (if 0 ≤ bt168.1 then (if bt168.1 < (t165.length : Int) then (some ((rd_T34 t165 bt168.1).f0, (rd_T34 t165 bt168.1).f1, (rd_T34 t165 bt168.1).f2, (rd_T34 t165 bt168.1).f3, true)) else (none)) else (none)) else (some (0, 0, 0, (⟨#[]⟩ : ByteArray), false))))
theorem table_Get.mono : ∀ a0 a1 k, LeO (table_Get.f k a0 a1) (table_Get.f (k + 1) a0 a1) := by
 intro a0 a1 k
 unfold table_Get.f
 repeat' first
  | (with_reducible exact table_good.mono _ _)
  | (with_reducible exact table_place.mono _ _ _)
  | (with_reducible exact LeO.refl _)
  | (with_reducible exact LeO.none _)
  | (with_reducible refine LeO.ite ?_ ?_)
  | (with_reducible refine LeO.bind ?_ (fun _ => ?_))
  | exact table_good.mono _ _
  | exact table_place.mono _ _ _
  | exact LeO.none _
  | refine LeO.ite ?_ ?_
  | refine LeO.bind ?_ (fun _ => ?_)
set_option maxHeartbeats 8000000 in
set_option maxRecDepth 100000 in
theorem table_Get.calls (k : Nat) (A0 : Option Addr) (c0 : Nat) (l0 : List (S34)) (a1 : Int) (r1 : Int) (r2 : Int) (r3 : Int) (r4 : ByteArray) (r5 : Bool) (w : World) (hr0 : Kd.C k34 w A0 l0.length l0) (hc0 : l0.length ≤ c0) (h : table_Get.f k l0 a1 = some (r1, r2, r3, r4, r5)) :
    Calls Try.prog 30 #[.slice A0 l0.length c0, .int .i64 a1] w fun e w' => e = .returned (.tuple #[.agg #[.int .i64 r1, .int .i64 r2, .int .i64 r3, .string r4], .bool r5]) ∧ Below w.heap.size w w' := by
 have hu34 := Try.underlying34
 have HR0 := Aside0.mk hr0
 have HC0 := Aside0.mk hc0
 clear hr0 hc0
 have HB := Aside0.mk (Below.refl w.heap.size w)
 have H : ((table_good.f k l0).bind fun t165 => ((table_place.f k t165 a1).bind fun bt168 => (if bt168.2 = true then (if 0 ≤ bt168.1 then (if bt168.1 < (t165.length : Int) then (some ((rd_T34 t165 bt168.1).f0, (rd_T34 t165 bt168.1).f1, (rd_T34 t165 bt168.1).f2, (rd_T34 t165 bt168.1).f3, true)) else (none)) else (none)) else (some (0, 0, 0, (⟨#[]⟩ : ByteArray), false))))) = some (r1, r2, r3, r4, r5) := h
 clear h
 replace H := Option.bind_eq_some_iff.mp H
 obtain ⟨t165, A30, H⟩ := H
 replace H : ((table_place.f k t165 a1).bind fun bt168 => (if bt168.2 = true then (if 0 ≤ bt168.1 then (if bt168.1 < (t165.length : Int) then (some ((rd_T34 t165 bt168.1).f0, (rd_T34 t165 bt168.1).f1, (rd_T34 t165 bt168.1).f2, (rd_T34 t165 bt168.1).f3, true)) else (none)) else (none)) else (some (0, 0, 0, (⟨#[]⟩ : ByteArray), false)))) = some (r1, r2, r3, r4, r5) := H
 have A3 := Aside0.mk A30
 clear A30
 replace H := Option.bind_eq_some_iff.mp H
 obtain ⟨⟨t168, t169⟩, A40, H⟩ := H
 replace H : (if t169 = true then (if 0 ≤ t168 then (if t168 < (t165.length : Int) then (some ((rd_T34 t165 t168).f0, (rd_T34 t165 t168).f1, (rd_T34 t165 t168).f2, (rd_T34 t165 t168).f3, true)) else (none)) else (none)) else (some (0, 0, 0, (⟨#[]⟩ : ByteArray), false))) = some (r1, r2, r3, r4, r5) := H
 have A4 := Aside0.mk A40
 clear A40
 by_cases c5 : t169 = true
 rotate_left
 · replace c5 := Bool.eq_false_iff.mpr c5
   subst c5
   have H1 : (some (0, 0, 0, (⟨#[]⟩ : ByteArray), false)) = some (r1, r2, r3, r4, r5) := by rw [if_neg (show ¬ (false = true) by decide)] at H; exact H
   clear H
   have H := H1
   clear H1
   simp only [Option.some.injEq, Prod.mk.injEq] at H
   obtain ⟨rfl, rfl, rfl, rfl, rfl⟩ := H
   go_enter Try.func30, Try.ntmps30
   go_wp2_with (first | ((with_reducible refine gate_dst (N := 4) rfl ?_); refine box_event rfl (N := 4) rfl (cs := #[.int .i64 0, .int .i64 0, .int .i64 0, .string (⟨#[]⟩ : ByteArray)]) (t := 34) sqs ?_; intro gb164 hg w12 hbox hb; have BK164 := sqM (hbox); have GW164 := sqM (sqZ hg (sqB HB.out)); have GE164 := sqM (sqZ hg (sqB HB.out)); replace HB := sqM (below_step (sqB HB.out) hb); clear hb hbox hg) | ((with_reducible refine gate_callee (f := 38) rfl ?_); refine goesL_ (some 9) rfl rfl Try.func38 (by kernel_rfl) rfl #[.slice A0 l0.length c0] rfl sqA ?_; (with_reducible refine (table_good.calls _ _ _ _ _ _ ?side1 ?side2 A3.out).mono ?_); (case side1 => repeat (first | exact (Kd.C_below HR0.out HB.out) | (with_reducible refine Kd.C_alloc ?_ _) | (with_reducible refine Kd.C_drewN ?_ _) | (with_reducible refine Kd.C_drew ?_))); (case side2 => exact HC0.out); rintro e w13 ⟨v166, rfl, ho0, hb⟩; refine ⟨_, rfl, ?_⟩; have HO167 := sqM (Kd.R_lower (Kd.R_newB ho0 (g := gb164) (o := .cells #[.int .i64 0, .int .i64 0, .int .i64 0, .string (⟨#[]⟩ : ByteArray)] 34 (0, 0)) (sqK BK164.out)) (below_size (sqB1 HB.out GE164.out))); replace BK164 := sqM (blk_below (sqK BK164.out) hb); replace HB := sqM (below_step (sqB1 HB.out GE164.out) hb); (try clear hb); (try clear hb2); (try clear hk); (try clear hi); (try clear ho0); obtain ⟨Ao14, co14, eo14⟩ := Kd.R_slice HO167.out; subst eo14) | ((with_reducible refine gate_callee (f := 39) rfl ?_); refine goesL_ (some 13) rfl rfl Try.func39 (by kernel_rfl) rfl #[.slice Ao14 t165.length co14, .int .i64 a1] rfl sqA ?_; (with_reducible refine (table_place.calls _ _ _ _ _ _ _ _ ?side1 ?side2 A4.out).mono ?_); (case side1 => repeat (first | exact (Kd.R_reads' HO167.out).2.2 | (with_reducible refine Kd.C_alloc ?_ _) | (with_reducible refine Kd.C_drewN ?_ _) | (with_reducible refine Kd.C_drew ?_))); (case side2 => exact (Kd.R_reads' HO167.out).2.1); rintro e w' ⟨rfl, ⟨nd, rfl⟩⟩; refine ⟨_, rfl, ?_⟩; (try (rw [drewN_self w13]; generalize hq_ : World.drewN w13 _ = w13; have n0_ : Aside0 (Kd.R k34 34 w13 w.heap.size (fun k_ => k_ ≠ gb164) (.slice Ao14 t165.length co14) t165) := ⟨by rw [← hq_]; exact (by refine sqR ?_; exact Kd.R_mono HO167.out (fun _ hk => hk.2))⟩; have n1_ : Aside0 (w13.heap[gb164]? = some (.cells #[.int .i64 0, .int .i64 0, .int .i64 0, .string (⟨#[]⟩ : ByteArray)] 34 (0, 0))) := ⟨by rw [← hq_]; exact (sqK BK164.out)⟩; have n2_ : Aside0 (Below w.heap.size w w13) := ⟨by rw [← hq_]; exact (sqB1 HB.out GE164.out)⟩; clear HO167 BK164 HB hq_; have HO167 := n0_; have BK164 := n1_; have HB := n2_; clear n0_ n1_ n2_)); (try (have hcy164_0 : w13.cell? ⟨gb164, 0, none⟩ = some (.int .i64 0) := (blk_cell BK164.out 0).trans rfl)); (try (have hcy164_1 : w13.cell? ⟨gb164, 1, none⟩ = some (.int .i64 0) := (blk_cell BK164.out 1).trans rfl)); (try (have hcy164_2 : w13.cell? ⟨gb164, 2, none⟩ = some (.int .i64 0) := (blk_cell BK164.out 2).trans rfl)); (try (have hcy164_3 : w13.cell? ⟨gb164, 3, none⟩ = some (.string (⟨#[]⟩ : ByteArray)) := (blk_cell BK164.out 3).trans rfl)); obtain ⟨hcz15_0, hcz15_1, hcz15_2, hcz15_3, hfz15_0, hfz15_1, hfz15_2, hfz15_3⟩ := sqF4 BK164.out))
   refine bodyPost_ret (results_ct rfl _ _ gb164 34 #[.int .i64 0, .int .i64 0, .int .i64 0, .string (⟨#[]⟩ : ByteArray)] (0, 0) _ rfl (by exact (sqP4 BK164.out)) Try.underlying34 rfl (by kernel_rfl)) rfl ?_
   exact ⟨sqE, sqB1 HB.out GE164.out⟩
 subst c5
 have H1 : (if 0 ≤ t168 then (if t168 < (t165.length : Int) then (some ((rd_T34 t165 t168).f0, (rd_T34 t165 t168).f1, (rd_T34 t165 t168).f2, (rd_T34 t165 t168).f3, true)) else (none)) else (none)) = some (r1, r2, r3, r4, r5) := by rw [if_pos rfl] at H; exact H
 clear H
 have H := H1
 clear H1
 by_cases c6 : 0 ≤ t168
 rotate_left
 · rw [if_neg c6] at H
   exact absurd H (by simp)
 rw [if_pos c6] at H
 have c6b0 : decide (0 ≤ t168) = true := decide_eq_true c6
 clear c6
 by_cases c7 : t168 < (t165.length : Int)
 rotate_left
 · rw [if_neg c7] at H
   exact absurd H (by simp)
 rw [if_pos c7] at H
 have c7b0 : decide (t168 < (t165.length : Int)) = true := decide_eq_true c7
 clear c7
 simp only [Option.some.injEq, Prod.mk.injEq] at H
 obtain ⟨rfl, rfl, rfl, rfl, rfl⟩ := H
 go_enter Try.func30, Try.ntmps30
 go_wp2_with (first | ((with_reducible refine gate_dst (N := 4) rfl ?_); refine box_event rfl (N := 4) rfl (cs := #[.int .i64 0, .int .i64 0, .int .i64 0, .string (⟨#[]⟩ : ByteArray)]) (t := 34) sqs ?_; intro gb164 hg w8 hbox hb; have BK164 := sqM (hbox); have GW164 := sqM (sqZ hg (sqB HB.out)); have GE164 := sqM (sqZ hg (sqB HB.out)); replace HB := sqM (below_step (sqB HB.out) hb); clear hb hbox hg) | ((with_reducible refine gate_callee (f := 38) rfl ?_); refine goesL_ (some 9) rfl rfl Try.func38 (by kernel_rfl) rfl #[.slice A0 l0.length c0] rfl sqA ?_; (with_reducible refine (table_good.calls _ _ _ _ _ _ ?side1 ?side2 A3.out).mono ?_); (case side1 => repeat (first | exact (Kd.C_below HR0.out HB.out) | (with_reducible refine Kd.C_alloc ?_ _) | (with_reducible refine Kd.C_drewN ?_ _) | (with_reducible refine Kd.C_drew ?_))); (case side2 => exact HC0.out); rintro e w9 ⟨v166, rfl, ho0, hb⟩; refine ⟨_, rfl, ?_⟩; have HO167 := sqM (Kd.R_lower (Kd.R_newB ho0 (g := gb164) (o := .cells #[.int .i64 0, .int .i64 0, .int .i64 0, .string (⟨#[]⟩ : ByteArray)] 34 (0, 0)) (sqK BK164.out)) (below_size (sqB1 HB.out GE164.out))); replace BK164 := sqM (blk_below (sqK BK164.out) hb); replace HB := sqM (below_step (sqB1 HB.out GE164.out) hb); (try clear hb); (try clear hb2); (try clear hk); (try clear hi); (try clear ho0); obtain ⟨Ao10, co10, eo10⟩ := Kd.R_slice HO167.out; subst eo10) | ((with_reducible refine gate_callee (f := 39) rfl ?_); refine goesL_ (some 13) rfl rfl Try.func39 (by kernel_rfl) rfl #[.slice Ao10 t165.length co10, .int .i64 a1] rfl sqA ?_; (with_reducible refine (table_place.calls _ _ _ _ _ _ _ _ ?side1 ?side2 A4.out).mono ?_); (case side1 => repeat (first | exact (Kd.R_reads' HO167.out).2.2 | (with_reducible refine Kd.C_alloc ?_ _) | (with_reducible refine Kd.C_drewN ?_ _) | (with_reducible refine Kd.C_drew ?_))); (case side2 => exact (Kd.R_reads' HO167.out).2.1); rintro e w' ⟨rfl, ⟨nd, rfl⟩⟩; refine ⟨_, rfl, ?_⟩; (try (rw [drewN_self w9]; generalize hq_ : World.drewN w9 _ = w9; have n0_ : Aside0 (Kd.R k34 34 w9 w.heap.size (fun k_ => k_ ≠ gb164) (.slice Ao10 t165.length co10) t165) := ⟨by rw [← hq_]; exact (by refine sqR ?_; exact Kd.R_mono HO167.out (fun _ hk => hk.2))⟩; have n1_ : Aside0 (w9.heap[gb164]? = some (.cells #[.int .i64 0, .int .i64 0, .int .i64 0, .string (⟨#[]⟩ : ByteArray)] 34 (0, 0))) := ⟨by rw [← hq_]; exact (sqK BK164.out)⟩; have n2_ : Aside0 (Below w.heap.size w w9) := ⟨by rw [← hq_]; exact (sqB1 HB.out GE164.out)⟩; clear HO167 BK164 HB hq_; have HO167 := n0_; have BK164 := n1_; have HB := n2_; clear n0_ n1_ n2_)); (try (have hcy164_0 : w9.cell? ⟨gb164, 0, none⟩ = some (.int .i64 0) := (blk_cell BK164.out 0).trans rfl)); (try (have hcy164_1 : w9.cell? ⟨gb164, 1, none⟩ = some (.int .i64 0) := (blk_cell BK164.out 1).trans rfl)); (try (have hcy164_2 : w9.cell? ⟨gb164, 2, none⟩ = some (.int .i64 0) := (blk_cell BK164.out 2).trans rfl)); (try (have hcy164_3 : w9.cell? ⟨gb164, 3, none⟩ = some (.string (⟨#[]⟩ : ByteArray)) := (blk_cell BK164.out 3).trans rfl)); have p170 : 0 ≤ (t168 : Int) := of_decide_eq_true sqH; have q170 : t168 < (t165.length : Int) := of_decide_eq_true sqH; obtain ⟨ad170, e170, hx170_0, hx170_1, hx170_2, hx170_3⟩ := at_T34 (Kd.R_reads' HO167.out).2.2 t168 p170 q170; cases e170; replace p170 := eq_true p170; replace q170 := eq_true q170; obtain ⟨hcz11_0, hcz11_1, hcz11_2, hcz11_3, hfz11_0, hfz11_1, hfz11_2, hfz11_3⟩ := sqF4 BK164.out))
 refine bodyPost_ret (results_ct rfl _ _ gb164 34 #[.int .i64 ((rd_T34 t165 t168).f0), .int .i64 ((rd_T34 t165 t168).f1), .int .i64 ((rd_T34 t165 t168).f2), .string ((rd_T34 t165 t168).f3)] (0, 0) _ rfl (by exact (sqP4 BK164.out)) Try.underlying34 rfl (by kernel_rfl)) rfl ?_
 exact ⟨sqE, sqB1 HB.out GE164.out⟩

/-! ### queue_Until: function 17 -/
def queue_Until.f (k : Nat) (l0 : List (S34)) (a1 : Int) (a2 : Int) : Option (Int) := (table_Get.f k l0 a1).bind fun bt171 => (if bt171.2.2.2.2 = true then ((queue_counts.f bt171.1 bt171.2.1 bt171.2.2.1 bt171.2.2.2.1 a2).bind fun t177 => (if t177 = true then (some (wrap64 (bt171.2.2.1 - a2))) else (some 0))) else (some 0))
theorem queue_Until.mono : ∀ a0 a1 a2 k, LeO (queue_Until.f k a0 a1 a2) (queue_Until.f (k + 1) a0 a1 a2) := by
 intro a0 a1 a2 k
 unfold queue_Until.f
 repeat' first
  | (with_reducible exact table_Get.mono _ _ _)
  | (with_reducible exact LeO.refl _)
  | (with_reducible exact LeO.none _)
  | (with_reducible refine LeO.ite ?_ ?_)
  | (with_reducible refine LeO.bind ?_ (fun _ => ?_))
  | exact table_Get.mono _ _ _
  | exact LeO.none _
  | refine LeO.ite ?_ ?_
  | refine LeO.bind ?_ (fun _ => ?_)
set_option maxHeartbeats 8000000 in
set_option maxRecDepth 100000 in
theorem queue_Until.calls (k : Nat) (A0 : Option Addr) (c0 : Nat) (l0 : List (S34)) (a1 : Int) (a2 : Int) (r : Int) (w : World) (hr0 : Kd.C k34 w A0 l0.length l0) (hc0 : l0.length ≤ c0) (h : queue_Until.f k l0 a1 a2 = some r) :
    Calls Try.prog 17 #[.slice A0 l0.length c0, .int .i64 a1, .int .i64 a2] w fun e w' => e = .returned (.int .i64 r) ∧ Below w.heap.size w w' := by
 have hu34 := Try.underlying34
 have HR0 := Aside0.mk hr0
 have HC0 := Aside0.mk hc0
 clear hr0 hc0
 have HB := Aside0.mk (Below.refl w.heap.size w)
 have H : ((table_Get.f k l0 a1).bind fun bt171 => (if bt171.2.2.2.2 = true then ((queue_counts.f bt171.1 bt171.2.1 bt171.2.2.1 bt171.2.2.2.1 a2).bind fun t177 => (if t177 = true then (some (wrap64 (bt171.2.2.1 - a2))) else (some 0))) else (some 0))) = some r := h
 clear h
 replace H := Option.bind_eq_some_iff.mp H
 obtain ⟨⟨t171, t172, t173, t174, t175⟩, A40, H⟩ := H
 replace H : (if t175 = true then ((queue_counts.f t171 t172 t173 t174 a2).bind fun t177 => (if t177 = true then (some (wrap64 (t173 - a2))) else (some 0))) else (some 0)) = some r := H
 have A4 := Aside0.mk A40
 clear A40
 by_cases c5 : t175 = true
 rotate_left
 · replace c5 := Bool.eq_false_iff.mpr c5
   subst c5
   have H1 : (some 0) = some r := by rw [if_neg (show ¬ (false = true) by decide)] at H; exact H
   clear H
   have H := H1
   clear H1
   obtain rfl := Option.some.inj H
   go_enter Try.func17, Try.ntmps17
   go_wp2_with (first | ((with_reducible refine gate_callee (f := 30) rfl ?_); refine goesL_ (some 12) rfl rfl Try.func30 (by kernel_rfl) rfl #[.slice A0 l0.length c0, .int .i64 a1] rfl sqA ?_; (with_reducible refine (table_Get.calls _ _ _ _ _ _ _ _ _ _ _ ?side1 ?side2 A4.out).mono ?_); (case side1 => repeat (first | exact HR0.out | (with_reducible refine Kd.C_alloc ?_ _) | (with_reducible refine Kd.C_drewN ?_ _) | (with_reducible refine Kd.C_drew ?_))); (case side2 => exact HC0.out); rintro e w17 ⟨rfl, hb⟩; refine ⟨_, rfl, ?_⟩; replace HB := sqM (below_step (sqB HB.out) hb); (try clear hb); (try clear hb2); (try clear hk); (try clear hi)) | ((with_reducible refine gate_dst (N := 7) rfl ?_); refine box_event rfl (N := 7) rfl (cs := #[.int .i64 0, .int .i64 0, .int .i64 0, .string (⟨#[]⟩ : ByteArray)]) (t := 34) sqs ?_; intro gb176 hg w18 hbox hb; have BK176 := sqM (hbox); have GW176 := sqM (sqZ hg (sqB HB.out)); have GE176 := sqM (sqZ hg (sqB HB.out)); replace HB := sqM (below_step (sqB HB.out) hb); clear hb hbox hg; obtain ⟨hcz19_0, hcz19_1, hcz19_2, hcz19_3, hfz19_0, hfz19_1, hfz19_2, hfz19_3⟩ := sqF4 BK176.out))
   go_ret
   exact ⟨sqE, sqB1 HB.out GE176.out⟩
 subst c5
 have H1 : ((queue_counts.f t171 t172 t173 t174 a2).bind fun t177 => (if t177 = true then (some (wrap64 (t173 - a2))) else (some 0))) = some r := by rw [if_pos rfl] at H; exact H
 clear H
 have H := H1
 clear H1
 replace H := Option.bind_eq_some_iff.mp H
 obtain ⟨t177, A60, H⟩ := H
 replace H : (if t177 = true then (some (wrap64 (t173 - a2))) else (some 0)) = some r := H
 have A6 := Aside0.mk A60
 clear A60
 by_cases c7 : t177 = true
 · subst c7
   have H1 : (some (wrap64 (t173 - a2))) = some r := by rw [if_pos rfl] at H; exact H
   clear H
   have H := H1
   clear H1
   obtain rfl := Option.some.inj H
   go_enter Try.func17, Try.ntmps17
   go_wp2_with (first | ((with_reducible refine gate_callee (f := 30) rfl ?_); refine goesL_ (some 12) rfl rfl Try.func30 (by kernel_rfl) rfl #[.slice A0 l0.length c0, .int .i64 a1] rfl sqA ?_; (with_reducible refine (table_Get.calls _ _ _ _ _ _ _ _ _ _ _ ?side1 ?side2 A4.out).mono ?_); (case side1 => repeat (first | exact HR0.out | (with_reducible refine Kd.C_alloc ?_ _) | (with_reducible refine Kd.C_drewN ?_ _) | (with_reducible refine Kd.C_drew ?_))); (case side2 => exact HC0.out); rintro e w8 ⟨rfl, hb⟩; refine ⟨_, rfl, ?_⟩; replace HB := sqM (below_step (sqB HB.out) hb); (try clear hb); (try clear hb2); (try clear hk); (try clear hi)) | ((with_reducible refine gate_dst (N := 7) rfl ?_); refine box_event rfl (N := 7) rfl (cs := #[.int .i64 0, .int .i64 0, .int .i64 0, .string (⟨#[]⟩ : ByteArray)]) (t := 34) sqs ?_; intro gb176 hg w9 hbox hb; have BK176 := sqM (hbox); have GW176 := sqM (sqZ hg (sqB HB.out)); have GE176 := sqM (sqZ hg (sqB HB.out)); replace HB := sqM (below_step (sqB HB.out) hb); clear hb hbox hg; obtain ⟨hcz10_0, hcz10_1, hcz10_2, hcz10_3, hfz10_0, hfz10_1, hfz10_2, hfz10_3⟩ := sqF4 BK176.out) | (go_at_call 28; (with_reducible refine (queue_counts.calls _ _ _ _ _ _ _ A6.out).mono ?_); rintro e w11 ⟨rfl, hb⟩; replace BK176 := sqM (blk_below (sqP4 BK176.out) hb); replace HB := sqM (below_step (sqB1 HB.out GE176.out) hb); (try clear hb); (try clear hb2); (try clear hk); (try clear hi); obtain ⟨hcz12_0, hcz12_1, hcz12_2, hcz12_3, hfz12_0, hfz12_1, hfz12_2, hfz12_3⟩ := sqF4 BK176.out))
   go_ret
   exact ⟨sqE, sqB1 HB.out GE176.out⟩
 replace c7 := Bool.eq_false_iff.mpr c7
 subst c7
 have H1 : (some 0) = some r := by rw [if_neg (show ¬ (false = true) by decide)] at H; exact H
 clear H
 have H := H1
 clear H1
 obtain rfl := Option.some.inj H
 go_enter Try.func17, Try.ntmps17
 go_wp2_with (first | ((with_reducible refine gate_callee (f := 30) rfl ?_); refine goesL_ (some 12) rfl rfl Try.func30 (by kernel_rfl) rfl #[.slice A0 l0.length c0, .int .i64 a1] rfl sqA ?_; (with_reducible refine (table_Get.calls _ _ _ _ _ _ _ _ _ _ _ ?side1 ?side2 A4.out).mono ?_); (case side1 => repeat (first | exact HR0.out | (with_reducible refine Kd.C_alloc ?_ _) | (with_reducible refine Kd.C_drewN ?_ _) | (with_reducible refine Kd.C_drew ?_))); (case side2 => exact HC0.out); rintro e w13 ⟨rfl, hb⟩; refine ⟨_, rfl, ?_⟩; replace HB := sqM (below_step (sqB HB.out) hb); (try clear hb); (try clear hb2); (try clear hk); (try clear hi)) | ((with_reducible refine gate_dst (N := 7) rfl ?_); refine box_event rfl (N := 7) rfl (cs := #[.int .i64 0, .int .i64 0, .int .i64 0, .string (⟨#[]⟩ : ByteArray)]) (t := 34) sqs ?_; intro gb176 hg w14 hbox hb; have BK176 := sqM (hbox); have GW176 := sqM (sqZ hg (sqB HB.out)); have GE176 := sqM (sqZ hg (sqB HB.out)); replace HB := sqM (below_step (sqB HB.out) hb); clear hb hbox hg; obtain ⟨hcz15_0, hcz15_1, hcz15_2, hcz15_3, hfz15_0, hfz15_1, hfz15_2, hfz15_3⟩ := sqF4 BK176.out) | (go_at_call 28; (with_reducible refine (queue_counts.calls _ _ _ _ _ _ _ A6.out).mono ?_); rintro e w16 ⟨rfl, hb⟩; replace BK176 := sqM (blk_below (sqP4 BK176.out) hb); replace HB := sqM (below_step (sqB1 HB.out GE176.out) hb); (try clear hb); (try clear hb2); (try clear hk); (try clear hi)))
 go_ret
 exact ⟨sqE, sqB1 HB.out GE176.out⟩

/-! ### boarderlaw25_knows: function 9 -/
def boarderlaw25_knows.f (k : Nat)  : Option (Bool) := (some (([(⟨1, 1, 10, (⟨#[105, 48, 49]⟩ : ByteArray)⟩ : S34), (⟨2, 3, 5, (⟨#[105, 48, 50]⟩ : ByteArray)⟩ : S34), (⟨3, 2, 3, (⟨#[105, 48, 51]⟩ : ByteArray)⟩ : S34)] : List (S34)) : List (S34))).bind fun y181 => ((queue_ByEnd.f k y181).bind fun t184 => ((queue_Next.f k y181 4).bind fun bt187 => (if (t184.length : Int) = 2 then (if 0 < (t184.length : Int) then (if (((rd_T34 t184 0).f0) == 2 && (((rd_T34 t184 0).f1) == 3 && (((rd_T34 t184 0).f2) == 5 && ((((rd_T34 t184 0).f3).toList) == ([105, 48, 50] : List UInt8))))) = true then (if 1 < (t184.length : Int) then (if (((rd_T34 t184 1).f0) == 1 && (((rd_T34 t184 1).f1) == 1 && (((rd_T34 t184 1).f2) == 10 && ((((rd_T34 t184 1).f3).toList) == ([105, 48, 49] : List UInt8))))) = true then (if bt187.1 = 5 then (if bt187.2 = true then ((queue_Ended.f k y181 4 10).bind fun t191 => (if (t191.length : Int) = 2 then ((queue_Until.f k y181 1 4).bind fun t194 => (if t194 = 6 then ((queue_Until.f k y181 3 1).bind fun t195 => (some (t195 == 0))) else (none))) else (none))) else (none)) else (none)) else (none)) else (none)) else (none)) else (none)) else (none))))
theorem boarderlaw25_knows.mono : ∀ k, LeO (boarderlaw25_knows.f k ) (boarderlaw25_knows.f (k + 1) ) := by
 intro  k
 unfold boarderlaw25_knows.f
 repeat' first
  | (with_reducible exact queue_ByEnd.mono _ _)
  | (with_reducible exact queue_Ended.mono _ _ _ _)
  | (with_reducible exact queue_Next.mono _ _ _)
  | (with_reducible exact queue_Until.mono _ _ _ _)
  | (with_reducible exact LeO.refl _)
  | (with_reducible exact LeO.none _)
  | (with_reducible refine LeO.ite ?_ ?_)
  | (with_reducible refine LeO.bind ?_ (fun _ => ?_))
  | exact queue_ByEnd.mono _ _
  | exact queue_Ended.mono _ _ _ _
  | exact queue_Next.mono _ _ _
  | exact queue_Until.mono _ _ _ _
  | exact LeO.none _
  | refine LeO.ite ?_ ?_
  | refine LeO.bind ?_ (fun _ => ?_)
def boarderlaw25_knows.T7 : Bool × List (List Nat × List Nat) := (true, [([], []), ([0], [0]), ([1], [1]), ([2], [2]), ([3], [3]), ([4, 3], [3, 4]), ([5, 3], [3, 5]), ([3], [3]), ([6, 7, 3], [3, 6, 7]), ([3, 8], [3, 8]), ([9, 3], [9]), ([10], [10]), ([11, 10], [10, 11]), ([12, 10], [10, 12]), ([10], [10]), ([13, 14, 10], [10, 13, 14]), ([10, 15], [10, 15]), ([16, 10], [16]), ([17], [17]), ([18, 17], [17, 18]), ([17, 19], [17, 19]), ([20, 17], [20]), ([21], [21]), ([21, 22], [21, 22]), ([23, 21], [23]), ([24], [24]), ([25, 24, 24], [24, 25]), ([26, 24], [24, 26]), ([27, 24], [24, 27]), ([24, 28], [24, 28]), ([29, 26], [29]), ([30], [30]), ([31, 30, 30], [30, 31]), ([32, 30], [30, 32]), ([30, 33], [30, 33]), ([34, 32], [34]), ([35], [35]), ([36, 35, 35], [35, 36]), ([37, 35], [35, 37]), ([35, 38], [35, 38]), ([39, 37, 0, 1, 2, 3, 4, 5, 6, 7, 8, 9, 10, 11, 12, 13, 14, 15, 16, 17, 18, 19, 20, 21, 22, 23, 24, 25, 26, 27, 28, 29, 30, 31, 32, 33, 34, 35, 36, 37, 38, 39], [39])])
def boarderlaw25_knows.B7 : List Nat := [0, 1, 3, 7, 15, 31, 63, 15, 255, 511, 1023, 2047, 4095, 8191, 2047, 32767, 65535, 131071, 262143, 524287, 1048575, 2097151, 4194303, 8388607, 16777215, 33554431, 67108863, 134217727, 268435455, 536870911, 1073741823, 2147483647, 4294967295, 8589934591, 17179869183, 34359738367, 68719476735, 137438953471, 274877906943, 549755813887, 1099511627775]
theorem boarderlaw25_knows.tab7 : rtab .any (opsOf Try.f9 7) = boarderlaw25_knows.T7 := by kernel_rfl
theorem boarderlaw25_knows.bits7 : waitsOk boarderlaw25_knows.T7.2 boarderlaw25_knows.B7 = true := by kernel_rfl
set_option maxHeartbeats 8000000 in
set_option maxRecDepth 100000 in
theorem boarderlaw25_knows.calls (k : Nat)  (r : Bool) (w : World) (h : boarderlaw25_knows.f k  = some r) :
    Calls Try.prog 9 #[] w fun e w' => e = .returned (.bool r) ∧ Below w.heap.size w w' := by
 have hu34 := Try.underlying34
 have HB := Aside0.mk (Below.refl w.heap.size w)
 have H : ((some (([(⟨1, 1, 10, (⟨#[105, 48, 49]⟩ : ByteArray)⟩ : S34), (⟨2, 3, 5, (⟨#[105, 48, 50]⟩ : ByteArray)⟩ : S34), (⟨3, 2, 3, (⟨#[105, 48, 51]⟩ : ByteArray)⟩ : S34)] : List (S34)) : List (S34))).bind fun y181 => ((queue_ByEnd.f k y181).bind fun t184 => ((queue_Next.f k y181 4).bind fun bt187 => (if (t184.length : Int) = 2 then (if 0 < (t184.length : Int) then (if (((rd_T34 t184 0).f0) == 2 && (((rd_T34 t184 0).f1) == 3 && (((rd_T34 t184 0).f2) == 5 && ((((rd_T34 t184 0).f3).toList) == ([105, 48, 50] : List UInt8))))) = true then (if 1 < (t184.length : Int) then (if (((rd_T34 t184 1).f0) == 1 && (((rd_T34 t184 1).f1) == 1 && (((rd_T34 t184 1).f2) == 10 && ((((rd_T34 t184 1).f3).toList) == ([105, 48, 49] : List UInt8))))) = true then (if bt187.1 = 5 then (if bt187.2 = true then ((queue_Ended.f k y181 4 10).bind fun t191 => (if (t191.length : Int) = 2 then ((queue_Until.f k y181 1 4).bind fun t194 => (if t194 = 6 then ((queue_Until.f k y181 3 1).bind fun t195 => (some (t195 == 0))) else (none))) else (none))) else (none)) else (none)) else (none)) else (none)) else (none)) else (none)) else (none))))) = some r := h
 clear h
 obtain ⟨y181, hy181⟩ : ∃ y_ : List (S34), y_ = (([(⟨1, 1, 10, (⟨#[105, 48, 49]⟩ : ByteArray)⟩ : S34), (⟨2, 3, 5, (⟨#[105, 48, 50]⟩ : ByteArray)⟩ : S34), (⟨3, 2, 3, (⟨#[105, 48, 51]⟩ : ByteArray)⟩ : S34)] : List (S34))) := ⟨_, rfl⟩
 replace H : ((queue_ByEnd.f k y181).bind fun t184 => ((queue_Next.f k y181 4).bind fun bt187 => (if (t184.length : Int) = 2 then (if 0 < (t184.length : Int) then (if (((rd_T34 t184 0).f0) == 2 && (((rd_T34 t184 0).f1) == 3 && (((rd_T34 t184 0).f2) == 5 && ((((rd_T34 t184 0).f3).toList) == ([105, 48, 50] : List UInt8))))) = true then (if 1 < (t184.length : Int) then (if (((rd_T34 t184 1).f0) == 1 && (((rd_T34 t184 1).f1) == 1 && (((rd_T34 t184 1).f2) == 10 && ((((rd_T34 t184 1).f3).toList) == ([105, 48, 49] : List UInt8))))) = true then (if bt187.1 = 5 then (if bt187.2 = true then ((queue_Ended.f k y181 4 10).bind fun t191 => (if (t191.length : Int) = 2 then ((queue_Until.f k y181 1 4).bind fun t194 => (if t194 = 6 then ((queue_Until.f k y181 3 1).bind fun t195 => (some (t195 == 0))) else (none))) else (none))) else (none)) else (none)) else (none)) else (none)) else (none)) else (none)) else (none)))) = some r := by first | (rw [hy181]; with_reducible exact H) | (have H2_ := (Option.bind_some _ _).symm.trans H; rw [hy181]; with_reducible exact H2_) | (have H2_ := (Option.bind_some _ _).symm.trans H; with_reducible exact H2_) | with_reducible exact H | (rw [hy181]; exact H) | exact H
 have Ny181 := Aside0.mk hy181
 clear hy181
 replace H := Option.bind_eq_some_iff.mp H
 obtain ⟨t184, A10, H⟩ := H
 replace H : ((queue_Next.f k y181 4).bind fun bt187 => (if (t184.length : Int) = 2 then (if 0 < (t184.length : Int) then (if (((rd_T34 t184 0).f0) == 2 && (((rd_T34 t184 0).f1) == 3 && (((rd_T34 t184 0).f2) == 5 && ((((rd_T34 t184 0).f3).toList) == ([105, 48, 50] : List UInt8))))) = true then (if 1 < (t184.length : Int) then (if (((rd_T34 t184 1).f0) == 1 && (((rd_T34 t184 1).f1) == 1 && (((rd_T34 t184 1).f2) == 10 && ((((rd_T34 t184 1).f3).toList) == ([105, 48, 49] : List UInt8))))) = true then (if bt187.1 = 5 then (if bt187.2 = true then ((queue_Ended.f k y181 4 10).bind fun t191 => (if (t191.length : Int) = 2 then ((queue_Until.f k y181 1 4).bind fun t194 => (if t194 = 6 then ((queue_Until.f k y181 3 1).bind fun t195 => (some (t195 == 0))) else (none))) else (none))) else (none)) else (none)) else (none)) else (none)) else (none)) else (none)) else (none))) = some r := H
 have A1 := Aside0.mk A10
 clear A10
 replace H := Option.bind_eq_some_iff.mp H
 obtain ⟨⟨t187, t188⟩, A20, H⟩ := H
 replace H : (if (t184.length : Int) = 2 then (if 0 < (t184.length : Int) then (if (((rd_T34 t184 0).f0) == 2 && (((rd_T34 t184 0).f1) == 3 && (((rd_T34 t184 0).f2) == 5 && ((((rd_T34 t184 0).f3).toList) == ([105, 48, 50] : List UInt8))))) = true then (if 1 < (t184.length : Int) then (if (((rd_T34 t184 1).f0) == 1 && (((rd_T34 t184 1).f1) == 1 && (((rd_T34 t184 1).f2) == 10 && ((((rd_T34 t184 1).f3).toList) == ([105, 48, 49] : List UInt8))))) = true then (if t187 = 5 then (if t188 = true then ((queue_Ended.f k y181 4 10).bind fun t191 => (if (t191.length : Int) = 2 then ((queue_Until.f k y181 1 4).bind fun t194 => (if t194 = 6 then ((queue_Until.f k y181 3 1).bind fun t195 => (some (t195 == 0))) else (none))) else (none))) else (none)) else (none)) else (none)) else (none)) else (none)) else (none)) else (none)) = some r := H
 have A2 := Aside0.mk A20
 clear A20
 by_cases c3 : (t184.length : Int) = 2
 rotate_left
 · rw [if_neg c3] at H
   have c3b0 : ((t184.length : Int) == 2) = false := beq_eq_false_iff_ne.mpr c3
   have c3b1 : ((t184.length : Int) != 2) = true := bne_iff_ne.mpr c3
   exact absurd H (by simp)
 rw [if_pos c3] at H
 have c3b0 : ((t184.length : Int) == 2) = true := beq_iff_eq.mpr c3
 have c3b1 : ((t184.length : Int) != 2) = false := bne_eq_false_iff_eq.mpr c3
 clear c3
 by_cases c4 : 0 < (t184.length : Int)
 rotate_left
 · rw [if_neg c4] at H
   exact absurd H (by simp)
 rw [if_pos c4] at H
 have c4b0 : decide (0 < (t184.length : Int)) = true := decide_eq_true c4
 have c4b1 : decide (0 < t184.length) = true := decide_eq_true (by omega)
 clear c4
 by_cases c5 : (((rd_T34 t184 0).f0) == 2 && (((rd_T34 t184 0).f1) == 3 && (((rd_T34 t184 0).f2) == 5 && ((((rd_T34 t184 0).f3).toList) == ([105, 48, 50] : List UInt8))))) = true
 rotate_left
 · rw [if_neg c5] at H
   have c5b0 : (((rd_T34 t184 0).f0) == 2 && (((rd_T34 t184 0).f1) == 3 && (((rd_T34 t184 0).f2) == 5 && ((((rd_T34 t184 0).f3).toList) == ([105, 48, 50] : List UInt8))))) = false := by simpa using c5
   (try (have c5b1 : decide (((rd_T34 t184 0).f0) = 2 && (((rd_T34 t184 0).f1) == 3 && (((rd_T34 t184 0).f2) == 5 && ((((rd_T34 t184 0).f3).toList) == ([105, 48, 50] : List UInt8))))) = false := by simpa using c5))
   (try (have c5b2 : (((rd_T34 t184 0).f0) == 2 && (((rd_T34 t184 0).f1) == 3 && (((rd_T34 t184 0).f2) == 5 && ((((rd_T34 t184 0).f3).toList) == ([105, 48, 50] : List UInt8))))) = false := by simpa using c5))
   (try (have c5b3 : ¬ (((rd_T34 t184 0).f0) = 2 && (((rd_T34 t184 0).f1) == 3 && (((rd_T34 t184 0).f2) == 5 && ((((rd_T34 t184 0).f3).toList) == ([105, 48, 50] : List UInt8))))) := by simpa using c5))
   clear c5
   exact absurd H (by simp)
 rw [if_pos c5] at H
 have c5b0 : (((rd_T34 t184 0).f0) == 2 && (((rd_T34 t184 0).f1) == 3 && (((rd_T34 t184 0).f2) == 5 && ((((rd_T34 t184 0).f3).toList) == ([105, 48, 50] : List UInt8))))) = true := c5
 (try (have c5b1 : decide (((rd_T34 t184 0).f0) = 2 && (((rd_T34 t184 0).f1) == 3 && (((rd_T34 t184 0).f2) == 5 && ((((rd_T34 t184 0).f3).toList) == ([105, 48, 50] : List UInt8))))) = true := by simpa using c5))
 (try (have c5b2 : (((rd_T34 t184 0).f0) == 2 && (((rd_T34 t184 0).f1) == 3 && (((rd_T34 t184 0).f2) == 5 && ((((rd_T34 t184 0).f3).toList) == ([105, 48, 50] : List UInt8))))) = true := by simpa using c5))
 clear c5
 by_cases c6 : 1 < (t184.length : Int)
 rotate_left
 · rw [if_neg c6] at H
   exact absurd H (by simp)
 rw [if_pos c6] at H
 have c6b0 : decide (1 < (t184.length : Int)) = true := decide_eq_true c6
 have c6b1 : decide (1 < t184.length) = true := decide_eq_true (by omega)
 clear c6
 by_cases c7 : (((rd_T34 t184 1).f0) == 1 && (((rd_T34 t184 1).f1) == 1 && (((rd_T34 t184 1).f2) == 10 && ((((rd_T34 t184 1).f3).toList) == ([105, 48, 49] : List UInt8))))) = true
 rotate_left
 · rw [if_neg c7] at H
   have c7b0 : (((rd_T34 t184 1).f0) == 1 && (((rd_T34 t184 1).f1) == 1 && (((rd_T34 t184 1).f2) == 10 && ((((rd_T34 t184 1).f3).toList) == ([105, 48, 49] : List UInt8))))) = false := by simpa using c7
   (try (have c7b1 : decide (((rd_T34 t184 1).f0) = 1 && (((rd_T34 t184 1).f1) == 1 && (((rd_T34 t184 1).f2) == 10 && ((((rd_T34 t184 1).f3).toList) == ([105, 48, 49] : List UInt8))))) = false := by simpa using c7))
   (try (have c7b2 : (((rd_T34 t184 1).f0) == 1 && (((rd_T34 t184 1).f1) == 1 && (((rd_T34 t184 1).f2) == 10 && ((((rd_T34 t184 1).f3).toList) == ([105, 48, 49] : List UInt8))))) = false := by simpa using c7))
   (try (have c7b3 : ¬ (((rd_T34 t184 1).f0) = 1 && (((rd_T34 t184 1).f1) == 1 && (((rd_T34 t184 1).f2) == 10 && ((((rd_T34 t184 1).f3).toList) == ([105, 48, 49] : List UInt8))))) := by simpa using c7))
   clear c7
   exact absurd H (by simp)
 rw [if_pos c7] at H
 have c7b0 : (((rd_T34 t184 1).f0) == 1 && (((rd_T34 t184 1).f1) == 1 && (((rd_T34 t184 1).f2) == 10 && ((((rd_T34 t184 1).f3).toList) == ([105, 48, 49] : List UInt8))))) = true := c7
 (try (have c7b1 : decide (((rd_T34 t184 1).f0) = 1 && (((rd_T34 t184 1).f1) == 1 && (((rd_T34 t184 1).f2) == 10 && ((((rd_T34 t184 1).f3).toList) == ([105, 48, 49] : List UInt8))))) = true := by simpa using c7))
 (try (have c7b2 : (((rd_T34 t184 1).f0) == 1 && (((rd_T34 t184 1).f1) == 1 && (((rd_T34 t184 1).f2) == 10 && ((((rd_T34 t184 1).f3).toList) == ([105, 48, 49] : List UInt8))))) = true := by simpa using c7))
 clear c7
 by_cases c8 : t187 = 5
 rotate_left
 · rw [if_neg c8] at H
   have c8b0 : (t187 == 5) = false := beq_eq_false_iff_ne.mpr c8
   have c8b1 : (t187 != 5) = true := bne_iff_ne.mpr c8
   exact absurd H (by simp)
 rw [if_pos c8] at H
 have c8b0 : (t187 == 5) = true := beq_iff_eq.mpr c8
 have c8b1 : (t187 != 5) = false := bne_eq_false_iff_eq.mpr c8
 clear c8
 by_cases c9 : t188 = true
 rotate_left
 · replace c9 := Bool.eq_false_iff.mpr c9
   subst c9
   have H1 : (none) = some r := by rw [if_neg (show ¬ (false = true) by decide)] at H; exact H
   clear H
   have H := H1
   clear H1
   exact absurd H (by simp)
 subst c9
 have H1 : ((queue_Ended.f k y181 4 10).bind fun t191 => (if (t191.length : Int) = 2 then ((queue_Until.f k y181 1 4).bind fun t194 => (if t194 = 6 then ((queue_Until.f k y181 3 1).bind fun t195 => (some (t195 == 0))) else (none))) else (none))) = some r := by rw [if_pos rfl] at H; exact H
 clear H
 have H := H1
 clear H1
 replace H := Option.bind_eq_some_iff.mp H
 obtain ⟨t191, A100, H⟩ := H
 replace H : (if (t191.length : Int) = 2 then ((queue_Until.f k y181 1 4).bind fun t194 => (if t194 = 6 then ((queue_Until.f k y181 3 1).bind fun t195 => (some (t195 == 0))) else (none))) else (none)) = some r := H
 have A10 := Aside0.mk A100
 clear A100
 by_cases c11 : (t191.length : Int) = 2
 rotate_left
 · rw [if_neg c11] at H
   have c11b0 : ((t191.length : Int) == 2) = false := beq_eq_false_iff_ne.mpr c11
   have c11b1 : ((t191.length : Int) != 2) = true := bne_iff_ne.mpr c11
   exact absurd H (by simp)
 rw [if_pos c11] at H
 have c11b0 : ((t191.length : Int) == 2) = true := beq_iff_eq.mpr c11
 have c11b1 : ((t191.length : Int) != 2) = false := bne_eq_false_iff_eq.mpr c11
 clear c11
 replace H := Option.bind_eq_some_iff.mp H
 obtain ⟨t194, A120, H⟩ := H
 replace H : (if t194 = 6 then ((queue_Until.f k y181 3 1).bind fun t195 => (some (t195 == 0))) else (none)) = some r := H
 have A12 := Aside0.mk A120
 clear A120
 by_cases c13 : t194 = 6
 rotate_left
 · rw [if_neg c13] at H
   have c13b0 : (t194 == 6) = false := beq_eq_false_iff_ne.mpr c13
   have c13b1 : (t194 != 6) = true := bne_iff_ne.mpr c13
   exact absurd H (by simp)
 rw [if_pos c13] at H
 have c13b0 : (t194 == 6) = true := beq_iff_eq.mpr c13
 have c13b1 : (t194 != 6) = false := bne_eq_false_iff_eq.mpr c13
 clear c13
 replace H := Option.bind_eq_some_iff.mp H
 obtain ⟨t195, A140, H⟩ := H
 replace H : (some (t195 == 0)) = some r := H
 have A14 := Aside0.mk A140
 clear A140
 obtain rfl := Option.some.inj H
 go_enter Try.func9, Try.ntmps9
 try go_wp2_with (first | ((with_reducible refine gate_dst (N := 1) rfl ?_); (try (refine gate_guard (by rfl) ?_; dsimp only)); refine box_event rfl (N := 1) rfl (cs := #[.int .i64 0, .int .i64 0, .int .i64 0, .string (⟨#[]⟩ : ByteArray)]) (t := 34) sqs ?_; intro gb178 hg w15 hbox hb; have BK178 := sqM (hbox); have GW178 := sqM (sqZ hg (sqB HB.out)); have GE178 := sqM (sqZ hg (sqB HB.out)); replace HB := sqM (below_step (sqB HB.out) hb); clear hb hbox hg; obtain ⟨hcz16_0, hcz16_1, hcz16_2, hcz16_3, hfz16_0, hfz16_1, hfz16_2, hfz16_3⟩ := sqF4 BK178.out) | ((with_reducible refine gate_dst (N := 2) rfl ?_); (try (refine gate_guard (by rfl) ?_; dsimp only)); refine box_event rfl (N := 2) rfl (cs := #[.int .i64 0, .int .i64 0, .int .i64 0, .string (⟨#[]⟩ : ByteArray)]) (t := 34) sqs ?_; intro gb179 hg w17 hbox hb; have BK179 := sqM (hbox); have GW179 := sqM (sqZ hg (sqB1 HB.out GE178.out)); have GE179 := sqM (sqZ hg (sqB1 HB.out GE178.out)); have NB178_179 := sqM (sqL hg (sqP4 BK178.out)); have NB179_178 := sqM (sqG hg (sqP4 BK178.out)); replace BK178 := sqM (blk_below (sqP4 BK178.out) hb); replace HB := sqM (below_step (sqB1 HB.out GE178.out) hb); clear hb hbox hg; have hnb18 := NB179_178.out; have hnc18 := NB178_179.out; obtain ⟨hcz19_0, hcz19_1, hcz19_2, hcz19_3, hfz19_0, hfz19_1, hfz19_2, hfz19_3⟩ := sqF4 BK179.out) | ((with_reducible refine gate_dst (N := 3) rfl ?_); (try (refine gate_guard (by rfl) ?_; dsimp only)); refine box_event rfl (N := 3) rfl (cs := #[.int .i64 0, .int .i64 0, .int .i64 0, .string (⟨#[]⟩ : ByteArray)]) (t := 34) sqs ?_; intro gb180 hg w20 hbox hb; have BK180 := sqM (hbox); have GW180 := sqM (sqZ hg (sqB2 HB.out GE178.out GE179.out)); have GE180 := sqM (sqZ hg (sqB2 HB.out GE178.out GE179.out)); have NB178_180 := sqM (sqL hg (sqX4 BK178.out NB178_179.out)); have NB180_178 := sqM (sqG hg (sqX4 BK178.out NB178_179.out)); have NB179_180 := sqM (sqL hg (sqP4 BK179.out)); have NB180_179 := sqM (sqG hg (sqP4 BK179.out)); replace BK178 := sqM (blk_below (sqX4 BK178.out NB178_179.out) hb); replace BK179 := sqM (blk_below (sqP4 BK179.out) hb); replace HB := sqM (below_step (sqB2 HB.out GE178.out GE179.out) hb); clear hb hbox hg; have hnb21 := NB180_178.out; have hnc21 := NB178_180.out; have hnb22 := NB180_179.out; have hnc22 := NB179_180.out; obtain ⟨hcz23_0, hcz23_1, hcz23_2, hcz23_3, hfz23_0, hfz23_1, hfz23_2, hfz23_3⟩ := sqF4 BK180.out; obtain ⟨hcz24_0, hcz24_1, hcz24_2, hcz24_3, hfz24_0, hfz24_1, hfz24_2, hfz24_3⟩ := sqF4 BK178.out; obtain ⟨hcz25_0, hcz25_1, hcz25_2, hcz25_3, hfz25_0, hfz25_1, hfz25_2, hfz25_3⟩ := sqF4 BK179.out) | ((with_reducible refine gate_dst (N := 14) rfl ?_); (try (refine gate_guard (by rfl) ?_; dsimp only)); refine Kd.R_lit k34 _ 34 ?hg (N := 14) ?hd (xs := ([(⟨1, 1, 10, (⟨#[105, 48, 49]⟩ : ByteArray)⟩ : S34), (⟨2, 3, 5, (⟨#[105, 48, 50]⟩ : ByteArray)⟩ : S34), (⟨3, 2, 3, (⟨#[105, 48, 51]⟩ : ByteArray)⟩ : S34)] : List (S34))) (inner := [.int .i64 1, .int .i64 1, .int .i64 10, .string (⟨#[105, 48, 49]⟩ : ByteArray), .int .i64 2, .int .i64 3, .int .i64 5, .string (⟨#[105, 48, 50]⟩ : ByteArray), .int .i64 3, .int .i64 2, .int .i64 3, .string (⟨#[105, 48, 51]⟩ : ByteArray)]) (ok := fun _ => True) (okp := fun _ => True) ?hr ?hp (fun _ hk => hk) trivial (Below.refl _ _) (Nat.le_refl _) (by simp) ?_; (case hd => rfl); (case hg => rfl); (case hr => first | (go_simp; done) | (go_simp; rfl)); (case hp => exact (Reps.c4 (show Kd.M k34 _ _ _ (⟨1, 1, 10, (⟨#[105, 48, 49]⟩ : ByteArray)⟩ : S34) [.int .i64 1, .int .i64 1, .int .i64 10, .string (⟨#[105, 48, 49]⟩ : ByteArray)] from (k34_mkM _ _ _ (⟨1, 1, 10, (⟨#[105, 48, 49]⟩ : ByteArray)⟩ : S34) )) (Reps.c4 (show Kd.M k34 _ _ _ (⟨2, 3, 5, (⟨#[105, 48, 50]⟩ : ByteArray)⟩ : S34) [.int .i64 2, .int .i64 3, .int .i64 5, .string (⟨#[105, 48, 50]⟩ : ByteArray)] from (k34_mkM _ _ _ (⟨2, 3, 5, (⟨#[105, 48, 50]⟩ : ByteArray)⟩ : S34) )) (Reps.c4 (show Kd.M k34 _ _ _ (⟨3, 2, 3, (⟨#[105, 48, 51]⟩ : ByteArray)⟩ : S34) [.int .i64 3, .int .i64 2, .int .i64 3, .string (⟨#[105, 48, 51]⟩ : ByteArray)] from (k34_mkM _ _ _ (⟨3, 2, 3, (⟨#[105, 48, 51]⟩ : ByteArray)⟩ : S34) )) (Reps.none _ _))))); intro v182 w26 ho27 hb hg_ hnew_; clear hg_ hnew_; (first | rw [← Ny181.out] at ho27 | (simp only [Int.reduceToNat] at ho27; rw [← Ny181.out] at ho27)); have HO183 := sqM (Kd.R_lower (Kd.R_newB (Kd.R_newB (Kd.R_newB ho27 (g := gb178) (o := .cells #[.int .i64 1, .int .i64 1, .int .i64 10, .string (⟨#[105, 48, 49]⟩ : ByteArray)] 34 (0, 0)) (by exact (sqX4 BK178.out NB178_180.out))) (g := gb179) (o := .cells #[.int .i64 2, .int .i64 3, .int .i64 5, .string (⟨#[105, 48, 50]⟩ : ByteArray)] 34 (0, 0)) (by exact (sqX4 BK179.out NB179_180.out))) (g := gb180) (o := .cells #[.int .i64 3, .int .i64 2, .int .i64 3, .string (⟨#[105, 48, 51]⟩ : ByteArray)] 34 (0, 0)) (by exact (sqP4 BK180.out))) (below_size (sqB3 HB.out GE178.out GE179.out GE180.out))); replace BK178 := sqM (blk_below (sqX4 BK178.out NB178_180.out) hb); replace BK179 := sqM (blk_below (sqX4 BK179.out NB179_180.out) hb); replace BK180 := sqM (blk_below (sqP4 BK180.out) hb); replace HB := sqM (below_step (sqB3 HB.out GE178.out GE179.out GE180.out) hb); clear hb ho27; obtain ⟨Ao28, co28, eo28⟩ := Kd.R_slice HO183.out; subst eo28) | ((with_reducible refine gate_callee (f := 11) rfl ?_); refine goesL_ (some 16) rfl rfl Try.func11 (by kernel_rfl) rfl #[.slice Ao28 y181.length co28] rfl sqA ?_; (with_reducible refine (queue_ByEnd.calls _ _ _ _ _ _ ?side1 ?side2 A1.out).mono ?_); (case side1 => repeat (first | exact (Kd.R_reads' HO183.out).2.2 | (with_reducible refine Kd.C_alloc ?_ _) | (with_reducible refine Kd.C_drewN ?_ _) | (with_reducible refine Kd.C_drew ?_))); (case side2 => exact (Kd.R_reads' HO183.out).2.1); rintro e w29 ⟨v185, rfl, ho0, hb⟩; refine ⟨_, rfl, ?_⟩; have HO186 := sqM (Kd.R_lower (Kd.R_newB (Kd.R_newB (Kd.R_newB (Kd.R_new' ho0 (Kd.R_lt (sqR HO183.out))) (g := gb178) (o := .cells #[.int .i64 1, .int .i64 1, .int .i64 10, .string (⟨#[105, 48, 49]⟩ : ByteArray)] 34 (0, 0)) (sqK BK178.out)) (g := gb179) (o := .cells #[.int .i64 2, .int .i64 3, .int .i64 5, .string (⟨#[105, 48, 50]⟩ : ByteArray)] 34 (0, 0)) (sqK BK179.out)) (g := gb180) (o := .cells #[.int .i64 3, .int .i64 2, .int .i64 3, .string (⟨#[105, 48, 51]⟩ : ByteArray)] 34 (0, 0)) (sqK BK180.out)) (below_size (sqB3 HB.out GE178.out GE179.out GE180.out))); replace HO183 := sqM (Kd.R_elder' (sqR HO183.out) (Kd.R_base ho0) hb); replace BK178 := sqM (blk_below (sqK BK178.out) hb); replace BK179 := sqM (blk_below (sqK BK179.out) hb); replace BK180 := sqM (blk_below (sqK BK180.out) hb); replace HB := sqM (below_step (sqB3 HB.out GE178.out GE179.out GE180.out) hb); (try clear hb); (try clear hb2); (try clear hk); (try clear hi); (try clear ho0); obtain ⟨Ao30, co30, eo30⟩ := Kd.R_slice HO186.out; subst eo30) | ((with_reducible refine gate_callee (f := 13) rfl ?_); refine goesL_ (some 19) rfl rfl Try.func13 (by kernel_rfl) rfl #[.slice Ao28 y181.length co28, .int .i64 4] rfl sqA ?_; (with_reducible refine (queue_Next.calls _ _ _ _ _ _ _ _ ?side1 ?side2 A2.out).mono ?_); (case side1 => repeat (first | exact (Kd.R_reads' HO183.out).2.2 | (with_reducible refine Kd.C_alloc ?_ _) | (with_reducible refine Kd.C_drewN ?_ _) | (with_reducible refine Kd.C_drew ?_))); (case side2 => exact (Kd.R_reads' HO183.out).2.1); rintro e w31 ⟨rfl, hb⟩; refine ⟨_, rfl, ?_⟩; replace HO183 := sqM (Kd.R_below (sqR HO183.out) hb); replace HO186 := sqM (Kd.R_below (sqR HO186.out) hb); replace BK178 := sqM (blk_below (sqK BK178.out) hb); replace BK179 := sqM (blk_below (sqK BK179.out) hb); replace BK180 := sqM (blk_below (sqK BK180.out) hb); replace HB := sqM (below_step (sqB3 HB.out GE178.out GE179.out GE180.out) hb); (try clear hb); (try clear hb2); (try clear hk); (try clear hi)))
 replace HO183 := sqM (Kd.R_drew HO183.out)
 replace HO186 := sqM (Kd.R_drew HO186.out)
 replace BK178 := sqM (blk_drew BK178.out)
 replace BK179 := sqM (blk_drew BK179.out)
 replace BK180 := sqM (blk_drew BK180.out)
 replace HB := sqM (below_drew1 HB.out)
 have p189 : 0 ≤ (0 : Int) := (by omega)
 have q189 : 0 < (t184.length : Int) := of_decide_eq_true sqH
 obtain ⟨ad189, e189, hx189_0, hx189_1, hx189_2, hx189_3⟩ := at_T34 (Kd.R_reads' HO186.out).2.2 0 p189 q189
 cases e189
 have qi189 : (0 < t184.length) = True := eq_true (by omega)
 (try rw [show ((0 : Int)).toNat = 0 from rfl] at hx189_0)
 (try rw [show 0 * 4 = 0 from rfl] at hx189_0)
 (try rw [Addr.add_zero'] at hx189_0)
 (try rw [show ((0 : Int)).toNat = 0 from rfl] at hx189_1)
 (try rw [show 0 * 4 = 0 from rfl] at hx189_1)
 (try rw [Addr.add_zero'] at hx189_1)
 (try rw [show ((0 : Int)).toNat = 0 from rfl] at hx189_2)
 (try rw [show 0 * 4 = 0 from rfl] at hx189_2)
 (try rw [Addr.add_zero'] at hx189_2)
 (try rw [show ((0 : Int)).toNat = 0 from rfl] at hx189_3)
 (try rw [show 0 * 4 = 0 from rfl] at hx189_3)
 (try rw [Addr.add_zero'] at hx189_3)
 replace p189 := eq_true p189
 replace q189 := eq_true q189
 have p190 : 0 ≤ (1 : Int) := (by omega)
 have q190 : 1 < (t184.length : Int) := of_decide_eq_true sqH
 obtain ⟨ad190, e190, hx190_0, hx190_1, hx190_2, hx190_3⟩ := at_T34 (Kd.R_reads' HO186.out).2.2 1 p190 q190
 obtain rfl : ad189 = ad190 := (by injection e190)
 (try simp only [show (1 : Int).toNat = 1 from rfl, Nat.reduceMul, Nat.reduceEqDiff, Go.Addr.add, ↓reduceIte] at hx190_0)
 (try simp only [show (1 : Int).toNat = 1 from rfl, Nat.reduceMul, Nat.reduceEqDiff, Go.Addr.add, ↓reduceIte] at hx190_1)
 (try simp only [show (1 : Int).toNat = 1 from rfl, Nat.reduceMul, Nat.reduceEqDiff, Go.Addr.add, ↓reduceIte] at hx190_2)
 (try simp only [show (1 : Int).toNat = 1 from rfl, Nat.reduceMul, Nat.reduceEqDiff, Go.Addr.add, ↓reduceIte] at hx190_3)
 have qi190 : (1 < t184.length) = True := eq_true (by omega)
 (try rw [show ((1 : Int)).toNat = 1 from rfl] at hx190_0)
 (try rw [show 1 * 4 = 4 from rfl] at hx190_0)
 (try rw [show ((1 : Int)).toNat = 1 from rfl] at hx190_1)
 (try rw [show 1 * 4 = 4 from rfl] at hx190_1)
 (try rw [show ((1 : Int)).toNat = 1 from rfl] at hx190_2)
 (try rw [show 1 * 4 = 4 from rfl] at hx190_2)
 (try rw [show ((1 : Int)).toNat = 1 from rfl] at hx190_3)
 (try rw [show 1 * 4 = 4 from rfl] at hx190_3)
 replace p190 := eq_true p190
 replace q190 := eq_true q190
 refine start_ (n := 41) (S := fun w' => w'.cell? ⟨gb179, 0, none⟩ = some (.int .i64 2) ∧ w'.cell? ⟨gb179, 1, none⟩ = some (.int .i64 3) ∧ w'.cell? ⟨gb179, 2, none⟩ = some (.int .i64 5) ∧ w'.cell? ⟨gb179, 3, none⟩ = some (.string (⟨#[105, 48, 50]⟩ : ByteArray)) ∧ w'.cell? ⟨gb178, 0, none⟩ = some (.int .i64 1) ∧ w'.cell? ⟨gb178, 1, none⟩ = some (.int .i64 1) ∧ w'.cell? ⟨gb178, 2, none⟩ = some (.int .i64 10) ∧ w'.cell? ⟨gb178, 3, none⟩ = some (.string (⟨#[105, 48, 49]⟩ : ByteArray)) ∧ w'.cell? ad189 = some (.int .i64 ((rd_T34 t184 0).f0)) ∧ w'.cell? ⟨ad189.block, ad189.off + 1, none⟩ = some (.int .i64 ((rd_T34 t184 0).f1)) ∧ w'.cell? ⟨ad189.block, ad189.off + 2, none⟩ = some (.int .i64 ((rd_T34 t184 0).f2)) ∧ w'.cell? ⟨ad189.block, ad189.off + 3, none⟩ = some (.string ((rd_T34 t184 0).f3)) ∧ w'.cell? ⟨ad189.block, ad189.off + 4, none⟩ = some (.int .i64 ((rd_T34 t184 1).f0)) ∧ w'.cell? ⟨ad189.block, ad189.off + 4 + 1, none⟩ = some (.int .i64 ((rd_T34 t184 1).f1)) ∧ w'.cell? ⟨ad189.block, ad189.off + 4 + 2, none⟩ = some (.int .i64 ((rd_T34 t184 1).f2)) ∧ w'.cell? ⟨ad189.block, ad189.off + 4 + 3, none⟩ = some (.string ((rd_T34 t184 1).f3))) (ds := []) #[false, false, false, false, false, false, false, false, false, false, false, false, false, false, false, false, false, false, false, false, false, false, false, false, false, false, false, false, false, false, false, false, false, false, false, false, false, false, false, false, false] (by kernel_rfl) rfl rfl ⟨(blk_cell BK179.out 0).trans rfl, (blk_cell BK179.out 1).trans rfl, (blk_cell BK179.out 2).trans rfl, (blk_cell BK179.out 3).trans rfl, (blk_cell BK178.out 0).trans rfl, (blk_cell BK178.out 1).trans rfl, (blk_cell BK178.out 2).trans rfl, (blk_cell BK178.out 3).trans rfl, hx189_0, hx189_1, hx189_2, hx189_3, hx190_0, hx190_1, hx190_2, hx190_3⟩ (fun hHeld => ?_); refine with_tabW boarderlaw25_knows.tab7 boarderlaw25_knows.bits7 (fun HT_ HW_ => ?_)
 generalize w31.drew = w32 at HO183 HO186 BK178 BK179 BK180 HB hx189_0 hx189_1 hx189_2 hx189_3 hx190_0 hx190_1 hx190_2 hx190_3 hHeld ⊢
 refine pure_ (i := 0) (N := some 22) (v := ?_) (a' := ?_) #[true, false, false, false, false, false, false, false, false, false, false, false, false, false, false, false, false, false, false, false, false, false, false, false, false, false, false, false, false, false, false, false, false, false, false, false, false, false, false, false, false] rfl rfl (any_of HT_.out (by kernel_rfl)) (fun _ _ _ h => h) (Or.inl ⟨by rfl, ?_⟩) ?_ ?_
 rotate_left
 · intro w'
   go_simp
   with_reducible rfl
 rotate_left
 · simp only [Act.put, List.setIfInBounds_toArray, List.set_cons_zero, List.set_cons_succ, i64_w, i32_w]
   rfl
 refine pure_ (i := 1) (N := some 23) (v := ?_) (a' := ?_) #[true, true, false, false, false, false, false, false, false, false, false, false, false, false, false, false, false, false, false, false, false, false, false, false, false, false, false, false, false, false, false, false, false, false, false, false, false, false, false, false, false] rfl rfl (any_of HT_.out (by kernel_rfl)) (fun _ _ _ h => h) (Or.inl ⟨by rfl, ?_⟩) ?_ ?_
 rotate_left
 · intro w'
   go_simp
   with_reducible rfl
 rotate_left
 · simp only [Act.put, List.setIfInBounds_toArray, List.set_cons_zero, List.set_cons_succ, i64_w, i32_w]
   rfl
 refine pure_ (i := 2) (N := some 24) (v := ?_) (a' := ?_) #[true, true, true, false, false, false, false, false, false, false, false, false, false, false, false, false, false, false, false, false, false, false, false, false, false, false, false, false, false, false, false, false, false, false, false, false, false, false, false, false, false] rfl rfl (any_of HT_.out (by kernel_rfl)) (fun _ _ _ h => h) (Or.inl ⟨by rfl, ?_⟩) ?_ ?_
 rotate_left
 · intro w'
   go_simp
   with_reducible rfl
 rotate_left
 · simp only [Act.put, List.setIfInBounds_toArray, List.set_cons_zero, List.set_cons_succ, i64_w, i32_w]
   rfl
 refine pure_ (i := 3) (N := some 25) (v := ?_) (a' := ?_) #[true, true, true, true, false, false, false, false, false, false, false, false, false, false, false, false, false, false, false, false, false, false, false, false, false, false, false, false, false, false, false, false, false, false, false, false, false, false, false, false, false] rfl rfl (any_of HT_.out (by kernel_rfl)) (fun _ _ _ h => h) (Or.inl ⟨by rfl, ?_⟩) ?_ ?_
 rotate_left
 · intro w'
   go_simp
   with_reducible rfl
 rotate_left
 · simp only [Act.put, List.setIfInBounds_toArray, List.set_cons_zero, List.set_cons_succ, i64_w, i32_w]
   rfl
 refine pure_ (i := 4) (N := some 26) (v := ?_) (a' := ?_) #[true, true, true, true, true, false, false, false, false, false, false, false, false, false, false, false, false, false, false, false, false, false, false, false, false, false, false, false, false, false, false, false, false, false, false, false, false, false, false, false, false] rfl rfl (any_of HT_.out (by kernel_rfl)) (fun _ _ _ h => h) (Or.inl ⟨by rfl, ?_⟩) ?_ ?_
 rotate_left
 · intro w'
   go_simp
   with_reducible rfl
 rotate_left
 · simp only [Act.put, List.setIfInBounds_toArray, List.set_cons_zero, List.set_cons_succ, i64_w, i32_w]
   rfl
 refine pure_ (i := 5) (N := some 27) (v := ?_) (a' := ?_) #[true, true, true, true, true, true, false, false, false, false, false, false, false, false, false, false, false, false, false, false, false, false, false, false, false, false, false, false, false, false, false, false, false, false, false, false, false, false, false, false, false] rfl rfl (any_of HT_.out (by kernel_rfl)) (fun _ _ _ h => h) (Or.inl ⟨by rfl, ?_⟩) ?_ ?_
 rotate_left
 · intro w'
   go_simp
   with_reducible rfl
 rotate_left
 · simp only [Act.put, List.setIfInBounds_toArray, List.set_cons_zero, List.set_cons_succ, i64_w, i32_w]
   rfl
 refine take_ (i := 6) (N := some 28) (v := ?_) (a' := ?_) #[true, true, true, true, true, true, true, false, false, false, false, false, false, false, false, false, false, false, false, false, false, false, false, false, false, false, false, false, false, false, false, false, false, false, false, false, false, false, false, false, false] rfl rfl (take_ofW HT_.out HW_.out (by kernel_rfl)) (fun _ _ _ h => h) (Or.inl ⟨by rfl, ?_⟩) hHeld ?_ ?_
 rotate_left
 · rintro w' ⟨s0, s1, s2, s3, s4, s5, s6, s7, s8, s9, s10, s11, s12, s13, s14, s15⟩
   go_simp
   with_reducible rfl
 rotate_left
 · simp only [Act.put, List.setIfInBounds_toArray, List.set_cons_zero, List.set_cons_succ, i64_w, i32_w]
   rfl
 refine take_ (i := 7) (N := some 29) (v := ?_) (a' := ?_) #[true, true, true, true, true, true, true, true, false, false, false, false, false, false, false, false, false, false, false, false, false, false, false, false, false, false, false, false, false, false, false, false, false, false, false, false, false, false, false, false, false] rfl rfl (take_ofW HT_.out HW_.out (by kernel_rfl)) (fun _ _ _ h => h) (Or.inl ⟨by rfl, ?_⟩) hHeld ?_ ?_
 rotate_left
 · rintro w' ⟨s0, s1, s2, s3, s4, s5, s6, s7, s8, s9, s10, s11, s12, s13, s14, s15⟩
   go_simp
   with_reducible rfl
 rotate_left
 · simp only [Act.put, List.setIfInBounds_toArray, List.set_cons_zero, List.set_cons_succ, i64_w, i32_w]
   rfl
 refine pure_ (i := 8) (N := some 30) (v := ?_) (a' := ?_) #[true, true, true, true, true, true, true, true, true, false, false, false, false, false, false, false, false, false, false, false, false, false, false, false, false, false, false, false, false, false, false, false, false, false, false, false, false, false, false, false, false] rfl rfl (any_of HT_.out (by kernel_rfl)) (fun _ _ _ h => h) (Or.inl ⟨by rfl, ?_⟩) ?_ ?_
 rotate_left
 · intro w'
   go_simp
   with_reducible rfl
 rotate_left
 · simp only [Act.put, List.setIfInBounds_toArray, List.set_cons_zero, List.set_cons_succ, i64_w, i32_w]
   rfl
 refine pure_ (i := 9) (N := some 31) (v := ?_) (a' := ?_) #[true, true, true, true, true, true, true, true, true, true, false, false, false, false, false, false, false, false, false, false, false, false, false, false, false, false, false, false, false, false, false, false, false, false, false, false, false, false, false, false, false] rfl rfl (any_of HT_.out (by kernel_rfl)) (fun _ _ _ h => h) (Or.inl ⟨by rfl, ?_⟩) ?_ ?_
 rotate_left
 · intro w'
   go_simp
   with_reducible rfl
 rotate_left
 · simp only [Act.put, List.setIfInBounds_toArray, List.set_cons_zero, List.set_cons_succ, i64_w, i32_w]
   rfl
 refine pure_ (i := 10) (N := some 32) (v := ?_) (a' := ?_) #[true, true, true, true, true, true, true, true, true, true, true, false, false, false, false, false, false, false, false, false, false, false, false, false, false, false, false, false, false, false, false, false, false, false, false, false, false, false, false, false, false] rfl rfl (any_of HT_.out (by kernel_rfl)) (fun _ _ _ h => h) (Or.inl ⟨by rfl, ?_⟩) ?_ ?_
 rotate_left
 · intro w'
   go_simp
   with_reducible rfl
 rotate_left
 · simp only [Act.put, List.setIfInBounds_toArray, List.set_cons_zero, List.set_cons_succ, i64_w, i32_w]
   rfl
 refine pure_ (i := 11) (N := some 33) (v := ?_) (a' := ?_) #[true, true, true, true, true, true, true, true, true, true, true, true, false, false, false, false, false, false, false, false, false, false, false, false, false, false, false, false, false, false, false, false, false, false, false, false, false, false, false, false, false] rfl rfl (any_of HT_.out (by kernel_rfl)) (fun _ _ _ h => h) (Or.inl ⟨by rfl, ?_⟩) ?_ ?_
 rotate_left
 · intro w'
   go_simp
   with_reducible rfl
 rotate_left
 · simp only [Act.put, List.setIfInBounds_toArray, List.set_cons_zero, List.set_cons_succ, i64_w, i32_w]
   rfl
 refine pure_ (i := 12) (N := some 34) (v := ?_) (a' := ?_) #[true, true, true, true, true, true, true, true, true, true, true, true, true, false, false, false, false, false, false, false, false, false, false, false, false, false, false, false, false, false, false, false, false, false, false, false, false, false, false, false, false] rfl rfl (any_of HT_.out (by kernel_rfl)) (fun _ _ _ h => h) (Or.inl ⟨by rfl, ?_⟩) ?_ ?_
 rotate_left
 · intro w'
   go_simp
   with_reducible rfl
 rotate_left
 · simp only [Act.put, List.setIfInBounds_toArray, List.set_cons_zero, List.set_cons_succ, i64_w, i32_w]
   rfl
 refine take_ (i := 13) (N := some 35) (v := ?_) (a' := ?_) #[true, true, true, true, true, true, true, true, true, true, true, true, true, true, false, false, false, false, false, false, false, false, false, false, false, false, false, false, false, false, false, false, false, false, false, false, false, false, false, false, false] rfl rfl (take_ofW HT_.out HW_.out (by kernel_rfl)) (fun _ _ _ h => h) (Or.inl ⟨by rfl, ?_⟩) hHeld ?_ ?_
 rotate_left
 · rintro w' ⟨s0, s1, s2, s3, s4, s5, s6, s7, s8, s9, s10, s11, s12, s13, s14, s15⟩
   go_simp
   with_reducible rfl
 rotate_left
 · simp only [Act.put, List.setIfInBounds_toArray, List.set_cons_zero, List.set_cons_succ, i64_w, i32_w]
   rfl
 refine take_ (i := 14) (N := some 36) (v := ?_) (a' := ?_) #[true, true, true, true, true, true, true, true, true, true, true, true, true, true, true, false, false, false, false, false, false, false, false, false, false, false, false, false, false, false, false, false, false, false, false, false, false, false, false, false, false] rfl rfl (take_ofW HT_.out HW_.out (by kernel_rfl)) (fun _ _ _ h => h) (Or.inl ⟨by rfl, ?_⟩) hHeld ?_ ?_
 rotate_left
 · rintro w' ⟨s0, s1, s2, s3, s4, s5, s6, s7, s8, s9, s10, s11, s12, s13, s14, s15⟩
   go_simp
   with_reducible rfl
 rotate_left
 · simp only [Act.put, List.setIfInBounds_toArray, List.set_cons_zero, List.set_cons_succ, i64_w, i32_w]
   rfl
 refine pure_ (i := 15) (N := some 37) (v := ?_) (a' := ?_) #[true, true, true, true, true, true, true, true, true, true, true, true, true, true, true, true, false, false, false, false, false, false, false, false, false, false, false, false, false, false, false, false, false, false, false, false, false, false, false, false, false] rfl rfl (any_of HT_.out (by kernel_rfl)) (fun _ _ _ h => h) (Or.inl ⟨by rfl, ?_⟩) ?_ ?_
 rotate_left
 · intro w'
   go_simp
   with_reducible rfl
 rotate_left
 · simp only [Act.put, List.setIfInBounds_toArray, List.set_cons_zero, List.set_cons_succ, i64_w, i32_w]
   rfl
 refine pure_ (i := 16) (N := some 38) (v := ?_) (a' := ?_) #[true, true, true, true, true, true, true, true, true, true, true, true, true, true, true, true, true, false, false, false, false, false, false, false, false, false, false, false, false, false, false, false, false, false, false, false, false, false, false, false, false] rfl rfl (any_of HT_.out (by kernel_rfl)) (fun _ _ _ h => h) (Or.inl ⟨by rfl, ?_⟩) ?_ ?_
 rotate_left
 · intro w'
   go_simp
   with_reducible rfl
 rotate_left
 · simp only [Act.put, List.setIfInBounds_toArray, List.set_cons_zero, List.set_cons_succ, i64_w, i32_w]
   rfl
 refine pure_ (i := 17) (N := some 39) (v := ?_) (a' := ?_) #[true, true, true, true, true, true, true, true, true, true, true, true, true, true, true, true, true, true, false, false, false, false, false, false, false, false, false, false, false, false, false, false, false, false, false, false, false, false, false, false, false] rfl rfl (any_of HT_.out (by kernel_rfl)) (fun _ _ _ h => h) (Or.inl ⟨by rfl, ?_⟩) ?_ ?_
 rotate_left
 · intro w'
   go_simp
   with_reducible rfl
 rotate_left
 · simp only [Act.put, List.setIfInBounds_toArray, List.set_cons_zero, List.set_cons_succ, i64_w, i32_w]
   rfl
 refine pure_ (i := 18) (N := some 40) (v := ?_) (a' := ?_) #[true, true, true, true, true, true, true, true, true, true, true, true, true, true, true, true, true, true, true, false, false, false, false, false, false, false, false, false, false, false, false, false, false, false, false, false, false, false, false, false, false] rfl rfl (any_of HT_.out (by kernel_rfl)) (fun _ _ _ h => h) (Or.inl ⟨by rfl, ?_⟩) ?_ ?_
 rotate_left
 · intro w'
   go_simp
   with_reducible rfl
 rotate_left
 · simp only [Act.put, List.setIfInBounds_toArray, List.set_cons_zero, List.set_cons_succ, i64_w, i32_w]
   rfl
 refine pure_ (i := 19) (N := some 41) (v := ?_) (a' := ?_) #[true, true, true, true, true, true, true, true, true, true, true, true, true, true, true, true, true, true, true, true, false, false, false, false, false, false, false, false, false, false, false, false, false, false, false, false, false, false, false, false, false] rfl rfl (any_of HT_.out (by kernel_rfl)) (fun _ _ _ h => h) (Or.inl ⟨by rfl, ?_⟩) ?_ ?_
 rotate_left
 · intro w'
   go_simp
   with_reducible rfl
 rotate_left
 · simp only [Act.put, List.setIfInBounds_toArray, List.set_cons_zero, List.set_cons_succ, i64_w, i32_w]
   rfl
 refine pure_ (i := 20) (N := some 42) (v := ?_) (a' := ?_) #[true, true, true, true, true, true, true, true, true, true, true, true, true, true, true, true, true, true, true, true, true, false, false, false, false, false, false, false, false, false, false, false, false, false, false, false, false, false, false, false, false] rfl rfl (any_of HT_.out (by kernel_rfl)) (fun _ _ _ h => h) (Or.inl ⟨by rfl, ?_⟩) ?_ ?_
 rotate_left
 · intro w'
   go_simp
   with_reducible rfl
 rotate_left
 · simp only [Act.put, List.setIfInBounds_toArray, List.set_cons_zero, List.set_cons_succ, i64_w, i32_w]
   rfl
 refine pure_ (i := 21) (N := some 43) (v := ?_) (a' := ?_) #[true, true, true, true, true, true, true, true, true, true, true, true, true, true, true, true, true, true, true, true, true, true, false, false, false, false, false, false, false, false, false, false, false, false, false, false, false, false, false, false, false] rfl rfl (any_of HT_.out (by kernel_rfl)) (fun _ _ _ h => h) (Or.inl ⟨by rfl, ?_⟩) ?_ ?_
 rotate_left
 · intro w'
   go_simp
   with_reducible rfl
 rotate_left
 · simp only [Act.put, List.setIfInBounds_toArray, List.set_cons_zero, List.set_cons_succ, i64_w, i32_w]
   rfl
 refine pure_ (i := 22) (N := some 44) (v := ?_) (a' := ?_) #[true, true, true, true, true, true, true, true, true, true, true, true, true, true, true, true, true, true, true, true, true, true, true, false, false, false, false, false, false, false, false, false, false, false, false, false, false, false, false, false, false] rfl rfl (any_of HT_.out (by kernel_rfl)) (fun _ _ _ h => h) (Or.inl ⟨by rfl, ?_⟩) ?_ ?_
 rotate_left
 · intro w'
   go_simp
   with_reducible rfl
 rotate_left
 · simp only [Act.put, List.setIfInBounds_toArray, List.set_cons_zero, List.set_cons_succ, i64_w, i32_w]
   rfl
 refine pure_ (i := 23) (N := some 45) (v := ?_) (a' := ?_) #[true, true, true, true, true, true, true, true, true, true, true, true, true, true, true, true, true, true, true, true, true, true, true, true, false, false, false, false, false, false, false, false, false, false, false, false, false, false, false, false, false] rfl rfl (any_of HT_.out (by kernel_rfl)) (fun _ _ _ h => h) (Or.inl ⟨by rfl, ?_⟩) ?_ ?_
 rotate_left
 · intro w'
   go_simp
   with_reducible rfl
 rotate_left
 · simp only [Act.put, List.setIfInBounds_toArray, List.set_cons_zero, List.set_cons_succ, i64_w, i32_w]
   rfl
 refine pure_ (i := 24) (N := some 46) (v := ?_) (a' := ?_) #[true, true, true, true, true, true, true, true, true, true, true, true, true, true, true, true, true, true, true, true, true, true, true, true, true, false, false, false, false, false, false, false, false, false, false, false, false, false, false, false, false] rfl rfl (any_of HT_.out (by kernel_rfl)) (fun _ _ _ h => h) (Or.inl ⟨by rfl, ?_⟩) ?_ ?_
 rotate_left
 · intro w'
   go_simp
   with_reducible rfl
 rotate_left
 · simp only [Act.put, List.setIfInBounds_toArray, List.set_cons_zero, List.set_cons_succ, i64_w, i32_w]
   rfl
 refine pure_ (i := 25) (N := some 47) (v := ?_) (a' := ?_) #[true, true, true, true, true, true, true, true, true, true, true, true, true, true, true, true, true, true, true, true, true, true, true, true, true, true, false, false, false, false, false, false, false, false, false, false, false, false, false, false, false] rfl rfl (any_of HT_.out (by kernel_rfl)) (fun _ _ _ h => h) (Or.inl ⟨by rfl, ?_⟩) ?_ ?_
 rotate_left
 · intro w'
   go_simp
   with_reducible rfl
 rotate_left
 · simp only [Act.put, List.setIfInBounds_toArray, List.set_cons_zero, List.set_cons_succ, i64_w, i32_w]
   rfl
 refine one_ (i := 26) (N := some 48) #[true, true, true, true, true, true, true, true, true, true, true, true, true, true, true, true, true, true, true, true, true, true, true, true, true, true, true, false, false, false, false, false, false, false, false, false, false, false, false, false, false] rfl rfl (one_of HT_.out (by kernel_rfl)) (by decide) (fun K hK => ?_)
 refine goes_ Try.func15 (by kernel_rfl) rfl #[.slice Ao28 y181.length co28, .int .i64 4, .int .i64 10] (by rfl) rfl rfl sqA ?_
 with_reducible refine (queue_Ended.calls _ _ _ _ _ _ _ _ ?side1 ?side2 A10.out).mono ?_
 (case side1 => repeat (first | exact (Kd.R_reads' HO183.out).2.2 | (with_reducible refine Kd.C_alloc ?_ _) | (with_reducible refine Kd.C_drewN ?_ _) | (with_reducible refine Kd.C_drew ?_)))
 (case side2 => exact (Kd.R_reads' HO183.out).2.1)
 rintro e w33 ⟨v192, rfl, ho0, hb⟩
 have HS8_ := (hb.cell (World.block_lt_of_cell? _ _ (hHeld.2.2.2.2.2.2.2.2.1))).trans (hHeld.2.2.2.2.2.2.2.2.1)
 have HS9_ := (hb.cell (World.block_lt_of_cell? _ _ (hHeld.2.2.2.2.2.2.2.2.2.1))).trans (hHeld.2.2.2.2.2.2.2.2.2.1)
 have HS10_ := (hb.cell (World.block_lt_of_cell? _ _ (hHeld.2.2.2.2.2.2.2.2.2.2.1))).trans (hHeld.2.2.2.2.2.2.2.2.2.2.1)
 have HS11_ := (hb.cell (World.block_lt_of_cell? _ _ (hHeld.2.2.2.2.2.2.2.2.2.2.2.1))).trans (hHeld.2.2.2.2.2.2.2.2.2.2.2.1)
 have HS12_ := (hb.cell (World.block_lt_of_cell? _ _ (hHeld.2.2.2.2.2.2.2.2.2.2.2.2.1))).trans (hHeld.2.2.2.2.2.2.2.2.2.2.2.2.1)
 have HS13_ := (hb.cell (World.block_lt_of_cell? _ _ (hHeld.2.2.2.2.2.2.2.2.2.2.2.2.2.1))).trans (hHeld.2.2.2.2.2.2.2.2.2.2.2.2.2.1)
 have HS14_ := (hb.cell (World.block_lt_of_cell? _ _ (hHeld.2.2.2.2.2.2.2.2.2.2.2.2.2.2.1))).trans (hHeld.2.2.2.2.2.2.2.2.2.2.2.2.2.2.1)
 have HS15_ := (hb.cell (World.block_lt_of_cell? _ _ (hHeld.2.2.2.2.2.2.2.2.2.2.2.2.2.2.2))).trans (hHeld.2.2.2.2.2.2.2.2.2.2.2.2.2.2.2)
 refine ⟨_, rfl, ?_⟩
 have HO193 := sqM (Kd.R_lower (Kd.R_newB (Kd.R_newB (Kd.R_newB (Kd.R_new' (Kd.R_new' ho0 (Kd.R_lt (sqR HO183.out))) (Kd.R_lt (sqR HO186.out))) (g := gb178) (o := .cells #[.int .i64 1, .int .i64 1, .int .i64 10, .string (⟨#[105, 48, 49]⟩ : ByteArray)] 34 (0, 0)) (sqK BK178.out)) (g := gb179) (o := .cells #[.int .i64 2, .int .i64 3, .int .i64 5, .string (⟨#[105, 48, 50]⟩ : ByteArray)] 34 (0, 0)) (sqK BK179.out)) (g := gb180) (o := .cells #[.int .i64 3, .int .i64 2, .int .i64 3, .string (⟨#[105, 48, 51]⟩ : ByteArray)] 34 (0, 0)) (sqK BK180.out)) (below_size (sqB3 HB.out GE178.out GE179.out GE180.out)))
 replace HO183 := sqM (Kd.R_elder' (sqR HO183.out) (Kd.R_base ho0) hb)
 replace HO186 := sqM (Kd.R_elder' (sqR HO186.out) (Kd.R_base ho0) hb)
 replace BK178 := sqM (blk_below (sqK BK178.out) hb)
 replace BK179 := sqM (blk_below (sqK BK179.out) hb)
 replace BK180 := sqM (blk_below (sqK BK180.out) hb)
 replace HB := sqM (below_step (sqB3 HB.out GE178.out GE179.out GE180.out) hb)
 (try clear hb)
 (try clear hb2)
 (try clear hk)
 (try clear hi)
 (try clear ho0)
 obtain ⟨Ao34, co34, eo34⟩ := Kd.R_slice HO193.out
 (first | subst eo34 | (injection eo34 with f1_ f2_ f3_; have f4_ := f1_.symm; have f5_ := f3_.symm; clear f1_ f2_ f3_; subst f4_; subst f5_))
 refine hK.out _ _ ⟨(blk_cell BK179.out 0).trans rfl, (blk_cell BK179.out 1).trans rfl, (blk_cell BK179.out 2).trans rfl, (blk_cell BK179.out 3).trans rfl, (blk_cell BK178.out 0).trans rfl, (blk_cell BK178.out 1).trans rfl, (blk_cell BK178.out 2).trans rfl, (blk_cell BK178.out 3).trans rfl, HS8_, HS9_, HS10_, HS11_, HS12_, HS13_, HS14_, HS15_⟩ (fun hHeld => ?_)
 clear hK K
 refine norm_ (a' := ?_) ?_ ?_
 rotate_left
 · show Act.put _ (some 48) _ = _
   simp only [Act.put, List.setIfInBounds_toArray, List.set_cons_zero, List.set_cons_succ, i64_w, i32_w]
   rfl
 refine pure_ (i := 27) (N := some 49) (v := ?_) (a' := ?_) #[true, true, true, true, true, true, true, true, true, true, true, true, true, true, true, true, true, true, true, true, true, true, true, true, true, true, true, true, false, false, false, false, false, false, false, false, false, false, false, false, false] rfl rfl (any_of HT_.out (by kernel_rfl)) (fun _ _ _ h => h) (Or.inl ⟨by rfl, ?_⟩) ?_ ?_
 rotate_left
 · intro w'
   go_simp
   with_reducible rfl
 rotate_left
 · simp only [Act.put, List.setIfInBounds_toArray, List.set_cons_zero, List.set_cons_succ, i64_w, i32_w]
   rfl
 refine pure_ (i := 28) (N := some 50) (v := ?_) (a' := ?_) #[true, true, true, true, true, true, true, true, true, true, true, true, true, true, true, true, true, true, true, true, true, true, true, true, true, true, true, true, true, false, false, false, false, false, false, false, false, false, false, false, false] rfl rfl (any_of HT_.out (by kernel_rfl)) (fun _ _ _ h => h) (Or.inl ⟨by rfl, ?_⟩) ?_ ?_
 rotate_left
 · intro w'
   go_simp
   with_reducible rfl
 rotate_left
 · simp only [Act.put, List.setIfInBounds_toArray, List.set_cons_zero, List.set_cons_succ, i64_w, i32_w]
   rfl
 refine pure_ (i := 29) (N := some 51) (v := ?_) (a' := ?_) #[true, true, true, true, true, true, true, true, true, true, true, true, true, true, true, true, true, true, true, true, true, true, true, true, true, true, true, true, true, true, false, false, false, false, false, false, false, false, false, false, false] rfl rfl (any_of HT_.out (by kernel_rfl)) (fun _ _ _ h => h) (Or.inl ⟨by rfl, ?_⟩) ?_ ?_
 rotate_left
 · intro w'
   go_simp
   with_reducible rfl
 rotate_left
 · simp only [Act.put, List.setIfInBounds_toArray, List.set_cons_zero, List.set_cons_succ, i64_w, i32_w]
   rfl
 refine pure_ (i := 30) (N := some 52) (v := ?_) (a' := ?_) #[true, true, true, true, true, true, true, true, true, true, true, true, true, true, true, true, true, true, true, true, true, true, true, true, true, true, true, true, true, true, true, false, false, false, false, false, false, false, false, false, false] rfl rfl (any_of HT_.out (by kernel_rfl)) (fun _ _ _ h => h) (Or.inl ⟨by rfl, ?_⟩) ?_ ?_
 rotate_left
 · intro w'
   go_simp
   with_reducible rfl
 rotate_left
 · simp only [Act.put, List.setIfInBounds_toArray, List.set_cons_zero, List.set_cons_succ, i64_w, i32_w]
   rfl
 refine pure_ (i := 31) (N := some 53) (v := ?_) (a' := ?_) #[true, true, true, true, true, true, true, true, true, true, true, true, true, true, true, true, true, true, true, true, true, true, true, true, true, true, true, true, true, true, true, true, false, false, false, false, false, false, false, false, false] rfl rfl (any_of HT_.out (by kernel_rfl)) (fun _ _ _ h => h) (Or.inl ⟨by rfl, ?_⟩) ?_ ?_
 rotate_left
 · intro w'
   go_simp
   with_reducible rfl
 rotate_left
 · simp only [Act.put, List.setIfInBounds_toArray, List.set_cons_zero, List.set_cons_succ, i64_w, i32_w]
   rfl
 refine one_ (i := 32) (N := some 54) #[true, true, true, true, true, true, true, true, true, true, true, true, true, true, true, true, true, true, true, true, true, true, true, true, true, true, true, true, true, true, true, true, true, false, false, false, false, false, false, false, false] rfl rfl (one_of HT_.out (by kernel_rfl)) (by decide) (fun K hK => ?_)
 refine goes_ Try.func17 (by kernel_rfl) rfl #[.slice Ao28 y181.length co28, .int .i64 1, .int .i64 4] (by rfl) rfl rfl sqA ?_
 with_reducible refine (queue_Until.calls _ _ _ _ _ _ _ _ ?side1 ?side2 A12.out).mono ?_
 (case side1 => repeat (first | exact (Kd.R_reads' HO183.out).2.2 | (with_reducible refine Kd.C_alloc ?_ _) | (with_reducible refine Kd.C_drewN ?_ _) | (with_reducible refine Kd.C_drew ?_)))
 (case side2 => exact (Kd.R_reads' HO183.out).2.1)
 rintro e w35 ⟨rfl, hb⟩
 have HS8_ := (hb.cell (World.block_lt_of_cell? _ _ (hHeld.2.2.2.2.2.2.2.2.1))).trans (hHeld.2.2.2.2.2.2.2.2.1)
 have HS9_ := (hb.cell (World.block_lt_of_cell? _ _ (hHeld.2.2.2.2.2.2.2.2.2.1))).trans (hHeld.2.2.2.2.2.2.2.2.2.1)
 have HS10_ := (hb.cell (World.block_lt_of_cell? _ _ (hHeld.2.2.2.2.2.2.2.2.2.2.1))).trans (hHeld.2.2.2.2.2.2.2.2.2.2.1)
 have HS11_ := (hb.cell (World.block_lt_of_cell? _ _ (hHeld.2.2.2.2.2.2.2.2.2.2.2.1))).trans (hHeld.2.2.2.2.2.2.2.2.2.2.2.1)
 have HS12_ := (hb.cell (World.block_lt_of_cell? _ _ (hHeld.2.2.2.2.2.2.2.2.2.2.2.2.1))).trans (hHeld.2.2.2.2.2.2.2.2.2.2.2.2.1)
 have HS13_ := (hb.cell (World.block_lt_of_cell? _ _ (hHeld.2.2.2.2.2.2.2.2.2.2.2.2.2.1))).trans (hHeld.2.2.2.2.2.2.2.2.2.2.2.2.2.1)
 have HS14_ := (hb.cell (World.block_lt_of_cell? _ _ (hHeld.2.2.2.2.2.2.2.2.2.2.2.2.2.2.1))).trans (hHeld.2.2.2.2.2.2.2.2.2.2.2.2.2.2.1)
 have HS15_ := (hb.cell (World.block_lt_of_cell? _ _ (hHeld.2.2.2.2.2.2.2.2.2.2.2.2.2.2.2))).trans (hHeld.2.2.2.2.2.2.2.2.2.2.2.2.2.2.2)
 refine ⟨_, rfl, ?_⟩
 replace HO183 := sqM (Kd.R_below (sqR HO183.out) hb)
 replace HO186 := sqM (Kd.R_below (sqR HO186.out) hb)
 replace HO193 := sqM (Kd.R_below (sqR HO193.out) hb)
 replace BK178 := sqM (blk_below (sqK BK178.out) hb)
 replace BK179 := sqM (blk_below (sqK BK179.out) hb)
 replace BK180 := sqM (blk_below (sqK BK180.out) hb)
 replace HB := sqM (below_step (sqB3 HB.out GE178.out GE179.out GE180.out) hb)
 (try clear hb)
 (try clear hb2)
 (try clear hk)
 (try clear hi)
 refine hK.out _ _ ⟨(blk_cell BK179.out 0).trans rfl, (blk_cell BK179.out 1).trans rfl, (blk_cell BK179.out 2).trans rfl, (blk_cell BK179.out 3).trans rfl, (blk_cell BK178.out 0).trans rfl, (blk_cell BK178.out 1).trans rfl, (blk_cell BK178.out 2).trans rfl, (blk_cell BK178.out 3).trans rfl, HS8_, HS9_, HS10_, HS11_, HS12_, HS13_, HS14_, HS15_⟩ (fun hHeld => ?_)
 clear hK K
 refine norm_ (a' := ?_) ?_ ?_
 rotate_left
 · show Act.put _ (some 54) _ = _
   simp only [Act.put, List.setIfInBounds_toArray, List.set_cons_zero, List.set_cons_succ, i64_w, i32_w]
   rfl
 refine pure_ (i := 33) (N := some 55) (v := ?_) (a' := ?_) #[true, true, true, true, true, true, true, true, true, true, true, true, true, true, true, true, true, true, true, true, true, true, true, true, true, true, true, true, true, true, true, true, true, true, false, false, false, false, false, false, false] rfl rfl (any_of HT_.out (by kernel_rfl)) (fun _ _ _ h => h) (Or.inl ⟨by rfl, ?_⟩) ?_ ?_
 rotate_left
 · intro w'
   go_simp
   with_reducible rfl
 rotate_left
 · simp only [Act.put, List.setIfInBounds_toArray, List.set_cons_zero, List.set_cons_succ, i64_w, i32_w]
   rfl
 refine pure_ (i := 34) (N := some 56) (v := ?_) (a' := ?_) #[true, true, true, true, true, true, true, true, true, true, true, true, true, true, true, true, true, true, true, true, true, true, true, true, true, true, true, true, true, true, true, true, true, true, true, false, false, false, false, false, false] rfl rfl (any_of HT_.out (by kernel_rfl)) (fun _ _ _ h => h) (Or.inl ⟨by rfl, ?_⟩) ?_ ?_
 rotate_left
 · intro w'
   go_simp
   with_reducible rfl
 rotate_left
 · simp only [Act.put, List.setIfInBounds_toArray, List.set_cons_zero, List.set_cons_succ, i64_w, i32_w]
   rfl
 refine pure_ (i := 35) (N := some 57) (v := ?_) (a' := ?_) #[true, true, true, true, true, true, true, true, true, true, true, true, true, true, true, true, true, true, true, true, true, true, true, true, true, true, true, true, true, true, true, true, true, true, true, true, false, false, false, false, false] rfl rfl (any_of HT_.out (by kernel_rfl)) (fun _ _ _ h => h) (Or.inl ⟨by rfl, ?_⟩) ?_ ?_
 rotate_left
 · intro w'
   go_simp
   with_reducible rfl
 rotate_left
 · simp only [Act.put, List.setIfInBounds_toArray, List.set_cons_zero, List.set_cons_succ, i64_w, i32_w]
   rfl
 refine pure_ (i := 36) (N := some 58) (v := ?_) (a' := ?_) #[true, true, true, true, true, true, true, true, true, true, true, true, true, true, true, true, true, true, true, true, true, true, true, true, true, true, true, true, true, true, true, true, true, true, true, true, true, false, false, false, false] rfl rfl (any_of HT_.out (by kernel_rfl)) (fun _ _ _ h => h) (Or.inl ⟨by rfl, ?_⟩) ?_ ?_
 rotate_left
 · intro w'
   go_simp
   with_reducible rfl
 rotate_left
 · simp only [Act.put, List.setIfInBounds_toArray, List.set_cons_zero, List.set_cons_succ, i64_w, i32_w]
   rfl
 refine one_ (i := 37) (N := some 59) #[true, true, true, true, true, true, true, true, true, true, true, true, true, true, true, true, true, true, true, true, true, true, true, true, true, true, true, true, true, true, true, true, true, true, true, true, true, true, false, false, false] rfl rfl (one_of HT_.out (by kernel_rfl)) (by decide) (fun K hK => ?_)
 refine goes_ Try.func17 (by kernel_rfl) rfl #[.slice Ao28 y181.length co28, .int .i64 3, .int .i64 1] (by rfl) rfl rfl sqA ?_
 with_reducible refine (queue_Until.calls _ _ _ _ _ _ _ _ ?side1 ?side2 A14.out).mono ?_
 (case side1 => repeat (first | exact (Kd.R_reads' HO183.out).2.2 | (with_reducible refine Kd.C_alloc ?_ _) | (with_reducible refine Kd.C_drewN ?_ _) | (with_reducible refine Kd.C_drew ?_)))
 (case side2 => exact (Kd.R_reads' HO183.out).2.1)
 rintro e w36 ⟨rfl, hb⟩
 have HS8_ := (hb.cell (World.block_lt_of_cell? _ _ (hHeld.2.2.2.2.2.2.2.2.1))).trans (hHeld.2.2.2.2.2.2.2.2.1)
 have HS9_ := (hb.cell (World.block_lt_of_cell? _ _ (hHeld.2.2.2.2.2.2.2.2.2.1))).trans (hHeld.2.2.2.2.2.2.2.2.2.1)
 have HS10_ := (hb.cell (World.block_lt_of_cell? _ _ (hHeld.2.2.2.2.2.2.2.2.2.2.1))).trans (hHeld.2.2.2.2.2.2.2.2.2.2.1)
 have HS11_ := (hb.cell (World.block_lt_of_cell? _ _ (hHeld.2.2.2.2.2.2.2.2.2.2.2.1))).trans (hHeld.2.2.2.2.2.2.2.2.2.2.2.1)
 have HS12_ := (hb.cell (World.block_lt_of_cell? _ _ (hHeld.2.2.2.2.2.2.2.2.2.2.2.2.1))).trans (hHeld.2.2.2.2.2.2.2.2.2.2.2.2.1)
 have HS13_ := (hb.cell (World.block_lt_of_cell? _ _ (hHeld.2.2.2.2.2.2.2.2.2.2.2.2.2.1))).trans (hHeld.2.2.2.2.2.2.2.2.2.2.2.2.2.1)
 have HS14_ := (hb.cell (World.block_lt_of_cell? _ _ (hHeld.2.2.2.2.2.2.2.2.2.2.2.2.2.2.1))).trans (hHeld.2.2.2.2.2.2.2.2.2.2.2.2.2.2.1)
 have HS15_ := (hb.cell (World.block_lt_of_cell? _ _ (hHeld.2.2.2.2.2.2.2.2.2.2.2.2.2.2.2))).trans (hHeld.2.2.2.2.2.2.2.2.2.2.2.2.2.2.2)
 refine ⟨_, rfl, ?_⟩
 replace HO183 := sqM (Kd.R_below (sqR HO183.out) hb)
 replace HO186 := sqM (Kd.R_below (sqR HO186.out) hb)
 replace HO193 := sqM (Kd.R_below (sqR HO193.out) hb)
 replace BK178 := sqM (blk_below (sqK BK178.out) hb)
 replace BK179 := sqM (blk_below (sqK BK179.out) hb)
 replace BK180 := sqM (blk_below (sqK BK180.out) hb)
 replace HB := sqM (below_step (sqB3 HB.out GE178.out GE179.out GE180.out) hb)
 (try clear hb)
 (try clear hb2)
 (try clear hk)
 (try clear hi)
 refine hK.out _ _ ⟨(blk_cell BK179.out 0).trans rfl, (blk_cell BK179.out 1).trans rfl, (blk_cell BK179.out 2).trans rfl, (blk_cell BK179.out 3).trans rfl, (blk_cell BK178.out 0).trans rfl, (blk_cell BK178.out 1).trans rfl, (blk_cell BK178.out 2).trans rfl, (blk_cell BK178.out 3).trans rfl, HS8_, HS9_, HS10_, HS11_, HS12_, HS13_, HS14_, HS15_⟩ (fun hHeld => ?_)
 clear hK K
 refine norm_ (a' := ?_) ?_ ?_
 rotate_left
 · show Act.put _ (some 59) _ = _
   simp only [Act.put, List.setIfInBounds_toArray, List.set_cons_zero, List.set_cons_succ, i64_w, i32_w]
   rfl
 refine pure_ (i := 38) (N := some 60) (v := ?_) (a' := ?_) #[true, true, true, true, true, true, true, true, true, true, true, true, true, true, true, true, true, true, true, true, true, true, true, true, true, true, true, true, true, true, true, true, true, true, true, true, true, true, true, false, false] rfl rfl (any_of HT_.out (by kernel_rfl)) (fun _ _ _ h => h) (Or.inl ⟨by rfl, ?_⟩) ?_ ?_
 rotate_left
 · intro w'
   go_simp
   with_reducible rfl
 rotate_left
 · simp only [Act.put, List.setIfInBounds_toArray, List.set_cons_zero, List.set_cons_succ, i64_w, i32_w]
   rfl
 refine pure_ (i := 39) (N := some 61) (v := ?_) (a' := ?_) #[true, true, true, true, true, true, true, true, true, true, true, true, true, true, true, true, true, true, true, true, true, true, true, true, true, true, true, true, true, true, true, true, true, true, true, true, true, true, true, true, false] rfl rfl (any_of HT_.out (by kernel_rfl)) (fun _ _ _ h => h) (Or.inl ⟨by rfl, ?_⟩) ?_ ?_
 rotate_left
 · intro w'
   go_simp
   with_reducible rfl
 rotate_left
 · simp only [Act.put, List.setIfInBounds_toArray, List.set_cons_zero, List.set_cons_succ, i64_w, i32_w]
   rfl
 refine pure_ (i := 40) (N := some 0) (v := ?_) (a' := ?_) #[true, true, true, true, true, true, true, true, true, true, true, true, true, true, true, true, true, true, true, true, true, true, true, true, true, true, true, true, true, true, true, true, true, true, true, true, true, true, true, true, true] rfl rfl (any_of HT_.out (by kernel_rfl)) (fun _ _ _ h => h) (Or.inl ⟨by rfl, ?_⟩) ?_ ?_
 rotate_left
 · intro w'
   go_simp
   with_reducible rfl
 rotate_left
 · simp only [Act.put, List.setIfInBounds_toArray, List.set_cons_zero, List.set_cons_succ, i64_w, i32_w]
   rfl
 refine done_ (done_of HT_.out (by kernel_rfl)) ?_
 try go_wp2
 go_ret
 exact ⟨sqE, sqB3 HB.out GE178.out GE179.out GE180.out⟩

end Go.Proofs.Ytkjmfnijagdhpaa.PQueue
