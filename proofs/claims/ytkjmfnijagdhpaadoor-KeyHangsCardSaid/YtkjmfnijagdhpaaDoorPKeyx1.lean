/- Lean functions for Go functions of the given program, and proofs that the code computes them, each under its theorem's own conditions. Written by a program of this session. -/
import Derived.Test.YtkjmfnijagdhpaaDoorPKeyx0
namespace Go.Proofs.YtkjmfnijagdhpaaDoor.PKey
open Go.RowKit Go.Proofs.YtkjmfnijagdhpaaDoorW.PrintWords Go.Proofs.YtkjmfnijagdhpaaDoorW.PrintLast Go.Proofs.YtkjmfnijagdhpaaDoorW.PrintMore
attribute [local go_sem] max2_int min2_int max_two min_two max_three min_three max_four min_four   -- for this text's walks alone
set_option linter.unusedVariables false
set_option linter.unusedSimpArgs false

/-! ### tlv_at_1: function 34 -/
def tlv_at_1.f (a0_0 : Int) (code : Int) : Option Bool := some (a0_0 == code)
set_option maxHeartbeats 8000000 in
set_option maxRecDepth 100000 in
theorem tlv_at_1.calls (g : Nat) (code : Int) (a0_0 : Int) (A0 : Option Addr) (n c : Nat) (r : Bool) (w : World) (hg0 : w.heap[g]? = some (.cells #[.int .i64 code] 3 (0, 0))) (h : (a0_0 == code) = r) :
    Calls Tryd.prog 34 #[.agg #[.int .i64 a0_0, .slice A0 n c], .pointer (some ⟨g, 0, none⟩)] w fun e w' => e = .returned (.bool r) ∧ Below w.heap.size w w' := by
 have hu52 := Tryd.underlying52
 have HB := Aside0.mk (Below.refl w.heap.size w)
 have BK := Aside0.mk hg0
 clear hg0
 go_enter Tryd.func34, Tryd.ntmps34
 go_wp2_with (first | ((with_reducible refine gate_dst (N := 2) rfl ?_); refine box_event rfl (N := 2) rfl (cs := #[.int .i64 a0_0, .slice A0 n c]) (t := 52) sqs ?_; intro gl hg w2 hbox hb; replace BK := sqM (blk_below (sqK BK.out) hb); replace HB := sqM (below_step (sqB HB.out) hb); have BKgl := sqM hbox; clear hb hbox hg; have hcgl_0 : w2.cell? ⟨gl, 0, none⟩ = some (.int .i64 a0_0) := (blk_cell BKgl.out 0).trans rfl; have hcg_0 : w2.cell? ⟨g, 0, none⟩ = some (.int .i64 code) := (blk_cell BK.out 0).trans rfl))
 go_ret
 exact ⟨by first | rfl | (subst h; rfl) | (simp [*]; done), (sqB HB.out)⟩

/-! ### tlv_at: function 33 -/
def tlv_at.l0 : Nat → Int → List (S52) → Int → Int → Option (Int)
  | 0, _, _, _, _ => none
  | k + 1, x1, x9, x10, x11 => if x11 < x10 then (if 0 ≤ x11 then (if x11 < (x9.length : Int) then (if ((rd_T52 x9 x11).f0) = x1 then (some x11) else (tlv_at.l0 k x1 x9 x10 (wrap64 (x11 + 1)))) else (none)) else (none)) else (some (-1))
def tlv_at.f (k : Nat) (l0 : List (S52)) (a1 : Int) : Option (Int) := tlv_at.l0 k a1 l0 (l0.length : Int) 0
theorem tlv_at.mono_l : ∀ k, (∀ y0 y1 y2 y3, LeO (tlv_at.l0 k y0 y1 y2 y3) (tlv_at.l0 (k + 1) y0 y1 y2 y3))
  | 0 => fun _ _ _ _ r h => by simp [tlv_at.l0] at h
  | k + 1 => by
    have ih0 := tlv_at.mono_l k
    · intro y0 y1 y2 y3
      unfold tlv_at.l0
      repeat' first
      | (with_reducible exact ih0 _ _ _ _)
      | (with_reducible exact LeO.refl _)
      | (with_reducible exact LeO.none _)
      | (with_reducible refine LeO.ite ?_ ?_)
      | (with_reducible refine LeO.bind ?_ (fun _ => ?_))
theorem tlv_at.mono : ∀ a0 a1 k, LeO (tlv_at.f k a0 a1) (tlv_at.f (k + 1) a0 a1) := by
 intro a0 a1 k
 have ih0 := tlv_at.mono_l k
 unfold tlv_at.f
 repeat' first
  | (with_reducible exact ih0 _ _ _ _)
  | (with_reducible exact LeO.refl _)
  | (with_reducible exact LeO.none _)
  | (with_reducible refine LeO.ite ?_ ?_)
  | (with_reducible refine LeO.bind ?_ (fun _ => ?_))
set_option maxHeartbeats 8000000 in
set_option maxRecDepth 100000 in
theorem tlv_at.calls (k : Nat) (A0 : Option Addr) (c0 : Nat) (l0 : List (S52)) (a1 : Int) (r : Int) (w : World) (hr0 : Kd.C k52 w A0 l0.length l0) (hc0 : l0.length ≤ c0) (h : tlv_at.f k l0 a1 = some r) :
    Calls Tryd.prog 33 #[.slice A0 l0.length c0, .int .i64 a1] w fun e w' => e = .returned (.int .i64 r) ∧ Below w.heap.size w w' := by
 have hu52 := Tryd.underlying52
 have HR0 := Aside0.mk hr0
 have HC0 := Aside0.mk hc0
 clear hr0 hc0
 have HB := Aside0.mk (Below.refl w.heap.size w)
 have H : (tlv_at.l0 k a1 l0 (l0.length : Int) 0) = some r := h
 clear h
 have H' := Aside0.mk H
 clear H
 have hmf : ∀ (fn : Fn) (first cap : Array Value) (w : World), (Instr.makeFunc fn first cap).run Tryd.prog w = .ok (.func fn first cap) w := fun _ _ _ _ => rfl
 go_enter Tryd.func33, Tryd.ntmps33
 go_wp2_with (first | ((with_reducible refine gate_dst (N := 3) rfl ?_); refine box_event rfl (N := 3) rfl (cs := #[.int .i64 a1]) (t := 3) sqs ?_; intro g hg w2 hbox hb; have HW := sqM (below_step (sqB HB.out) hb); clear HB; have BKg := sqM hbox; clear hb hbox hg))
 have HB := Aside0.mk (Below.refl w2.heap.size w2)
 replace HR0 := Aside0.mk (Kd.C_below HR0.out HW.out)
 go_loopg [11] k (fun kq v11 w' => ∃ (x11_1 : Int), v11 = .int .i64 x11_1 ∧ Aside0 (tlv_at.l0 kq a1 l0 (l0.length : Int) x11_1 = some r) ∧ Aside0 (kq ≤ k) ∧ Aside0 (Below w2.heap.size w2 w'))
 case atStart => exact ⟨(0), sqI, H', ⟨Nat.le_refl _⟩, ⟨sqB HB.out⟩⟩
 clear H'
 try clear p2
 obtain ⟨x11_1, rfl, HA, HK1, HB⟩ := hrel
 cases gk with
 | zero => exact absurd HA.out (by simp [tlv_at.l0])
 | succ k1 => ?_
 have H := HA.out
 clear HA
 simp only [tlv_at.l0] at H
 by_cases c3 : x11_1 < (l0.length : Int)
 rotate_left
 · rw [if_neg c3] at H
   have c3b0 : decide (x11_1 < (l0.length : Int)) = false := decide_eq_false c3
   clear c3
   obtain rfl := Option.some.inj H
   go_wp2
   go_ret
   exact ⟨sqE, below_step HW.out (sqB HB.out)⟩
 rw [if_pos c3] at H
 have c3b0 : decide (x11_1 < (l0.length : Int)) = true := decide_eq_true c3
 clear c3
 by_cases c4 : 0 ≤ x11_1
 rotate_left
 · rw [if_neg c4] at H
   exact absurd H (by simp)
 rw [if_pos c4] at H
 have c4b0 : decide (0 ≤ x11_1) = true := decide_eq_true c4
 clear c4
 by_cases c5 : x11_1 < (l0.length : Int)
 rotate_left
 · rw [if_neg c5] at H
   exact absurd H (by simp)
 rw [if_pos c5] at H
 have c5b0 : decide (x11_1 < (l0.length : Int)) = true := decide_eq_true c5
 clear c5
 by_cases c6 : ((rd_T52 l0 x11_1).f0) = a1
 · rw [if_pos c6] at H
   have c6b0 : (((rd_T52 l0 x11_1).f0) == a1) = true := beq_iff_eq.mpr c6
   have c6b1 : (((rd_T52 l0 x11_1).f0) != a1) = false := bne_eq_false_iff_eq.mpr c6
   clear c6
   obtain rfl := Option.some.inj H
   have p105 : 0 ≤ (x11_1 : Int) := of_decide_eq_true sqH
   have q105 : x11_1 < (l0.length : Int) := of_decide_eq_true sqH
   obtain ⟨ad105, A105_1, c105_1, e105, hx105_0, hx105_1, hl105_1, hi105_1⟩ := at_T52 HR0.out x11_1 p105 q105
   cases e105
   replace hx105_0 := (HB.out.cell (World.block_lt_of_cell? w2 _ hx105_0)).trans hx105_0
   replace hx105_1 := (HB.out.cell (World.block_lt_of_cell? w2 _ hx105_1)).trans hx105_1
   have HR105_1 := Aside0.mk hi105_1
   have HC105_1 := Aside0.mk hl105_1
   clear hi105_1 hl105_1
   replace p105 := eq_true p105
   replace q105 := eq_true q105
   go_wp2_with (first | ((with_reducible refine gate_dst (N := 7) rfl ?_); refine box_event rfl (N := 7) rfl (cs := #[.int .i64 0, .slice none 0 0]) (t := 52) sqs ?_; intro gb106 hg w7 hbox hb; have BK106 := sqM (hbox); have GW106 := sqM ((by rw [hg]; exact (below_size (sqB HB.out)) : w2.heap.size ≤ gb106)); have GE106 := sqM ((by rw [hg]; exact (below_size (sqB HB.out)) : w2.heap.size ≤ gb106)); replace HB := sqM (below_step (sqB HB.out) hb); clear hb hbox hg; obtain ⟨hcz8_0, hcz8_1, hfz8_0, hfz8_1⟩ := sqF2 BK106.out) | ((refine (tlv_at_1.calls g a1 ((rd_T52 l0 x11_1).f0) _ _ _ true _ (blk_below BKg.out ?bcl) c6b0).mono ?_); (case bcl => exact sqB1 HB.out GE106.out); rintro e wc ⟨rfl, hb⟩; replace HB := sqM (below_step (sqB1 HB.out GE106.out) hb); clear hb))
   go_ret
   exact ⟨sqE, below_step HW.out (sqB1 HB.out GE106.out)⟩
 rw [if_neg c6] at H
 have c6b0 : (((rd_T52 l0 x11_1).f0) == a1) = false := beq_eq_false_iff_ne.mpr c6
 have c6b1 : (((rd_T52 l0 x11_1).f0) != a1) = true := bne_iff_ne.mpr c6
 have H' := Aside0.mk H
 clear H
 have p105 : 0 ≤ (x11_1 : Int) := of_decide_eq_true sqH
 have q105 : x11_1 < (l0.length : Int) := of_decide_eq_true sqH
 obtain ⟨ad105, A105_1, c105_1, e105, hx105_0, hx105_1, hl105_1, hi105_1⟩ := at_T52 HR0.out x11_1 p105 q105
 cases e105
 replace hx105_0 := (HB.out.cell (World.block_lt_of_cell? w2 _ hx105_0)).trans hx105_0
 replace hx105_1 := (HB.out.cell (World.block_lt_of_cell? w2 _ hx105_1)).trans hx105_1
 have HR105_1 := Aside0.mk hi105_1
 have HC105_1 := Aside0.mk hl105_1
 clear hi105_1 hl105_1
 replace p105 := eq_true p105
 replace q105 := eq_true q105
 go_wp2_with (first | ((with_reducible refine gate_dst (N := 7) rfl ?_); refine box_event rfl (N := 7) rfl (cs := #[.int .i64 0, .slice none 0 0]) (t := 52) sqs ?_; intro gb106 hg w9 hbox hb; have BK106 := sqM (hbox); have GW106 := sqM ((by rw [hg]; exact (below_size (sqB HB.out)) : w2.heap.size ≤ gb106)); have GE106 := sqM ((by rw [hg]; exact (below_size (sqB HB.out)) : w2.heap.size ≤ gb106)); replace HB := sqM (below_step (sqB HB.out) hb); clear hb hbox hg; obtain ⟨hcz10_0, hcz10_1, hfz10_0, hfz10_1⟩ := sqF2 BK106.out) | ((refine (tlv_at_1.calls g a1 ((rd_T52 l0 x11_1).f0) _ _ _ false _ (blk_below BKg.out ?bcl) c6b0).mono ?_); (case bcl => exact sqB1 HB.out GE106.out); rintro e wc ⟨rfl, hb⟩; replace HB := sqM (below_step (sqB1 HB.out GE106.out) hb); clear hb))
 go_roundg k1
 case measure => have := HK1.out; omega
 case rel => exact ⟨(wrap64 (x11_1 + 1)), sqI, H', ⟨by have := HK1.out; omega⟩, ⟨sqB1 HB.out GE106.out⟩⟩

/-! ### tlv_Find: function 23 -/
def tlv_Find.f (k : Nat) (l0 : List (S52)) (a1 : Int) : Option (List Int × Bool) := (tlv_at.f k l0 a1).bind fun t104 => (if t104 < 0 then (some (([] : List Int), false)) else ((some (([] : List Int) : List Int)).bind fun y105 => (if 0 ≤ t104 then (if t104 < (l0.length : Int) then (if y105.length + ((rd_T52 l0 t104).f1).length < 140737488355328 then (some ((y105 ++ ((rd_T52 l0 t104).f1)), true)) else (none)) else (none)) else (none))))
theorem tlv_Find.mono : ∀ a0 a1 k, LeO (tlv_Find.f k a0 a1) (tlv_Find.f (k + 1) a0 a1) := by
 intro a0 a1 k
 unfold tlv_Find.f
 repeat' first
  | (with_reducible exact tlv_at.mono _ _ _)
  | (with_reducible exact LeO.refl _)
  | (with_reducible exact LeO.none _)
  | (with_reducible refine LeO.ite ?_ ?_)
  | (with_reducible refine LeO.bind ?_ (fun _ => ?_))
set_option maxHeartbeats 8000000 in
set_option maxRecDepth 100000 in
theorem tlv_Find.calls (k : Nat) (A0 : Option Addr) (c0 : Nat) (l0 : List (S52)) (a1 : Int) (r1 : List Int) (r2 : Bool) (w : World) (hr0 : Kd.C k52 w A0 l0.length l0) (hc0 : l0.length ≤ c0) (h : tlv_Find.f k l0 a1 = some (r1, r2)) :
    Calls Tryd.prog 23 #[.slice A0 l0.length c0, .int .i64 a1] w fun e w' => ∃ v0_ : Value, e = .returned (.tuple #[v0_, .bool r2]) ∧ Kd.R (Kd.int .u8) 5 w' w.heap.size (fun _ => True) v0_ r1 ∧ Below w.heap.size w w' := by
 have HR0 := Aside0.mk hr0
 have HC0 := Aside0.mk hc0
 clear hr0 hc0
 have HB := Aside0.mk (Below.refl w.heap.size w)
 have H : ((tlv_at.f k l0 a1).bind fun t104 => (if t104 < 0 then (some (([] : List Int), false)) else ((some (([] : List Int) : List Int)).bind fun y105 => (if 0 ≤ t104 then (if t104 < (l0.length : Int) then (if y105.length + ((rd_T52 l0 t104).f1).length < 140737488355328 then (some ((y105 ++ ((rd_T52 l0 t104).f1)), true)) else (none)) else (none)) else (none))))) = some (r1, r2) := h
 clear h
 replace H := Option.bind_eq_some_iff.mp H
 obtain ⟨t104, A30, H⟩ := H
 replace H : (if t104 < 0 then (some (([] : List Int), false)) else ((some (([] : List Int) : List Int)).bind fun y105 => (if 0 ≤ t104 then (if t104 < (l0.length : Int) then (if y105.length + ((rd_T52 l0 t104).f1).length < 140737488355328 then (some ((y105 ++ ((rd_T52 l0 t104).f1)), true)) else (none)) else (none)) else (none)))) = some (r1, r2) := H
 have A3 := Aside0.mk A30
 clear A30
 by_cases c4 : t104 < 0
 · rw [if_pos c4] at H
   have c4b0 : decide (t104 < 0) = true := decide_eq_true c4
   clear c4
   simp only [Option.some.injEq, Prod.mk.injEq] at H
   obtain ⟨rfl, rfl⟩ := H
   go_enter Tryd.func23, Tryd.ntmps23
   go_wp2_with (first | ((with_reducible refine gate_callee (f := 33) rfl ?_); refine goesL_ (some 9) rfl rfl Tryd.func33 (by kernel_rfl) rfl #[.slice A0 l0.length c0, .int .i64 a1] rfl sqA ?_; (with_reducible refine (tlv_at.calls _ _ _ _ _ _ _ ?side1 ?side2 A3.out).mono ?_); (case side1 => repeat (first | exact HR0.out | (with_reducible refine Kd.C_alloc ?_ _) | (with_reducible refine Kd.C_drewN ?_ _) | (with_reducible refine Kd.C_drew ?_))); (case side2 => exact HC0.out); rintro e w5 ⟨rfl, hb⟩; refine ⟨_, rfl, ?_⟩; replace HB := sqM (below_step (sqB HB.out) hb); (try clear hb); (try clear hb2); (try clear hk); (try clear hi)))
   go_ret2
   exact ⟨_, sqE, by first | exact Kd.R_nil _ _ _ _ _ | exact Kd.N_nil _ _ _ _ _ | exact Kd.V_nil _ _ _ _ _ | exact Kd.Q_nil _ _ _ _ _ | exact Kd.S_nil _ _ _ _ _, sqB HB.out⟩
 rw [if_neg c4] at H
 have c4b0 : decide (t104 < 0) = false := decide_eq_false c4
 clear c4
 obtain ⟨y105, hy105⟩ : ∃ y_ : List Int, y_ = (([] : List Int)) := ⟨_, rfl⟩
 replace H : (if 0 ≤ t104 then (if t104 < (l0.length : Int) then (if y105.length + ((rd_T52 l0 t104).f1).length < 140737488355328 then (some ((y105 ++ ((rd_T52 l0 t104).f1)), true)) else (none)) else (none)) else (none)) = some (r1, r2) := by first | (rw [hy105]; with_reducible exact H) | (have H2_ := (Option.bind_some _ _).symm.trans H; rw [hy105]; with_reducible exact H2_) | (have H2_ := (Option.bind_some _ _).symm.trans H; with_reducible exact H2_) | with_reducible exact H | (rw [hy105]; exact H) | exact H
 have Ny105 := Aside0.mk hy105
 clear hy105
 by_cases c6 : 0 ≤ t104
 rotate_left
 · rw [if_neg c6] at H
   exact absurd H (by simp)
 rw [if_pos c6] at H
 have c6b0 : decide (0 ≤ t104) = true := decide_eq_true c6
 clear c6
 by_cases c7 : t104 < (l0.length : Int)
 rotate_left
 · rw [if_neg c7] at H
   exact absurd H (by simp)
 rw [if_pos c7] at H
 have c7b0 : decide (t104 < (l0.length : Int)) = true := decide_eq_true c7
 clear c7
 by_cases c8 : y105.length + ((rd_T52 l0 t104).f1).length < 140737488355328
 rotate_left
 · rw [if_neg c8] at H
   exact absurd H (by simp)
 rw [if_pos c8] at H
 have LMc8 := Aside0.mk c8
 clear c8
 obtain ⟨y109, hy109⟩ : ∃ y_ : List Int, y_ = (y105 ++ ((rd_T52 l0 t104).f1)) := ⟨_, rfl⟩
 replace H : (some (y109, true)) = some (r1, r2) := by first | (rw [hy109]; with_reducible exact H) | (have H2_ := (Option.bind_some _ _).symm.trans H; rw [hy109]; with_reducible exact H2_) | (have H2_ := (Option.bind_some _ _).symm.trans H; with_reducible exact H2_) | with_reducible exact H | (rw [hy109]; exact H) | exact H
 have Ny109 := Aside0.mk hy109
 clear hy109
 simp only [Option.some.injEq, Prod.mk.injEq] at H
 obtain ⟨rfl, rfl⟩ := H
 go_enter Tryd.func23, Tryd.ntmps23
 go_wp2_with (first | ((with_reducible refine gate_callee (f := 33) rfl ?_); refine goesL_ (some 9) rfl rfl Tryd.func33 (by kernel_rfl) rfl #[.slice A0 l0.length c0, .int .i64 a1] rfl sqA ?_; (with_reducible refine (tlv_at.calls _ _ _ _ _ _ _ ?side1 ?side2 A3.out).mono ?_); (case side1 => repeat (first | exact HR0.out | (with_reducible refine Kd.C_alloc ?_ _) | (with_reducible refine Kd.C_drewN ?_ _) | (with_reducible refine Kd.C_drew ?_))); (case side2 => exact HC0.out); rintro e w9 ⟨rfl, hb⟩; refine ⟨_, rfl, ?_⟩; replace HB := sqM (below_step (sqB HB.out) hb); (try clear hb); (try clear hb2); (try clear hk); (try clear hi)) | ((with_reducible refine gate_dst (N := 12) rfl ?_); refine Kd.R_lit (Kd.int .u8) _ 5 ?hg (N := 12) ?hd (xs := ([] : List Int)) (inner := []) (ok := fun _ => True) (okp := fun _ => True) ?hr ?hp (fun _ hk => hk) trivial (Below.refl _ _) (Nat.le_refl _) (by simp) ?_; (case hd => rfl); (case hg => rfl); (case hr => first | (go_simp; done) | (go_simp; rfl)); (case hp => exact (Reps.none _ _)); intro v106 w10 ho11 hb hg_ hnew_; clear hg_ hnew_; (first | rw [← Ny105.out] at ho11 | (simp only [Int.reduceToNat] at ho11; rw [← Ny105.out] at ho11)); have HO107 := sqM (Kd.R_lower ho11 (below_size (sqB HB.out))); replace HB := sqM (below_step (sqB HB.out) hb); clear hb ho11; have p108 : 0 ≤ (t104 : Int) := of_decide_eq_true sqH; have q108 : t104 < (l0.length : Int) := of_decide_eq_true sqH; obtain ⟨ad108, A108_1, c108_1, e108, hx108_0, hx108_1, hl108_1, hi108_1⟩ := at_T52 HR0.out t104 p108 q108; cases e108; replace hx108_0 := sqx HB.out hx108_0; replace hx108_1 := sqx HB.out hx108_1; have HR108_1 := sqM hi108_1; have HC108_1 := sqM hl108_1; clear hi108_1 hl108_1; replace p108 := eq_true p108; replace q108 := eq_true q108) | ((with_reducible refine gate_builtin (b := .append) (xs := #[.tmp 12, .tmp 17]) rfl ?_); at_builtin; refine Kd.R_append_rows (Kd.int .u8) (w0 := w) w.heap.size rfl (.tmp 12) (.tmp 17) 22 5 (.int .u8 0) 1 rfl Tryd.underlying22 info5 rfl (by decide) (by omega) v106 y105 ((rd_T52 l0 t104).f1) _ _ _ (fun _ => True) (fun _ => False) rfl rfl ?aO ?aR (fun _ _ h => h) (fun _ h => h.elim) ?aF ?aB ?aS ?aL ?_; (case aR => repeat (first | exact (Kd.C_below HR108_1.out HB.out) | (with_reducible refine Kd.C_alloc ?_ _) | (with_reducible refine Kd.C_drewN ?_ _) | (with_reducible refine Kd.C_drew ?_))); (case aB => exact (sqB HB.out)); (case aF => exact (fun _ _ => trivial)); (case aO => exact (sqR HO107.out)); (case aS => exact (below_size (sqB HB.out))); (case aL => have := LMc8.out; omega); intro v110 w12 ho hb hg hat; rw [← Ny109.out] at ho; have HO111 := sqM (ho); replace HB := sqM (hb); clear HO107; clear ho hb hg hat))
 go_ret2
 exact ⟨_, sqE, by refine sqR ?_; exact HO111.out, sqB HB.out⟩

/-! ### msg_within: function 30 -/
def msg_within.f (a0 : Int) (a1 : Int) : Option (Bool) := if a0 ≥ 0 then (some (decide (a0 ≤ a1))) else (some false)
set_option maxHeartbeats 8000000 in
set_option maxRecDepth 100000 in
theorem msg_within.calls (a0 : Int) (a1 : Int) (r : Bool) (w : World) (h : msg_within.f a0 a1 = some r) :
    Calls Tryd.prog 30 #[.int .i64 a0, .int .i64 a1] w fun e w' => e = .returned (.bool r) ∧ Drawn0 w w' := by
 have H : (if a0 ≥ 0 then (some (decide (a0 ≤ a1))) else (some false)) = some r := h
 clear h
 by_cases c3 : a0 ≥ 0
 · rw [if_pos c3] at H
   have c3b0 : decide (0 ≤ a0) = true := decide_eq_true c3
   clear c3
   obtain rfl := Option.some.inj H
   go_enter Tryd.func30, Tryd.ntmps30
   go_wp2
   go_ret
   exact ⟨sqI, sqD⟩
 rw [if_neg c3] at H
 have c3b0 : decide (0 ≤ a0) = false := decide_eq_false c3
 clear c3
 obtain rfl := Option.some.inj H
 go_enter Tryd.func30, Tryd.ntmps30
 go_wp2
 go_ret
 exact ⟨sqI, sqD⟩

/-! ### addr_Right: function 31 -/
def addr_Right.f (a0 : Int) : Option (Bool) := if a0 ≥ 0 then (some (decide (a0 ≤ 4294967295))) else (some false)
set_option maxHeartbeats 8000000 in
set_option maxRecDepth 100000 in
theorem addr_Right.calls (a0 : Int) (r : Bool) (w : World) (h : addr_Right.f a0 = some r) :
    Calls Tryd.prog 31 #[.int .i64 a0] w fun e w' => e = .returned (.bool r) ∧ Drawn0 w w' := by
 have H : (if a0 ≥ 0 then (some (decide (a0 ≤ 4294967295))) else (some false)) = some r := h
 clear h
 by_cases c2 : a0 ≥ 0
 · rw [if_pos c2] at H
   have c2b0 : decide (0 ≤ a0) = true := decide_eq_true c2
   clear c2
   obtain rfl := Option.some.inj H
   go_enter Tryd.func31, Tryd.ntmps31
   go_wp2
   go_ret
   exact ⟨sqI, sqD⟩
 rw [if_neg c2] at H
 have c2b0 : decide (0 ≤ a0) = false := decide_eq_false c2
 clear c2
 obtain rfl := Option.some.inj H
 go_enter Tryd.func31, Tryd.ntmps31
 go_wp2
 go_ret
 exact ⟨sqI, sqD⟩

/-! ### tlv_Right: function 32 -/
def tlv_Right.l0 : Nat → List (S52) → List (S52) → Int → Int → Option (Bool)
  | 0, _, _, _, _ => none
  | k + 1, x0, x5, x6, x7 => if x7 < x6 then (if 0 ≤ x7 then (if x7 < (x5.length : Int) then (if ((rd_T52 x5 x7).f0) ≤ 0 then (some false) else (if ((rd_T52 x5 x7).f0) ≥ 255 then (some false) else (if (((rd_T52 x5 x7).f1).length : Int) > 600 then (some false) else ((tlv_at.f k x0 ((rd_T52 x5 x7).f0)).bind fun t114 => (if t114 = x7 then (tlv_Right.l0 k x0 x5 x6 (wrap64 (x7 + 1))) else (some false)))))) else (none)) else (none)) else (some (decide ((x0.length : Int) ≤ 60)))
def tlv_Right.f (k : Nat) (l0 : List (S52)) : Option (Bool) := tlv_Right.l0 k l0 l0 (l0.length : Int) 0
theorem tlv_Right.mono_l : ∀ k, (∀ y0 y1 y2 y3, LeO (tlv_Right.l0 k y0 y1 y2 y3) (tlv_Right.l0 (k + 1) y0 y1 y2 y3))
  | 0 => fun _ _ _ _ r h => by simp [tlv_Right.l0] at h
  | k + 1 => by
    have ih0 := tlv_Right.mono_l k
    · intro y0 y1 y2 y3
      unfold tlv_Right.l0
      repeat' first
      | (with_reducible exact ih0 _ _ _ _)
      | (with_reducible exact tlv_at.mono _ _ _)
      | (with_reducible exact LeO.refl _)
      | (with_reducible exact LeO.none _)
      | (with_reducible refine LeO.ite ?_ ?_)
      | (with_reducible refine LeO.bind ?_ (fun _ => ?_))
theorem tlv_Right.mono : ∀ a0 k, LeO (tlv_Right.f k a0) (tlv_Right.f (k + 1) a0) := by
 intro a0 k
 have ih0 := tlv_Right.mono_l k
 unfold tlv_Right.f
 repeat' first
  | (with_reducible exact ih0 _ _ _ _)
  | (with_reducible exact tlv_at.mono _ _ _)
  | (with_reducible exact LeO.refl _)
  | (with_reducible exact LeO.none _)
  | (with_reducible refine LeO.ite ?_ ?_)
  | (with_reducible refine LeO.bind ?_ (fun _ => ?_))
set_option maxHeartbeats 8000000 in
set_option maxRecDepth 100000 in
theorem tlv_Right.calls (k : Nat) (A0 : Option Addr) (c0 : Nat) (l0 : List (S52)) (r : Bool) (w : World) (hr0 : Kd.C k52 w A0 l0.length l0) (hc0 : l0.length ≤ c0) (h : tlv_Right.f k l0 = some r) :
    Calls Tryd.prog 32 #[.slice A0 l0.length c0] w fun e w' => e = .returned (.bool r) ∧ Below w.heap.size w w' := by
 have hu52 := Tryd.underlying52
 have HR0 := Aside0.mk hr0
 have HC0 := Aside0.mk hc0
 clear hr0 hc0
 have HB := Aside0.mk (Below.refl w.heap.size w)
 have H : (tlv_Right.l0 k l0 l0 (l0.length : Int) 0) = some r := h
 clear h
 have H' := Aside0.mk H
 clear H
 go_enter Tryd.func32, Tryd.ntmps32
 go_wp2
 go_loopg [7] k (fun kq v7 w' => ∃ (x7_1 : Int), v7 = .int .i64 x7_1 ∧ Aside0 (tlv_Right.l0 kq l0 l0 (l0.length : Int) x7_1 = some r) ∧ Aside0 (kq ≤ k) ∧ Aside0 (Below w.heap.size w w'))
 case atStart => exact ⟨(0), sqI, H', ⟨Nat.le_refl _⟩, ⟨sqB HB.out⟩⟩
 clear H'
 obtain ⟨x7_1, rfl, HA, HK1, HB⟩ := hrel
 cases gk with
 | zero => exact absurd HA.out (by simp [tlv_Right.l0])
 | succ k1 => ?_
 have H := HA.out
 clear HA
 simp only [tlv_Right.l0] at H
 by_cases c2 : x7_1 < (l0.length : Int)
 rotate_left
 · rw [if_neg c2] at H
   have c2b0 : decide (x7_1 < (l0.length : Int)) = false := decide_eq_false c2
   clear c2
   obtain rfl := Option.some.inj H
   go_wp2
   go_ret
   exact ⟨sqE, sqB HB.out⟩
 rw [if_pos c2] at H
 have c2b0 : decide (x7_1 < (l0.length : Int)) = true := decide_eq_true c2
 clear c2
 by_cases c3 : 0 ≤ x7_1
 rotate_left
 · rw [if_neg c3] at H
   exact absurd H (by simp)
 rw [if_pos c3] at H
 have c3b0 : decide (0 ≤ x7_1) = true := decide_eq_true c3
 clear c3
 by_cases c4 : x7_1 < (l0.length : Int)
 rotate_left
 · rw [if_neg c4] at H
   exact absurd H (by simp)
 rw [if_pos c4] at H
 have c4b0 : decide (x7_1 < (l0.length : Int)) = true := decide_eq_true c4
 clear c4
 by_cases c5 : ((rd_T52 l0 x7_1).f0) ≤ 0
 · rw [if_pos c5] at H
   have c5b0 : decide (((rd_T52 l0 x7_1).f0) ≤ 0) = true := decide_eq_true c5
   clear c5
   obtain rfl := Option.some.inj H
   have p112 : 0 ≤ (x7_1 : Int) := of_decide_eq_true sqH
   have q112 : x7_1 < (l0.length : Int) := of_decide_eq_true sqH
   obtain ⟨ad112, A112_1, c112_1, e112, hx112_0, hx112_1, hl112_1, hi112_1⟩ := at_T52 HR0.out x7_1 p112 q112
   cases e112
   replace hx112_0 := sqx HB.out hx112_0
   replace hx112_1 := sqx HB.out hx112_1
   have HR112_1 := Aside0.mk hi112_1
   have HC112_1 := Aside0.mk hl112_1
   clear hi112_1 hl112_1
   replace p112 := eq_true p112
   replace q112 := eq_true q112
   go_wp2_with (first | ((with_reducible refine gate_dst (N := 4) rfl ?_); (try (refine gate_guard (by rfl) ?_; dsimp only)); refine box_event rfl (N := 4) rfl (cs := #[.int .i64 0, .slice none 0 0]) (t := 52) sqs ?_; intro gb113 hg w6 hbox hb; have BK113 := sqM (hbox); have GW113 := sqM (sqZ hg (sqB HB.out)); have GE113 := sqM (sqZ hg (sqB HB.out)); replace HB := sqM (below_step (sqB HB.out) hb); clear hb hbox hg; obtain ⟨hcz7_0, hcz7_1, hfz7_0, hfz7_1⟩ := sqF2 BK113.out))
   go_ret
   exact ⟨sqE, sqB1 HB.out GE113.out⟩
 rw [if_neg c5] at H
 have c5b0 : decide (((rd_T52 l0 x7_1).f0) ≤ 0) = false := decide_eq_false c5
 clear c5
 by_cases c8 : ((rd_T52 l0 x7_1).f0) ≥ 255
 · rw [if_pos c8] at H
   have c8b0 : decide (255 ≤ ((rd_T52 l0 x7_1).f0)) = true := decide_eq_true c8
   clear c8
   obtain rfl := Option.some.inj H
   have p112 : 0 ≤ (x7_1 : Int) := of_decide_eq_true sqH
   have q112 : x7_1 < (l0.length : Int) := of_decide_eq_true sqH
   obtain ⟨ad112, A112_1, c112_1, e112, hx112_0, hx112_1, hl112_1, hi112_1⟩ := at_T52 HR0.out x7_1 p112 q112
   cases e112
   replace hx112_0 := sqx HB.out hx112_0
   replace hx112_1 := sqx HB.out hx112_1
   have HR112_1 := Aside0.mk hi112_1
   have HC112_1 := Aside0.mk hl112_1
   clear hi112_1 hl112_1
   replace p112 := eq_true p112
   replace q112 := eq_true q112
   go_wp2_with (first | ((with_reducible refine gate_dst (N := 4) rfl ?_); (try (refine gate_guard (by rfl) ?_; dsimp only)); refine box_event rfl (N := 4) rfl (cs := #[.int .i64 0, .slice none 0 0]) (t := 52) sqs ?_; intro gb113 hg w9 hbox hb; have BK113 := sqM (hbox); have GW113 := sqM (sqZ hg (sqB HB.out)); have GE113 := sqM (sqZ hg (sqB HB.out)); replace HB := sqM (below_step (sqB HB.out) hb); clear hb hbox hg; obtain ⟨hcz10_0, hcz10_1, hfz10_0, hfz10_1⟩ := sqF2 BK113.out))
   go_ret
   exact ⟨sqE, sqB1 HB.out GE113.out⟩
 rw [if_neg c8] at H
 have c8b0 : decide (255 ≤ ((rd_T52 l0 x7_1).f0)) = false := decide_eq_false c8
 clear c8
 by_cases c11 : (((rd_T52 l0 x7_1).f1).length : Int) > 600
 · rw [if_pos c11] at H
   have c11b0 : decide (600 < (((rd_T52 l0 x7_1).f1).length : Int)) = true := decide_eq_true c11
   have c11b1 : decide (600 < ((rd_T52 l0 x7_1).f1).length) = true := decide_eq_true (by omega)
   clear c11
   obtain rfl := Option.some.inj H
   have p112 : 0 ≤ (x7_1 : Int) := of_decide_eq_true sqH
   have q112 : x7_1 < (l0.length : Int) := of_decide_eq_true sqH
   obtain ⟨ad112, A112_1, c112_1, e112, hx112_0, hx112_1, hl112_1, hi112_1⟩ := at_T52 HR0.out x7_1 p112 q112
   cases e112
   replace hx112_0 := sqx HB.out hx112_0
   replace hx112_1 := sqx HB.out hx112_1
   have HR112_1 := Aside0.mk hi112_1
   have HC112_1 := Aside0.mk hl112_1
   clear hi112_1 hl112_1
   replace p112 := eq_true p112
   replace q112 := eq_true q112
   go_wp2_with (first | ((with_reducible refine gate_dst (N := 4) rfl ?_); (try (refine gate_guard (by rfl) ?_; dsimp only)); refine box_event rfl (N := 4) rfl (cs := #[.int .i64 0, .slice none 0 0]) (t := 52) sqs ?_; intro gb113 hg w12 hbox hb; have BK113 := sqM (hbox); have GW113 := sqM (sqZ hg (sqB HB.out)); have GE113 := sqM (sqZ hg (sqB HB.out)); replace HB := sqM (below_step (sqB HB.out) hb); clear hb hbox hg; obtain ⟨hcz13_0, hcz13_1, hfz13_0, hfz13_1⟩ := sqF2 BK113.out))
   go_ret
   exact ⟨sqE, sqB1 HB.out GE113.out⟩
 rw [if_neg c11] at H
 have c11b0 : decide (600 < (((rd_T52 l0 x7_1).f1).length : Int)) = false := decide_eq_false c11
 have c11b1 : decide (600 < ((rd_T52 l0 x7_1).f1).length) = false := decide_eq_false (by omega)
 clear c11
 replace H := Option.bind_eq_some_iff.mp H
 obtain ⟨t114, A140, H⟩ := H
 replace H : (if t114 = x7_1 then (tlv_Right.l0 k1 l0 l0 (l0.length : Int) (wrap64 (x7_1 + 1))) else (some false)) = some r := H
 have A14 := Aside0.mk A140
 clear A140
 by_cases c15 : t114 = x7_1
 rotate_left
 · rw [if_neg c15] at H
   have c15b0 : (t114 == x7_1) = false := beq_eq_false_iff_ne.mpr c15
   have c15b1 : (t114 != x7_1) = true := bne_iff_ne.mpr c15
   obtain rfl := Option.some.inj H
   have p112 : 0 ≤ (x7_1 : Int) := of_decide_eq_true sqH
   have q112 : x7_1 < (l0.length : Int) := of_decide_eq_true sqH
   obtain ⟨ad112, A112_1, c112_1, e112, hx112_0, hx112_1, hl112_1, hi112_1⟩ := at_T52 HR0.out x7_1 p112 q112
   cases e112
   replace hx112_0 := sqx HB.out hx112_0
   replace hx112_1 := sqx HB.out hx112_1
   have HR112_1 := Aside0.mk hi112_1
   have HC112_1 := Aside0.mk hl112_1
   clear hi112_1 hl112_1
   replace p112 := eq_true p112
   replace q112 := eq_true q112
   go_wp2_with (first | ((with_reducible refine gate_dst (N := 4) rfl ?_); (try (refine gate_guard (by rfl) ?_; dsimp only)); refine box_event rfl (N := 4) rfl (cs := #[.int .i64 0, .slice none 0 0]) (t := 52) sqs ?_; intro gb113 hg w19 hbox hb; have BK113 := sqM (hbox); have GW113 := sqM (sqZ hg (sqB HB.out)); have GE113 := sqM (sqZ hg (sqB HB.out)); replace HB := sqM (below_step (sqB HB.out) hb); clear hb hbox hg; obtain ⟨hcz20_0, hcz20_1, hfz20_0, hfz20_1⟩ := sqF2 BK113.out) | (go_at_call 33; (with_reducible refine (tlv_at.calls _ _ _ _ _ _ _ ?side1 ?side2 A14.out).mono ?_); (case side1 => exact Kd.C_below HR0.out (sqB1 HB.out GE113.out)); (case side2 => exact HC0.out); rintro e w21 ⟨rfl, hb⟩; replace BK113 := sqM (blk_below (sqK (sqP2 BK113.out)) hb); replace HB := sqM (below_step (sqB1 HB.out GE113.out) hb); (try clear hb); (try clear hb2); (try clear hk); (try clear hi)))
   go_ret
   exact ⟨sqE, sqB1 HB.out GE113.out⟩
 rw [if_pos c15] at H
 have c15b0 : (t114 == x7_1) = true := beq_iff_eq.mpr c15
 have c15b1 : (t114 != x7_1) = false := bne_eq_false_iff_eq.mpr c15
 clear c15
 have H' := Aside0.mk H
 clear H
 have p112 : 0 ≤ (x7_1 : Int) := of_decide_eq_true sqH
 have q112 : x7_1 < (l0.length : Int) := of_decide_eq_true sqH
 obtain ⟨ad112, A112_1, c112_1, e112, hx112_0, hx112_1, hl112_1, hi112_1⟩ := at_T52 HR0.out x7_1 p112 q112
 cases e112
 replace hx112_0 := sqx HB.out hx112_0
 replace hx112_1 := sqx HB.out hx112_1
 have HR112_1 := Aside0.mk hi112_1
 have HC112_1 := Aside0.mk hl112_1
 clear hi112_1 hl112_1
 replace p112 := eq_true p112
 replace q112 := eq_true q112
 go_wp2_with (first | ((with_reducible refine gate_dst (N := 4) rfl ?_); (try (refine gate_guard (by rfl) ?_; dsimp only)); refine box_event rfl (N := 4) rfl (cs := #[.int .i64 0, .slice none 0 0]) (t := 52) sqs ?_; intro gb113 hg w16 hbox hb; have BK113 := sqM (hbox); have GW113 := sqM (sqZ hg (sqB HB.out)); have GE113 := sqM (sqZ hg (sqB HB.out)); replace HB := sqM (below_step (sqB HB.out) hb); clear hb hbox hg; obtain ⟨hcz17_0, hcz17_1, hfz17_0, hfz17_1⟩ := sqF2 BK113.out) | (go_at_call 33; (with_reducible refine (tlv_at.calls _ _ _ _ _ _ _ ?side1 ?side2 A14.out).mono ?_); (case side1 => exact Kd.C_below HR0.out (sqB1 HB.out GE113.out)); (case side2 => exact HC0.out); rintro e w18 ⟨rfl, hb⟩; replace BK113 := sqM (blk_below (sqK (sqP2 BK113.out)) hb); replace HB := sqM (below_step (sqB1 HB.out GE113.out) hb); (try clear hb); (try clear hb2); (try clear hk); (try clear hi)))
 go_roundg k1
 case measure => have := HK1.out; omega
 case rel => exact ⟨(wrap64 (x7_1 + 1)), sqI, H', ⟨by have := HK1.out; omega⟩, ⟨sqB1 HB.out GE113.out⟩⟩

/-! ### msg_Right: function 22 -/
mutual
def msg_Right.l0 : Nat → List Int → Int → Int → Int → Int → Int → Int → Int → Int → Int → Int → Int → Int → Int → List Int → List (S52) → Option (Bool)
  | 0, _, _, _, _, _, _, _, _, _, _, _, _, _, _, _, _ => none
  | k + 1, x15, x16, x17, x116000, x116001, x116002, x116003, x116004, x116005, x116006, x116007, x116008, x116009, x116010, x116011, x116012 => if x17 < x16 then (if 0 ≤ x17 then (if x17 < (x15.length : Int) then ((msg_within.f (rd x15 x17) 255).bind fun t120 => (if t120 = true then (msg_Right.l0 k x15 x16 (wrap64 (x17 + 1)) x116000 x116001 x116002 x116003 x116004 x116005 x116006 x116007 x116008 x116009 x116010 x116011 x116012) else (some false))) else (none)) else (none)) else ((some (([x116004, x116007, x116008, x116009, x116010] : List Int) : List Int)).bind fun y121 => (msg_Right.l1 k y121 (y121.length : Int) 0 x116000 x116001 x116002 x116003 x116004 x116005 x116006 x116007 x116008 x116009 x116010 x116011 x116012))
def msg_Right.l1 : Nat → List Int → Int → Int → Int → Int → Int → Int → Int → Int → Int → Int → Int → Int → Int → List Int → List (S52) → Option (Bool)
  | 0, _, _, _, _, _, _, _, _, _, _, _, _, _, _, _, _ => none
  | k + 1, x35, x36, x37, x116000, x116001, x116002, x116003, x116004, x116005, x116006, x116007, x116008, x116009, x116010, x116011, x116012 => if x37 < x36 then (if 0 ≤ x37 then (if x37 < (x35.length : Int) then ((addr_Right.f (rd x35 x37)).bind fun t125 => (if t125 = true then (msg_Right.l1 k x35 x36 (wrap64 (x37 + 1)) x116000 x116001 x116002 x116003 x116004 x116005 x116006 x116007 x116008 x116009 x116010 x116011 x116012) else (some false))) else (none)) else (none)) else ((tlv_Find.f k x116012 52).bind fun bt126 => ((msg_within.f x116002 16).bind fun t130 => (if t130 = true then ((msg_within.f x116005 65535).bind fun t131 => (if t131 = true then ((msg_within.f x116006 65535).bind fun t132 => (if t132 = true then (if (x116011.length : Int) = 16 then ((tlv_Right.f k x116012).bind fun t133 => (if t133 = true then (some (!bt126.2)) else (some false))) else (some false)) else (some false))) else (some false))) else (some false))))
end
def msg_Right.f (k : Nat) (a0_0 : Int) (a0_1 : Int) (a0_2 : Int) (a0_3 : Int) (a0_4 : Int) (a0_5 : Int) (a0_6 : Int) (a0_7 : Int) (a0_8 : Int) (a0_9 : Int) (a0_10 : Int) (l0_11 : List Int) (l0_12 : List (S52)) : Option (Bool) := (some (([a0_0, a0_1, a0_3] : List Int) : List Int)).bind fun y116 => (msg_Right.l0 k y116 (y116.length : Int) 0 a0_0 a0_1 a0_2 a0_3 a0_4 a0_5 a0_6 a0_7 a0_8 a0_9 a0_10 l0_11 l0_12)
theorem msg_Right.mono_l : ∀ k, (∀ y0 y1 y2 y3 y4 y5 y6 y7 y8 y9 y10 y11 y12 y13 y14 y15, LeO (msg_Right.l0 k y0 y1 y2 y3 y4 y5 y6 y7 y8 y9 y10 y11 y12 y13 y14 y15) (msg_Right.l0 (k + 1) y0 y1 y2 y3 y4 y5 y6 y7 y8 y9 y10 y11 y12 y13 y14 y15)) ∧ (∀ y0 y1 y2 y3 y4 y5 y6 y7 y8 y9 y10 y11 y12 y13 y14 y15, LeO (msg_Right.l1 k y0 y1 y2 y3 y4 y5 y6 y7 y8 y9 y10 y11 y12 y13 y14 y15) (msg_Right.l1 (k + 1) y0 y1 y2 y3 y4 y5 y6 y7 y8 y9 y10 y11 y12 y13 y14 y15))
  | 0 => ⟨fun _ _ _ _ _ _ _ _ _ _ _ _ _ _ _ _ r h => by simp [msg_Right.l0] at h, fun _ _ _ _ _ _ _ _ _ _ _ _ _ _ _ _ r h => by simp [msg_Right.l1] at h⟩
  | k + 1 => by
    obtain ⟨ih0, ih1⟩ := msg_Right.mono_l k
    refine ⟨?_, ?_⟩
    · intro y0 y1 y2 y3 y4 y5 y6 y7 y8 y9 y10 y11 y12 y13 y14 y15
      unfold msg_Right.l0
      repeat' first
      | (with_reducible exact ih0 _ _ _ _ _ _ _ _ _ _ _ _ _ _ _ _)
      | (with_reducible exact ih1 _ _ _ _ _ _ _ _ _ _ _ _ _ _ _ _)
      | (with_reducible exact tlv_Find.mono _ _ _)
      | (with_reducible exact tlv_Right.mono _ _)
      | (with_reducible exact LeO.refl _)
      | (with_reducible exact LeO.none _)
      | (with_reducible refine LeO.ite ?_ ?_)
      | (with_reducible refine LeO.bind ?_ (fun _ => ?_))
    · intro y0 y1 y2 y3 y4 y5 y6 y7 y8 y9 y10 y11 y12 y13 y14 y15
      unfold msg_Right.l1
      repeat' first
      | (with_reducible exact ih0 _ _ _ _ _ _ _ _ _ _ _ _ _ _ _ _)
      | (with_reducible exact ih1 _ _ _ _ _ _ _ _ _ _ _ _ _ _ _ _)
      | (with_reducible exact tlv_Find.mono _ _ _)
      | (with_reducible exact tlv_Right.mono _ _)
      | (with_reducible exact LeO.refl _)
      | (with_reducible exact LeO.none _)
      | (with_reducible refine LeO.ite ?_ ?_)
      | (with_reducible refine LeO.bind ?_ (fun _ => ?_))
theorem msg_Right.mono : ∀ a0 a1 a2 a3 a4 a5 a6 a7 a8 a9 a10 a11 a12 k, LeO (msg_Right.f k a0 a1 a2 a3 a4 a5 a6 a7 a8 a9 a10 a11 a12) (msg_Right.f (k + 1) a0 a1 a2 a3 a4 a5 a6 a7 a8 a9 a10 a11 a12) := by
 intro a0 a1 a2 a3 a4 a5 a6 a7 a8 a9 a10 a11 a12 k
 obtain ⟨ih0, ih1⟩ := msg_Right.mono_l k
 unfold msg_Right.f
 repeat' first
  | (with_reducible exact ih0 _ _ _ _ _ _ _ _ _ _ _ _ _ _ _ _)
  | (with_reducible exact ih1 _ _ _ _ _ _ _ _ _ _ _ _ _ _ _ _)
  | (with_reducible exact tlv_Find.mono _ _ _)
  | (with_reducible exact tlv_Right.mono _ _)
  | (with_reducible exact LeO.refl _)
  | (with_reducible exact LeO.none _)
  | (with_reducible refine LeO.ite ?_ ?_)
  | (with_reducible refine LeO.bind ?_ (fun _ => ?_))
set_option maxHeartbeats 8000000 in
set_option maxRecDepth 100000 in
theorem msg_Right.calls (k : Nat) (a0_0 : Int) (a0_1 : Int) (a0_2 : Int) (a0_3 : Int) (a0_4 : Int) (a0_5 : Int) (a0_6 : Int) (a0_7 : Int) (a0_8 : Int) (a0_9 : Int) (a0_10 : Int) (A0_11 : Option Addr) (c0_11 : Nat) (l0_11 : List Int) (A0_12 : Option Addr) (c0_12 : Nat) (l0_12 : List (S52)) (r : Bool) (w : World) (hr0_11 : Kd.C (Kd.int .u8) w A0_11 l0_11.length l0_11) (hc0_11 : l0_11.length ≤ c0_11) (hr0_12 : Kd.C k52 w A0_12 l0_12.length l0_12) (hc0_12 : l0_12.length ≤ c0_12) (h : msg_Right.f k a0_0 a0_1 a0_2 a0_3 a0_4 a0_5 a0_6 a0_7 a0_8 a0_9 a0_10 l0_11 l0_12 = some r) :
    Calls Tryd.prog 22 #[.agg #[.int .i64 a0_0, .int .i64 a0_1, .int .i64 a0_2, .int .i64 a0_3, .int .i64 a0_4, .int .i64 a0_5, .int .i64 a0_6, .int .i64 a0_7, .int .i64 a0_8, .int .i64 a0_9, .int .i64 a0_10, .slice A0_11 l0_11.length c0_11, .slice A0_12 l0_12.length c0_12]] w fun e w' => e = .returned (.bool r) ∧ Below w.heap.size w w' := by
 have hu25 := Tryd.underlying25
 have HR0_11 := Aside0.mk hr0_11
 have HC0_11 := Aside0.mk hc0_11
 clear hr0_11 hc0_11
 have HR0_12 := Aside0.mk hr0_12
 have HC0_12 := Aside0.mk hc0_12
 clear hr0_12 hc0_12
 have HB := Aside0.mk (Below.refl w.heap.size w)
 have H : ((some (([a0_0, a0_1, a0_3] : List Int) : List Int)).bind fun y116 => (msg_Right.l0 k y116 (y116.length : Int) 0 a0_0 a0_1 a0_2 a0_3 a0_4 a0_5 a0_6 a0_7 a0_8 a0_9 a0_10 l0_11 l0_12)) = some r := h
 clear h
 obtain ⟨y116, hy116⟩ : ∃ y_ : List Int, y_ = (([a0_0, a0_1, a0_3] : List Int)) := ⟨_, rfl⟩
 replace H : (msg_Right.l0 k y116 (y116.length : Int) 0 a0_0 a0_1 a0_2 a0_3 a0_4 a0_5 a0_6 a0_7 a0_8 a0_9 a0_10 l0_11 l0_12) = some r := by first | (rw [hy116]; with_reducible exact H) | (have H2_ := (Option.bind_some _ _).symm.trans H; rw [hy116]; with_reducible exact H2_) | (have H2_ := (Option.bind_some _ _).symm.trans H; with_reducible exact H2_) | with_reducible exact H | (rw [hy116]; exact H) | exact H
 have Ny116 := Aside0.mk hy116
 clear hy116
 have H' := Aside0.mk H
 clear H
 go_enter Tryd.func22, Tryd.ntmps22
 go_wp2_with (first | ((with_reducible refine gate_dst (N := 1) rfl ?_); (try (refine gate_guard (by rfl) ?_; dsimp only)); refine box_event rfl (N := 1) rfl (cs := #[.int .i64 a0_0, .int .i64 a0_1, .int .i64 a0_2, .int .i64 a0_3, .int .i64 a0_4, .int .i64 a0_5, .int .i64 a0_6, .int .i64 a0_7, .int .i64 a0_8, .int .i64 a0_9, .int .i64 a0_10, .slice A0_11 l0_11.length c0_11, .slice A0_12 l0_12.length c0_12]) (t := 25) sqs ?_; intro gb115 hg w2 hbox hb; have BK115 := sqM (hbox); have GW115 := sqM (sqZ hg (sqB HB.out)); have GE115 := sqM (sqZ hg (sqB HB.out)); replace HB := sqM (below_step (sqB HB.out) hb); clear hb hbox hg; have hcz3_0 : w2.cell? ⟨gb115, 0, none⟩ = some (.int .i64 a0_0) := (blk_cell BK115.out 0).trans rfl; have hcz3_1 : w2.cell? ⟨gb115, 1, none⟩ = some (.int .i64 a0_1) := (blk_cell BK115.out 1).trans rfl; have hcz3_2 : w2.cell? ⟨gb115, 2, none⟩ = some (.int .i64 a0_2) := (blk_cell BK115.out 2).trans rfl; have hcz3_3 : w2.cell? ⟨gb115, 3, none⟩ = some (.int .i64 a0_3) := (blk_cell BK115.out 3).trans rfl; have hcz3_4 : w2.cell? ⟨gb115, 4, none⟩ = some (.int .i64 a0_4) := (blk_cell BK115.out 4).trans rfl; have hcz3_5 : w2.cell? ⟨gb115, 5, none⟩ = some (.int .i64 a0_5) := (blk_cell BK115.out 5).trans rfl; have hcz3_6 : w2.cell? ⟨gb115, 6, none⟩ = some (.int .i64 a0_6) := (blk_cell BK115.out 6).trans rfl; have hcz3_7 : w2.cell? ⟨gb115, 7, none⟩ = some (.int .i64 a0_7) := (blk_cell BK115.out 7).trans rfl; have hcz3_8 : w2.cell? ⟨gb115, 8, none⟩ = some (.int .i64 a0_8) := (blk_cell BK115.out 8).trans rfl; have hcz3_9 : w2.cell? ⟨gb115, 9, none⟩ = some (.int .i64 a0_9) := (blk_cell BK115.out 9).trans rfl; have hcz3_10 : w2.cell? ⟨gb115, 10, none⟩ = some (.int .i64 a0_10) := (blk_cell BK115.out 10).trans rfl; have hcz3_11 : w2.cell? ⟨gb115, 11, none⟩ = some (.slice A0_11 l0_11.length c0_11) := (blk_cell BK115.out 11).trans rfl; have hcz3_12 : w2.cell? ⟨gb115, 12, none⟩ = some (.slice A0_12 l0_12.length c0_12) := (blk_cell BK115.out 12).trans rfl; have hfz3_0 := blk_frozen BK115.out 0; have hfz3_1 := blk_frozen BK115.out 1; have hfz3_2 := blk_frozen BK115.out 2; have hfz3_3 := blk_frozen BK115.out 3; have hfz3_4 := blk_frozen BK115.out 4; have hfz3_5 := blk_frozen BK115.out 5; have hfz3_6 := blk_frozen BK115.out 6; have hfz3_7 := blk_frozen BK115.out 7; have hfz3_8 := blk_frozen BK115.out 8; have hfz3_9 := blk_frozen BK115.out 9; have hfz3_10 := blk_frozen BK115.out 10; have hfz3_11 := blk_frozen BK115.out 11; have hfz3_12 := blk_frozen BK115.out 12) | ((with_reducible refine gate_dst (N := 15) rfl ?_); (try (refine gate_guard (by rfl) ?_; dsimp only)); refine Kd.R_lit (Kd.int .i64) _ 3 ?hg (N := 15) ?hd (xs := ([a0_0, a0_1, a0_3] : List Int)) (inner := [.int .i64 a0_0, .int .i64 a0_1, .int .i64 a0_3]) (ok := fun _ => True) (okp := fun _ => True) ?hr ?hp (fun _ hk => hk) trivial (Below.refl _ _) (Nat.le_refl _) (by simp) ?_; (case hd => rfl); (case hg => rfl); (case hr => first | (go_simp; done) | (go_simp; rfl)); (case hp => exact (Reps.one (show Kd.M (Kd.int .i64) _ _ _ a0_0 [.int .i64 a0_0] from rfl) (Reps.one (show Kd.M (Kd.int .i64) _ _ _ a0_1 [.int .i64 a0_1] from rfl) (Reps.one (show Kd.M (Kd.int .i64) _ _ _ a0_3 [.int .i64 a0_3] from rfl) (Reps.none _ _))))); intro v117 w4 ho5 hb hg_ hnew_; clear hg_ hnew_; (first | rw [← Ny116.out] at ho5 | (simp only [Int.reduceToNat] at ho5; rw [← Ny116.out] at ho5)); have HO118 := sqM (Kd.R_lower ho5 (below_size (sqB1 HB.out GE115.out))); replace BK115 := sqM (blk_below (sqK BK115.out) hb); replace HB := sqM (below_step (sqB1 HB.out GE115.out) hb); clear hb ho5; obtain ⟨Ao6, co6, eo6⟩ := Kd.R_slice HO118.out; subst eo6))
 go_loopg [17] k (fun kq v17 w' => ∃ (x17_1 : Int), v17 = .int .i64 x17_1 ∧ Aside0 (msg_Right.l0 kq y116 (y116.length : Int) x17_1 a0_0 a0_1 a0_2 a0_3 a0_4 a0_5 a0_6 a0_7 a0_8 a0_9 a0_10 l0_11 l0_12 = some r) ∧ Aside0 (kq ≤ k) ∧ Aside0 (Kd.R (Kd.int .i64) 3 w' w.heap.size (fun _ => True) (.slice Ao6 y116.length co6) y116) ∧ Aside0 (w'.heap[gb115]? = some (.cells #[.int .i64 a0_0, .int .i64 a0_1, .int .i64 a0_2, .int .i64 a0_3, .int .i64 a0_4, .int .i64 a0_5, .int .i64 a0_6, .int .i64 a0_7, .int .i64 a0_8, .int .i64 a0_9, .int .i64 a0_10, (.slice A0_11 l0_11.length c0_11), (.slice A0_12 l0_12.length c0_12)] 25 (0, 0))) ∧ Aside0 (Below w.heap.size w w'))
 case atStart => exact ⟨(0), sqI, H', ⟨Nat.le_refl _⟩, ⟨sqR HO118.out⟩, ⟨sqK BK115.out⟩, ⟨sqB1 HB.out GE115.out⟩⟩
 clear H'
 try clear c2
 try clear p2
 try clear hcz3_0 hcz3_1 hcz3_10 hcz3_11 hcz3_12 hcz3_2 hcz3_3 hcz3_4 hcz3_5 hcz3_6 hcz3_7 hcz3_8 hcz3_9 hfz3_0 hfz3_1 hfz3_10 hfz3_11 hfz3_12 hfz3_2 hfz3_3 hfz3_4 hfz3_5 hfz3_6 hfz3_7 hfz3_8 hfz3_9
 obtain ⟨x17_1, rfl, HA, HK1, HO_15, BK115, HB⟩ := hrel
 cases gk with
 | zero => exact absurd HA.out (by simp [msg_Right.l0])
 | succ k1 => ?_
 have H := HA.out
 clear HA
 simp only [msg_Right.l0] at H
 by_cases c7 : x17_1 < (y116.length : Int)
 · rw [if_pos c7] at H
   have c7b0 : decide (x17_1 < (y116.length : Int)) = true := decide_eq_true c7
   clear c7
   by_cases c8 : 0 ≤ x17_1
   rotate_left
   · rw [if_neg c8] at H
     exact absurd H (by simp)
   rw [if_pos c8] at H
   have c8b0 : decide (0 ≤ x17_1) = true := decide_eq_true c8
   clear c8
   by_cases c9 : x17_1 < (y116.length : Int)
   rotate_left
   · rw [if_neg c9] at H
     exact absurd H (by simp)
   rw [if_pos c9] at H
   have c9b0 : decide (x17_1 < (y116.length : Int)) = true := decide_eq_true c9
   clear c9
   replace H := Option.bind_eq_some_iff.mp H
   obtain ⟨t120, A100, H⟩ := H
   replace H : (if t120 = true then (msg_Right.l0 k1 y116 (y116.length : Int) (wrap64 (x17_1 + 1)) a0_0 a0_1 a0_2 a0_3 a0_4 a0_5 a0_6 a0_7 a0_8 a0_9 a0_10 l0_11 l0_12) else (some false)) = some r := H
   have A10 := Aside0.mk A100
   clear A100
   by_cases c11 : t120 = true
   rotate_left
   · replace c11 := Bool.eq_false_iff.mpr c11
     subst c11
     have H1 : (some false) = some r := by rw [if_neg (show ¬ (false = true) by decide)] at H; exact H
     clear H
     have H := H1
     clear H1
     obtain rfl := Option.some.inj H
     have p119 : 0 ≤ (x17_1 : Int) := of_decide_eq_true sqH
     have q119 : x17_1 < (y116.length : Int) := of_decide_eq_true sqH
     obtain ⟨ad119, e119, hx119_0⟩ := Kd.at_int (Kd.R_reads' HO_15.out).2.2 x17_1 p119 q119
     cases e119
     replace p119 := eq_true p119
     replace q119 := eq_true q119
     go_wp2_with (first | ((with_reducible refine gate_callee (f := 30) rfl ?_); refine goesL_ (some 22) rfl rfl Tryd.func30 (by kernel_rfl) rfl #[.int .i64 (rd y116 x17_1), .int .i64 255] rfl sqA ?_; (with_reducible refine (msg_within.calls _ _ _ _ A10.out).mono ?_); rintro e w' ⟨rfl, ⟨nd, rfl⟩⟩; refine ⟨_, rfl, ?_⟩))
     go_ret
     exact ⟨sqE, sqB1 HB.out GE115.out⟩
   subst c11
   have H1 : (msg_Right.l0 k1 y116 (y116.length : Int) (wrap64 (x17_1 + 1)) a0_0 a0_1 a0_2 a0_3 a0_4 a0_5 a0_6 a0_7 a0_8 a0_9 a0_10 l0_11 l0_12) = some r := by rw [if_pos rfl] at H; exact H
   clear H
   have H := H1
   clear H1
   have H' := Aside0.mk H
   clear H
   have p119 : 0 ≤ (x17_1 : Int) := of_decide_eq_true sqH
   have q119 : x17_1 < (y116.length : Int) := of_decide_eq_true sqH
   obtain ⟨ad119, e119, hx119_0⟩ := Kd.at_int (Kd.R_reads' HO_15.out).2.2 x17_1 p119 q119
   cases e119
   replace p119 := eq_true p119
   replace q119 := eq_true q119
   go_wp2_with (first | ((with_reducible refine gate_callee (f := 30) rfl ?_); refine goesL_ (some 22) rfl rfl Tryd.func30 (by kernel_rfl) rfl #[.int .i64 (rd y116 x17_1), .int .i64 255] rfl sqA ?_; (with_reducible refine (msg_within.calls _ _ _ _ A10.out).mono ?_); rintro e w' ⟨rfl, ⟨nd, rfl⟩⟩; refine ⟨_, rfl, ?_⟩))
   go_roundg k1
   case measure => have := HK1.out; omega
   case rel => exact ⟨(wrap64 (x17_1 + 1)), sqI, H', ⟨by have := HK1.out; omega⟩, ⟨sqR HO_15.out⟩, ⟨sqK BK115.out⟩, ⟨sqB1 HB.out GE115.out⟩⟩
 rw [if_neg c7] at H
 have c7b0 : decide (x17_1 < (y116.length : Int)) = false := decide_eq_false c7
 clear c7
 obtain ⟨y121, hy121⟩ : ∃ y_ : List Int, y_ = (([a0_4, a0_7, a0_8, a0_9, a0_10] : List Int)) := ⟨_, rfl⟩
 replace H : (msg_Right.l1 k1 y121 (y121.length : Int) 0 a0_0 a0_1 a0_2 a0_3 a0_4 a0_5 a0_6 a0_7 a0_8 a0_9 a0_10 l0_11 l0_12) = some r := by first | (rw [hy121]; with_reducible exact H) | (have H2_ := (Option.bind_some _ _).symm.trans H; rw [hy121]; with_reducible exact H2_) | (have H2_ := (Option.bind_some _ _).symm.trans H; with_reducible exact H2_) | with_reducible exact H | (rw [hy121]; exact H) | exact H
 have Ny121 := Aside0.mk hy121
 clear hy121
 have H' := Aside0.mk H
 clear H
 have hcz12_0 : wr.cell? ⟨gb115, 0, none⟩ = some (.int .i64 a0_0) := (blk_cell BK115.out 0).trans rfl
 have hcz12_1 : wr.cell? ⟨gb115, 1, none⟩ = some (.int .i64 a0_1) := (blk_cell BK115.out 1).trans rfl
 have hcz12_2 : wr.cell? ⟨gb115, 2, none⟩ = some (.int .i64 a0_2) := (blk_cell BK115.out 2).trans rfl
 have hcz12_3 : wr.cell? ⟨gb115, 3, none⟩ = some (.int .i64 a0_3) := (blk_cell BK115.out 3).trans rfl
 have hcz12_4 : wr.cell? ⟨gb115, 4, none⟩ = some (.int .i64 a0_4) := (blk_cell BK115.out 4).trans rfl
 have hcz12_5 : wr.cell? ⟨gb115, 5, none⟩ = some (.int .i64 a0_5) := (blk_cell BK115.out 5).trans rfl
 have hcz12_6 : wr.cell? ⟨gb115, 6, none⟩ = some (.int .i64 a0_6) := (blk_cell BK115.out 6).trans rfl
 have hcz12_7 : wr.cell? ⟨gb115, 7, none⟩ = some (.int .i64 a0_7) := (blk_cell BK115.out 7).trans rfl
 have hcz12_8 : wr.cell? ⟨gb115, 8, none⟩ = some (.int .i64 a0_8) := (blk_cell BK115.out 8).trans rfl
 have hcz12_9 : wr.cell? ⟨gb115, 9, none⟩ = some (.int .i64 a0_9) := (blk_cell BK115.out 9).trans rfl
 have hcz12_10 : wr.cell? ⟨gb115, 10, none⟩ = some (.int .i64 a0_10) := (blk_cell BK115.out 10).trans rfl
 have hcz12_11 : wr.cell? ⟨gb115, 11, none⟩ = some (.slice A0_11 l0_11.length c0_11) := (blk_cell BK115.out 11).trans rfl
 have hcz12_12 : wr.cell? ⟨gb115, 12, none⟩ = some (.slice A0_12 l0_12.length c0_12) := (blk_cell BK115.out 12).trans rfl
 have hfz12_0 := blk_frozen BK115.out 0
 have hfz12_1 := blk_frozen BK115.out 1
 have hfz12_2 := blk_frozen BK115.out 2
 have hfz12_3 := blk_frozen BK115.out 3
 have hfz12_4 := blk_frozen BK115.out 4
 have hfz12_5 := blk_frozen BK115.out 5
 have hfz12_6 := blk_frozen BK115.out 6
 have hfz12_7 := blk_frozen BK115.out 7
 have hfz12_8 := blk_frozen BK115.out 8
 have hfz12_9 := blk_frozen BK115.out 9
 have hfz12_10 := blk_frozen BK115.out 10
 have hfz12_11 := blk_frozen BK115.out 11
 have hfz12_12 := blk_frozen BK115.out 12
 go_wp2_with (first | ((with_reducible refine gate_dst (N := 35) rfl ?_); (try (refine gate_guard (by rfl) ?_; dsimp only)); refine Kd.R_lit (Kd.int .i64) _ 3 ?hg (N := 35) ?hd (xs := ([a0_4, a0_7, a0_8, a0_9, a0_10] : List Int)) (inner := [.int .i64 a0_4, .int .i64 a0_7, .int .i64 a0_8, .int .i64 a0_9, .int .i64 a0_10]) (ok := fun _ => True) (okp := fun _ => True) ?hr ?hp (fun _ hk => hk) trivial (Below.refl _ _) (Nat.le_refl _) (by simp) ?_; (case hd => rfl); (case hg => rfl); (case hr => first | (go_simp; done) | (go_simp; rfl)); (case hp => exact (Reps.one (show Kd.M (Kd.int .i64) _ _ _ a0_4 [.int .i64 a0_4] from rfl) (Reps.one (show Kd.M (Kd.int .i64) _ _ _ a0_7 [.int .i64 a0_7] from rfl) (Reps.one (show Kd.M (Kd.int .i64) _ _ _ a0_8 [.int .i64 a0_8] from rfl) (Reps.one (show Kd.M (Kd.int .i64) _ _ _ a0_9 [.int .i64 a0_9] from rfl) (Reps.one (show Kd.M (Kd.int .i64) _ _ _ a0_10 [.int .i64 a0_10] from rfl) (Reps.none _ _))))))); intro v122 w13 ho14 hb hg_ hnew_; clear hg_ hnew_; (first | rw [← Ny121.out] at ho14 | (simp only [Int.reduceToNat] at ho14; rw [← Ny121.out] at ho14)); have HO123 := sqM (Kd.R_lower (Kd.R_new' ho14 (Kd.R_lt (sqR HO_15.out))) (below_size (sqB1 HB.out GE115.out))); replace HO_15 := sqM (Kd.R_elder' (sqR HO_15.out) (Kd.R_base ho14) hb); replace BK115 := sqM (blk_below (sqK BK115.out) hb); replace HB := sqM (below_step (sqB1 HB.out GE115.out) hb); clear hb ho14; obtain ⟨Ao15, co15, eo15⟩ := Kd.R_slice HO123.out; subst eo15))
 go_loopg [37] k1 (fun kq v37 w' => ∃ (x37_2 : Int), v37 = .int .i64 x37_2 ∧ Aside0 (msg_Right.l1 kq y121 (y121.length : Int) x37_2 a0_0 a0_1 a0_2 a0_3 a0_4 a0_5 a0_6 a0_7 a0_8 a0_9 a0_10 l0_11 l0_12 = some r) ∧ Aside0 (kq ≤ k1) ∧ Aside0 (Kd.R (Kd.int .i64) 3 w' w.heap.size (fun _ => True) (.slice Ao15 y121.length co15) y121) ∧ Aside0 (w'.heap[gb115]? = some (.cells #[.int .i64 a0_0, .int .i64 a0_1, .int .i64 a0_2, .int .i64 a0_3, .int .i64 a0_4, .int .i64 a0_5, .int .i64 a0_6, .int .i64 a0_7, .int .i64 a0_8, .int .i64 a0_9, .int .i64 a0_10, (.slice A0_11 l0_11.length c0_11), (.slice A0_12 l0_12.length c0_12)] 25 (0, 0))) ∧ Aside0 (Below w.heap.size w w'))
 case atStart => exact ⟨(0), sqI, H', ⟨Nat.le_refl _⟩, ⟨by refine sqR ?_; exact Kd.R_mono HO123.out (fun _ hk => trivial)⟩, ⟨sqK BK115.out⟩, ⟨sqB1 HB.out GE115.out⟩⟩
 clear H'
 try clear c1
 try clear p1
 try clear q1
 try clear hx1
 try clear c2
 try clear p2
 try clear c3
 try clear p6
 try clear c7
 try clear c7b0
 try clear c8
 try clear c8b0
 try clear c9
 try clear c9b0
 try clear c11
 try clear p11
 try clear q11
 try clear hx11
 try clear hcz12_0 hcz12_1 hcz12_10 hcz12_11 hcz12_12 hcz12_2 hcz12_3 hcz12_4 hcz12_5 hcz12_6 hcz12_7 hcz12_8 hcz12_9
 try clear hcz3_0 hcz3_1 hcz3_10 hcz3_11 hcz3_12 hcz3_2 hcz3_3 hcz3_4 hcz3_5 hcz3_6 hcz3_7 hcz3_8 hcz3_9
 try clear hfz12_0 hfz12_1 hfz12_10 hfz12_11 hfz12_12 hfz12_2 hfz12_3 hfz12_4 hfz12_5 hfz12_6 hfz12_7 hfz12_8 hfz12_9
 try clear hfz3_0 hfz3_1 hfz3_10 hfz3_11 hfz3_12 hfz3_2 hfz3_3 hfz3_4 hfz3_5 hfz3_6 hfz3_7 hfz3_8 hfz3_9
 try clear hx119_0
 try clear p119
 try clear p2
 try clear q119
 obtain ⟨x37_2, rfl, HA, HK2, HO_35, BK115, HB⟩ := hrel
 cases gk with
 | zero => exact absurd HA.out (by simp [msg_Right.l1])
 | succ k2 => ?_
 have H := HA.out
 clear HA
 simp only [msg_Right.l1] at H
 by_cases c16 : x37_2 < (y121.length : Int)
 · rw [if_pos c16] at H
   have c16b0 : decide (x37_2 < (y121.length : Int)) = true := decide_eq_true c16
   clear c16
   by_cases c17 : 0 ≤ x37_2
   rotate_left
   · rw [if_neg c17] at H
     exact absurd H (by simp)
   rw [if_pos c17] at H
   have c17b0 : decide (0 ≤ x37_2) = true := decide_eq_true c17
   clear c17
   by_cases c18 : x37_2 < (y121.length : Int)
   rotate_left
   · rw [if_neg c18] at H
     exact absurd H (by simp)
   rw [if_pos c18] at H
   have c18b0 : decide (x37_2 < (y121.length : Int)) = true := decide_eq_true c18
   clear c18
   replace H := Option.bind_eq_some_iff.mp H
   obtain ⟨t125, A190, H⟩ := H
   replace H : (if t125 = true then (msg_Right.l1 k2 y121 (y121.length : Int) (wrap64 (x37_2 + 1)) a0_0 a0_1 a0_2 a0_3 a0_4 a0_5 a0_6 a0_7 a0_8 a0_9 a0_10 l0_11 l0_12) else (some false)) = some r := H
   have A19 := Aside0.mk A190
   clear A190
   by_cases c20 : t125 = true
   rotate_left
   · replace c20 := Bool.eq_false_iff.mpr c20
     subst c20
     have H1 : (some false) = some r := by rw [if_neg (show ¬ (false = true) by decide)] at H; exact H
     clear H
     have H := H1
     clear H1
     obtain rfl := Option.some.inj H
     have p124 : 0 ≤ (x37_2 : Int) := of_decide_eq_true sqH
     have q124 : x37_2 < (y121.length : Int) := of_decide_eq_true sqH
     obtain ⟨ad124, e124, hx124_0⟩ := Kd.at_int (Kd.R_reads' HO_35.out).2.2 x37_2 p124 q124
     cases e124
     replace p124 := eq_true p124
     replace q124 := eq_true q124
     go_wp2_with (first | ((with_reducible refine gate_callee (f := 31) rfl ?_); refine goesL_ (some 42) rfl rfl Tryd.func31 (by kernel_rfl) rfl #[.int .i64 (rd y121 x37_2)] rfl sqA ?_; (with_reducible refine (addr_Right.calls _ _ _ A19.out).mono ?_); rintro e w' ⟨rfl, ⟨nd, rfl⟩⟩; refine ⟨_, rfl, ?_⟩))
     go_ret
     exact ⟨sqE, sqB1 HB.out GE115.out⟩
   subst c20
   have H1 : (msg_Right.l1 k2 y121 (y121.length : Int) (wrap64 (x37_2 + 1)) a0_0 a0_1 a0_2 a0_3 a0_4 a0_5 a0_6 a0_7 a0_8 a0_9 a0_10 l0_11 l0_12) = some r := by rw [if_pos rfl] at H; exact H
   clear H
   have H := H1
   clear H1
   have H' := Aside0.mk H
   clear H
   have p124 : 0 ≤ (x37_2 : Int) := of_decide_eq_true sqH
   have q124 : x37_2 < (y121.length : Int) := of_decide_eq_true sqH
   obtain ⟨ad124, e124, hx124_0⟩ := Kd.at_int (Kd.R_reads' HO_35.out).2.2 x37_2 p124 q124
   cases e124
   replace p124 := eq_true p124
   replace q124 := eq_true q124
   go_wp2_with (first | ((with_reducible refine gate_callee (f := 31) rfl ?_); refine goesL_ (some 42) rfl rfl Tryd.func31 (by kernel_rfl) rfl #[.int .i64 (rd y121 x37_2)] rfl sqA ?_; (with_reducible refine (addr_Right.calls _ _ _ A19.out).mono ?_); rintro e w' ⟨rfl, ⟨nd, rfl⟩⟩; refine ⟨_, rfl, ?_⟩))
   go_roundg k2
   case measure => have := HK1.out; have := HK2.out; omega
   case rel => exact ⟨(wrap64 (x37_2 + 1)), sqI, H', ⟨by have := HK1.out; have := HK2.out; omega⟩, ⟨sqR HO_35.out⟩, ⟨sqK BK115.out⟩, ⟨sqB1 HB.out GE115.out⟩⟩
 rw [if_neg c16] at H
 have c16b0 : decide (x37_2 < (y121.length : Int)) = false := decide_eq_false c16
 clear c16
 replace H := Option.bind_eq_some_iff.mp H
 obtain ⟨⟨t126, t127⟩, A210, H⟩ := H
 replace H : ((msg_within.f a0_2 16).bind fun t130 => (if t130 = true then ((msg_within.f a0_5 65535).bind fun t131 => (if t131 = true then ((msg_within.f a0_6 65535).bind fun t132 => (if t132 = true then (if (l0_11.length : Int) = 16 then ((tlv_Right.f k2 l0_12).bind fun t133 => (if t133 = true then (some (!t127)) else (some false))) else (some false)) else (some false))) else (some false))) else (some false))) = some r := H
 have A21 := Aside0.mk A210
 clear A210
 replace H := Option.bind_eq_some_iff.mp H
 obtain ⟨t130, A220, H⟩ := H
 replace H : (if t130 = true then ((msg_within.f a0_5 65535).bind fun t131 => (if t131 = true then ((msg_within.f a0_6 65535).bind fun t132 => (if t132 = true then (if (l0_11.length : Int) = 16 then ((tlv_Right.f k2 l0_12).bind fun t133 => (if t133 = true then (some (!t127)) else (some false))) else (some false)) else (some false))) else (some false))) else (some false)) = some r := H
 have A22 := Aside0.mk A220
 clear A220
 by_cases c23 : t130 = true
 rotate_left
 · replace c23 := Bool.eq_false_iff.mpr c23
   subst c23
   have H1 : (some false) = some r := by rw [if_neg (show ¬ (false = true) by decide)] at H; exact H
   clear H
   have H := H1
   clear H1
   obtain rfl := Option.some.inj H
   have hcz48_0 : wr.cell? ⟨gb115, 0, none⟩ = some (.int .i64 a0_0) := (blk_cell BK115.out 0).trans rfl
   have hcz48_1 : wr.cell? ⟨gb115, 1, none⟩ = some (.int .i64 a0_1) := (blk_cell BK115.out 1).trans rfl
   have hcz48_2 : wr.cell? ⟨gb115, 2, none⟩ = some (.int .i64 a0_2) := (blk_cell BK115.out 2).trans rfl
   have hcz48_3 : wr.cell? ⟨gb115, 3, none⟩ = some (.int .i64 a0_3) := (blk_cell BK115.out 3).trans rfl
   have hcz48_4 : wr.cell? ⟨gb115, 4, none⟩ = some (.int .i64 a0_4) := (blk_cell BK115.out 4).trans rfl
   have hcz48_5 : wr.cell? ⟨gb115, 5, none⟩ = some (.int .i64 a0_5) := (blk_cell BK115.out 5).trans rfl
   have hcz48_6 : wr.cell? ⟨gb115, 6, none⟩ = some (.int .i64 a0_6) := (blk_cell BK115.out 6).trans rfl
   have hcz48_7 : wr.cell? ⟨gb115, 7, none⟩ = some (.int .i64 a0_7) := (blk_cell BK115.out 7).trans rfl
   have hcz48_8 : wr.cell? ⟨gb115, 8, none⟩ = some (.int .i64 a0_8) := (blk_cell BK115.out 8).trans rfl
   have hcz48_9 : wr.cell? ⟨gb115, 9, none⟩ = some (.int .i64 a0_9) := (blk_cell BK115.out 9).trans rfl
   have hcz48_10 : wr.cell? ⟨gb115, 10, none⟩ = some (.int .i64 a0_10) := (blk_cell BK115.out 10).trans rfl
   have hcz48_11 : wr.cell? ⟨gb115, 11, none⟩ = some (.slice A0_11 l0_11.length c0_11) := (blk_cell BK115.out 11).trans rfl
   have hcz48_12 : wr.cell? ⟨gb115, 12, none⟩ = some (.slice A0_12 l0_12.length c0_12) := (blk_cell BK115.out 12).trans rfl
   have hfz48_0 := blk_frozen BK115.out 0
   have hfz48_1 := blk_frozen BK115.out 1
   have hfz48_2 := blk_frozen BK115.out 2
   have hfz48_3 := blk_frozen BK115.out 3
   have hfz48_4 := blk_frozen BK115.out 4
   have hfz48_5 := blk_frozen BK115.out 5
   have hfz48_6 := blk_frozen BK115.out 6
   have hfz48_7 := blk_frozen BK115.out 7
   have hfz48_8 := blk_frozen BK115.out 8
   have hfz48_9 := blk_frozen BK115.out 9
   have hfz48_10 := blk_frozen BK115.out 10
   have hfz48_11 := blk_frozen BK115.out 11
   have hfz48_12 := blk_frozen BK115.out 12
   go_wp2_with (first | ((with_reducible refine gate_callee (f := 23) rfl ?_); refine goesL_ (some 48) rfl rfl Tryd.func23 (by kernel_rfl) rfl #[.slice A0_12 l0_12.length c0_12, .int .i64 52] rfl sqA ?_; (with_reducible refine (tlv_Find.calls _ _ _ _ _ _ _ _ ?side1 ?side2 A21.out).mono ?_); (case side1 => repeat (first | exact (Kd.C_below HR0_12.out HB.out) | (with_reducible refine Kd.C_alloc ?_ _) | (with_reducible refine Kd.C_drewN ?_ _) | (with_reducible refine Kd.C_drew ?_))); (case side2 => exact HC0_12.out); rintro e w49 ⟨v128, rfl, ho0, hb⟩; refine ⟨_, rfl, ?_⟩; have HO129 := sqM (Kd.R_lower ho0 (below_size (sqB1 HB.out GE115.out))); replace HO_35 := sqM (Kd.R_below (sqR HO_35.out) hb); replace BK115 := sqM (blk_below (sqK BK115.out) hb); replace HB := sqM (below_step (sqB1 HB.out GE115.out) hb); (try clear hb); (try clear hb2); (try clear hk); (try clear hi); (try clear ho0); have hcz50_0 : w49.cell? ⟨gb115, 0, none⟩ = some (.int .i64 a0_0) := (blk_cell BK115.out 0).trans rfl; have hcz50_1 : w49.cell? ⟨gb115, 1, none⟩ = some (.int .i64 a0_1) := (blk_cell BK115.out 1).trans rfl; have hcz50_2 : w49.cell? ⟨gb115, 2, none⟩ = some (.int .i64 a0_2) := (blk_cell BK115.out 2).trans rfl; have hcz50_3 : w49.cell? ⟨gb115, 3, none⟩ = some (.int .i64 a0_3) := (blk_cell BK115.out 3).trans rfl; have hcz50_4 : w49.cell? ⟨gb115, 4, none⟩ = some (.int .i64 a0_4) := (blk_cell BK115.out 4).trans rfl; have hcz50_5 : w49.cell? ⟨gb115, 5, none⟩ = some (.int .i64 a0_5) := (blk_cell BK115.out 5).trans rfl; have hcz50_6 : w49.cell? ⟨gb115, 6, none⟩ = some (.int .i64 a0_6) := (blk_cell BK115.out 6).trans rfl; have hcz50_7 : w49.cell? ⟨gb115, 7, none⟩ = some (.int .i64 a0_7) := (blk_cell BK115.out 7).trans rfl; have hcz50_8 : w49.cell? ⟨gb115, 8, none⟩ = some (.int .i64 a0_8) := (blk_cell BK115.out 8).trans rfl; have hcz50_9 : w49.cell? ⟨gb115, 9, none⟩ = some (.int .i64 a0_9) := (blk_cell BK115.out 9).trans rfl; have hcz50_10 : w49.cell? ⟨gb115, 10, none⟩ = some (.int .i64 a0_10) := (blk_cell BK115.out 10).trans rfl; have hcz50_11 : w49.cell? ⟨gb115, 11, none⟩ = some (.slice A0_11 l0_11.length c0_11) := (blk_cell BK115.out 11).trans rfl; have hcz50_12 : w49.cell? ⟨gb115, 12, none⟩ = some (.slice A0_12 l0_12.length c0_12) := (blk_cell BK115.out 12).trans rfl; have hfz50_0 := blk_frozen BK115.out 0; have hfz50_1 := blk_frozen BK115.out 1; have hfz50_2 := blk_frozen BK115.out 2; have hfz50_3 := blk_frozen BK115.out 3; have hfz50_4 := blk_frozen BK115.out 4; have hfz50_5 := blk_frozen BK115.out 5; have hfz50_6 := blk_frozen BK115.out 6; have hfz50_7 := blk_frozen BK115.out 7; have hfz50_8 := blk_frozen BK115.out 8; have hfz50_9 := blk_frozen BK115.out 9; have hfz50_10 := blk_frozen BK115.out 10; have hfz50_11 := blk_frozen BK115.out 11; have hfz50_12 := blk_frozen BK115.out 12) | ((with_reducible refine gate_callee (f := 30) rfl ?_); refine goesL_ (some 53) rfl rfl Tryd.func30 (by kernel_rfl) rfl #[.int .i64 a0_2, .int .i64 16] rfl sqA ?_; (with_reducible refine (msg_within.calls _ _ _ _ A22.out).mono ?_); rintro e w' ⟨rfl, ⟨nd, rfl⟩⟩; refine ⟨_, rfl, ?_⟩))
   go_ret
   exact ⟨sqE, sqB1 HB.out GE115.out⟩
 subst c23
 have H1 : ((msg_within.f a0_5 65535).bind fun t131 => (if t131 = true then ((msg_within.f a0_6 65535).bind fun t132 => (if t132 = true then (if (l0_11.length : Int) = 16 then ((tlv_Right.f k2 l0_12).bind fun t133 => (if t133 = true then (some (!t127)) else (some false))) else (some false)) else (some false))) else (some false))) = some r := by rw [if_pos rfl] at H; exact H
 clear H
 have H := H1
 clear H1
 replace H := Option.bind_eq_some_iff.mp H
 obtain ⟨t131, A240, H⟩ := H
 replace H : (if t131 = true then ((msg_within.f a0_6 65535).bind fun t132 => (if t132 = true then (if (l0_11.length : Int) = 16 then ((tlv_Right.f k2 l0_12).bind fun t133 => (if t133 = true then (some (!t127)) else (some false))) else (some false)) else (some false))) else (some false)) = some r := H
 have A24 := Aside0.mk A240
 clear A240
 by_cases c25 : t131 = true
 rotate_left
 · replace c25 := Bool.eq_false_iff.mpr c25
   subst c25
   have H1 : (some false) = some r := by rw [if_neg (show ¬ (false = true) by decide)] at H; exact H
   clear H
   have H := H1
   clear H1
   obtain rfl := Option.some.inj H
   have hcz45_0 : wr.cell? ⟨gb115, 0, none⟩ = some (.int .i64 a0_0) := (blk_cell BK115.out 0).trans rfl
   have hcz45_1 : wr.cell? ⟨gb115, 1, none⟩ = some (.int .i64 a0_1) := (blk_cell BK115.out 1).trans rfl
   have hcz45_2 : wr.cell? ⟨gb115, 2, none⟩ = some (.int .i64 a0_2) := (blk_cell BK115.out 2).trans rfl
   have hcz45_3 : wr.cell? ⟨gb115, 3, none⟩ = some (.int .i64 a0_3) := (blk_cell BK115.out 3).trans rfl
   have hcz45_4 : wr.cell? ⟨gb115, 4, none⟩ = some (.int .i64 a0_4) := (blk_cell BK115.out 4).trans rfl
   have hcz45_5 : wr.cell? ⟨gb115, 5, none⟩ = some (.int .i64 a0_5) := (blk_cell BK115.out 5).trans rfl
   have hcz45_6 : wr.cell? ⟨gb115, 6, none⟩ = some (.int .i64 a0_6) := (blk_cell BK115.out 6).trans rfl
   have hcz45_7 : wr.cell? ⟨gb115, 7, none⟩ = some (.int .i64 a0_7) := (blk_cell BK115.out 7).trans rfl
   have hcz45_8 : wr.cell? ⟨gb115, 8, none⟩ = some (.int .i64 a0_8) := (blk_cell BK115.out 8).trans rfl
   have hcz45_9 : wr.cell? ⟨gb115, 9, none⟩ = some (.int .i64 a0_9) := (blk_cell BK115.out 9).trans rfl
   have hcz45_10 : wr.cell? ⟨gb115, 10, none⟩ = some (.int .i64 a0_10) := (blk_cell BK115.out 10).trans rfl
   have hcz45_11 : wr.cell? ⟨gb115, 11, none⟩ = some (.slice A0_11 l0_11.length c0_11) := (blk_cell BK115.out 11).trans rfl
   have hcz45_12 : wr.cell? ⟨gb115, 12, none⟩ = some (.slice A0_12 l0_12.length c0_12) := (blk_cell BK115.out 12).trans rfl
   have hfz45_0 := blk_frozen BK115.out 0
   have hfz45_1 := blk_frozen BK115.out 1
   have hfz45_2 := blk_frozen BK115.out 2
   have hfz45_3 := blk_frozen BK115.out 3
   have hfz45_4 := blk_frozen BK115.out 4
   have hfz45_5 := blk_frozen BK115.out 5
   have hfz45_6 := blk_frozen BK115.out 6
   have hfz45_7 := blk_frozen BK115.out 7
   have hfz45_8 := blk_frozen BK115.out 8
   have hfz45_9 := blk_frozen BK115.out 9
   have hfz45_10 := blk_frozen BK115.out 10
   have hfz45_11 := blk_frozen BK115.out 11
   have hfz45_12 := blk_frozen BK115.out 12
   go_wp2_with (first | ((with_reducible refine gate_callee (f := 23) rfl ?_); refine goesL_ (some 48) rfl rfl Tryd.func23 (by kernel_rfl) rfl #[.slice A0_12 l0_12.length c0_12, .int .i64 52] rfl sqA ?_; (with_reducible refine (tlv_Find.calls _ _ _ _ _ _ _ _ ?side1 ?side2 A21.out).mono ?_); (case side1 => repeat (first | exact (Kd.C_below HR0_12.out HB.out) | (with_reducible refine Kd.C_alloc ?_ _) | (with_reducible refine Kd.C_drewN ?_ _) | (with_reducible refine Kd.C_drew ?_))); (case side2 => exact HC0_12.out); rintro e w46 ⟨v128, rfl, ho0, hb⟩; refine ⟨_, rfl, ?_⟩; have HO129 := sqM (Kd.R_lower ho0 (below_size (sqB1 HB.out GE115.out))); replace HO_35 := sqM (Kd.R_below (sqR HO_35.out) hb); replace BK115 := sqM (blk_below (sqK BK115.out) hb); replace HB := sqM (below_step (sqB1 HB.out GE115.out) hb); (try clear hb); (try clear hb2); (try clear hk); (try clear hi); (try clear ho0); have hcz47_0 : w46.cell? ⟨gb115, 0, none⟩ = some (.int .i64 a0_0) := (blk_cell BK115.out 0).trans rfl; have hcz47_1 : w46.cell? ⟨gb115, 1, none⟩ = some (.int .i64 a0_1) := (blk_cell BK115.out 1).trans rfl; have hcz47_2 : w46.cell? ⟨gb115, 2, none⟩ = some (.int .i64 a0_2) := (blk_cell BK115.out 2).trans rfl; have hcz47_3 : w46.cell? ⟨gb115, 3, none⟩ = some (.int .i64 a0_3) := (blk_cell BK115.out 3).trans rfl; have hcz47_4 : w46.cell? ⟨gb115, 4, none⟩ = some (.int .i64 a0_4) := (blk_cell BK115.out 4).trans rfl; have hcz47_5 : w46.cell? ⟨gb115, 5, none⟩ = some (.int .i64 a0_5) := (blk_cell BK115.out 5).trans rfl; have hcz47_6 : w46.cell? ⟨gb115, 6, none⟩ = some (.int .i64 a0_6) := (blk_cell BK115.out 6).trans rfl; have hcz47_7 : w46.cell? ⟨gb115, 7, none⟩ = some (.int .i64 a0_7) := (blk_cell BK115.out 7).trans rfl; have hcz47_8 : w46.cell? ⟨gb115, 8, none⟩ = some (.int .i64 a0_8) := (blk_cell BK115.out 8).trans rfl; have hcz47_9 : w46.cell? ⟨gb115, 9, none⟩ = some (.int .i64 a0_9) := (blk_cell BK115.out 9).trans rfl; have hcz47_10 : w46.cell? ⟨gb115, 10, none⟩ = some (.int .i64 a0_10) := (blk_cell BK115.out 10).trans rfl; have hcz47_11 : w46.cell? ⟨gb115, 11, none⟩ = some (.slice A0_11 l0_11.length c0_11) := (blk_cell BK115.out 11).trans rfl; have hcz47_12 : w46.cell? ⟨gb115, 12, none⟩ = some (.slice A0_12 l0_12.length c0_12) := (blk_cell BK115.out 12).trans rfl; have hfz47_0 := blk_frozen BK115.out 0; have hfz47_1 := blk_frozen BK115.out 1; have hfz47_2 := blk_frozen BK115.out 2; have hfz47_3 := blk_frozen BK115.out 3; have hfz47_4 := blk_frozen BK115.out 4; have hfz47_5 := blk_frozen BK115.out 5; have hfz47_6 := blk_frozen BK115.out 6; have hfz47_7 := blk_frozen BK115.out 7; have hfz47_8 := blk_frozen BK115.out 8; have hfz47_9 := blk_frozen BK115.out 9; have hfz47_10 := blk_frozen BK115.out 10; have hfz47_11 := blk_frozen BK115.out 11; have hfz47_12 := blk_frozen BK115.out 12) | ((with_reducible refine gate_callee (f := 30) rfl ?_); refine goesL_ (some 53) rfl rfl Tryd.func30 (by kernel_rfl) rfl #[.int .i64 a0_2, .int .i64 16] rfl sqA ?_; (with_reducible refine (msg_within.calls _ _ _ _ A22.out).mono ?_); rintro e w' ⟨rfl, ⟨nd, rfl⟩⟩; refine ⟨_, rfl, ?_⟩) | (go_at_call 30; (with_reducible refine (msg_within.calls _ _ _ _ A24.out).mono ?_); rintro e w' ⟨rfl, ⟨nd, rfl⟩⟩))
   go_ret
   exact ⟨sqE, sqB1 HB.out GE115.out⟩
 subst c25
 have H1 : ((msg_within.f a0_6 65535).bind fun t132 => (if t132 = true then (if (l0_11.length : Int) = 16 then ((tlv_Right.f k2 l0_12).bind fun t133 => (if t133 = true then (some (!t127)) else (some false))) else (some false)) else (some false))) = some r := by rw [if_pos rfl] at H; exact H
 clear H
 have H := H1
 clear H1
 replace H := Option.bind_eq_some_iff.mp H
 obtain ⟨t132, A260, H⟩ := H
 replace H : (if t132 = true then (if (l0_11.length : Int) = 16 then ((tlv_Right.f k2 l0_12).bind fun t133 => (if t133 = true then (some (!t127)) else (some false))) else (some false)) else (some false)) = some r := H
 have A26 := Aside0.mk A260
 clear A260
 by_cases c27 : t132 = true
 rotate_left
 · replace c27 := Bool.eq_false_iff.mpr c27
   subst c27
   have H1 : (some false) = some r := by rw [if_neg (show ¬ (false = true) by decide)] at H; exact H
   clear H
   have H := H1
   clear H1
   obtain rfl := Option.some.inj H
   have hcz42_0 : wr.cell? ⟨gb115, 0, none⟩ = some (.int .i64 a0_0) := (blk_cell BK115.out 0).trans rfl
   have hcz42_1 : wr.cell? ⟨gb115, 1, none⟩ = some (.int .i64 a0_1) := (blk_cell BK115.out 1).trans rfl
   have hcz42_2 : wr.cell? ⟨gb115, 2, none⟩ = some (.int .i64 a0_2) := (blk_cell BK115.out 2).trans rfl
   have hcz42_3 : wr.cell? ⟨gb115, 3, none⟩ = some (.int .i64 a0_3) := (blk_cell BK115.out 3).trans rfl
   have hcz42_4 : wr.cell? ⟨gb115, 4, none⟩ = some (.int .i64 a0_4) := (blk_cell BK115.out 4).trans rfl
   have hcz42_5 : wr.cell? ⟨gb115, 5, none⟩ = some (.int .i64 a0_5) := (blk_cell BK115.out 5).trans rfl
   have hcz42_6 : wr.cell? ⟨gb115, 6, none⟩ = some (.int .i64 a0_6) := (blk_cell BK115.out 6).trans rfl
   have hcz42_7 : wr.cell? ⟨gb115, 7, none⟩ = some (.int .i64 a0_7) := (blk_cell BK115.out 7).trans rfl
   have hcz42_8 : wr.cell? ⟨gb115, 8, none⟩ = some (.int .i64 a0_8) := (blk_cell BK115.out 8).trans rfl
   have hcz42_9 : wr.cell? ⟨gb115, 9, none⟩ = some (.int .i64 a0_9) := (blk_cell BK115.out 9).trans rfl
   have hcz42_10 : wr.cell? ⟨gb115, 10, none⟩ = some (.int .i64 a0_10) := (blk_cell BK115.out 10).trans rfl
   have hcz42_11 : wr.cell? ⟨gb115, 11, none⟩ = some (.slice A0_11 l0_11.length c0_11) := (blk_cell BK115.out 11).trans rfl
   have hcz42_12 : wr.cell? ⟨gb115, 12, none⟩ = some (.slice A0_12 l0_12.length c0_12) := (blk_cell BK115.out 12).trans rfl
   have hfz42_0 := blk_frozen BK115.out 0
   have hfz42_1 := blk_frozen BK115.out 1
   have hfz42_2 := blk_frozen BK115.out 2
   have hfz42_3 := blk_frozen BK115.out 3
   have hfz42_4 := blk_frozen BK115.out 4
   have hfz42_5 := blk_frozen BK115.out 5
   have hfz42_6 := blk_frozen BK115.out 6
   have hfz42_7 := blk_frozen BK115.out 7
   have hfz42_8 := blk_frozen BK115.out 8
   have hfz42_9 := blk_frozen BK115.out 9
   have hfz42_10 := blk_frozen BK115.out 10
   have hfz42_11 := blk_frozen BK115.out 11
   have hfz42_12 := blk_frozen BK115.out 12
   go_wp2_with (first | ((with_reducible refine gate_callee (f := 23) rfl ?_); refine goesL_ (some 48) rfl rfl Tryd.func23 (by kernel_rfl) rfl #[.slice A0_12 l0_12.length c0_12, .int .i64 52] rfl sqA ?_; (with_reducible refine (tlv_Find.calls _ _ _ _ _ _ _ _ ?side1 ?side2 A21.out).mono ?_); (case side1 => repeat (first | exact (Kd.C_below HR0_12.out HB.out) | (with_reducible refine Kd.C_alloc ?_ _) | (with_reducible refine Kd.C_drewN ?_ _) | (with_reducible refine Kd.C_drew ?_))); (case side2 => exact HC0_12.out); rintro e w43 ⟨v128, rfl, ho0, hb⟩; refine ⟨_, rfl, ?_⟩; have HO129 := sqM (Kd.R_lower ho0 (below_size (sqB1 HB.out GE115.out))); replace HO_35 := sqM (Kd.R_below (sqR HO_35.out) hb); replace BK115 := sqM (blk_below (sqK BK115.out) hb); replace HB := sqM (below_step (sqB1 HB.out GE115.out) hb); (try clear hb); (try clear hb2); (try clear hk); (try clear hi); (try clear ho0); have hcz44_0 : w43.cell? ⟨gb115, 0, none⟩ = some (.int .i64 a0_0) := (blk_cell BK115.out 0).trans rfl; have hcz44_1 : w43.cell? ⟨gb115, 1, none⟩ = some (.int .i64 a0_1) := (blk_cell BK115.out 1).trans rfl; have hcz44_2 : w43.cell? ⟨gb115, 2, none⟩ = some (.int .i64 a0_2) := (blk_cell BK115.out 2).trans rfl; have hcz44_3 : w43.cell? ⟨gb115, 3, none⟩ = some (.int .i64 a0_3) := (blk_cell BK115.out 3).trans rfl; have hcz44_4 : w43.cell? ⟨gb115, 4, none⟩ = some (.int .i64 a0_4) := (blk_cell BK115.out 4).trans rfl; have hcz44_5 : w43.cell? ⟨gb115, 5, none⟩ = some (.int .i64 a0_5) := (blk_cell BK115.out 5).trans rfl; have hcz44_6 : w43.cell? ⟨gb115, 6, none⟩ = some (.int .i64 a0_6) := (blk_cell BK115.out 6).trans rfl; have hcz44_7 : w43.cell? ⟨gb115, 7, none⟩ = some (.int .i64 a0_7) := (blk_cell BK115.out 7).trans rfl; have hcz44_8 : w43.cell? ⟨gb115, 8, none⟩ = some (.int .i64 a0_8) := (blk_cell BK115.out 8).trans rfl; have hcz44_9 : w43.cell? ⟨gb115, 9, none⟩ = some (.int .i64 a0_9) := (blk_cell BK115.out 9).trans rfl; have hcz44_10 : w43.cell? ⟨gb115, 10, none⟩ = some (.int .i64 a0_10) := (blk_cell BK115.out 10).trans rfl; have hcz44_11 : w43.cell? ⟨gb115, 11, none⟩ = some (.slice A0_11 l0_11.length c0_11) := (blk_cell BK115.out 11).trans rfl; have hcz44_12 : w43.cell? ⟨gb115, 12, none⟩ = some (.slice A0_12 l0_12.length c0_12) := (blk_cell BK115.out 12).trans rfl; have hfz44_0 := blk_frozen BK115.out 0; have hfz44_1 := blk_frozen BK115.out 1; have hfz44_2 := blk_frozen BK115.out 2; have hfz44_3 := blk_frozen BK115.out 3; have hfz44_4 := blk_frozen BK115.out 4; have hfz44_5 := blk_frozen BK115.out 5; have hfz44_6 := blk_frozen BK115.out 6; have hfz44_7 := blk_frozen BK115.out 7; have hfz44_8 := blk_frozen BK115.out 8; have hfz44_9 := blk_frozen BK115.out 9; have hfz44_10 := blk_frozen BK115.out 10; have hfz44_11 := blk_frozen BK115.out 11; have hfz44_12 := blk_frozen BK115.out 12) | ((with_reducible refine gate_callee (f := 30) rfl ?_); refine goesL_ (some 53) rfl rfl Tryd.func30 (by kernel_rfl) rfl #[.int .i64 a0_2, .int .i64 16] rfl sqA ?_; (with_reducible refine (msg_within.calls _ _ _ _ A22.out).mono ?_); rintro e w' ⟨rfl, ⟨nd, rfl⟩⟩; refine ⟨_, rfl, ?_⟩) | (go_at_call 30; (with_reducible refine (msg_within.calls _ _ _ _ A24.out).mono ?_); rintro e w' ⟨rfl, ⟨nd, rfl⟩⟩) | (go_at_call 30; (with_reducible refine (msg_within.calls _ _ _ _ A26.out).mono ?_); rintro e w' ⟨rfl, ⟨nd, rfl⟩⟩))
   go_ret
   exact ⟨sqE, sqB1 HB.out GE115.out⟩
 subst c27
 have H1 : (if (l0_11.length : Int) = 16 then ((tlv_Right.f k2 l0_12).bind fun t133 => (if t133 = true then (some (!t127)) else (some false))) else (some false)) = some r := by rw [if_pos rfl] at H; exact H
 clear H
 have H := H1
 clear H1
 by_cases c28 : (l0_11.length : Int) = 16
 rotate_left
 · rw [if_neg c28] at H
   have c28b0 : ((l0_11.length : Int) == 16) = false := beq_eq_false_iff_ne.mpr c28
   have c28b1 : ((l0_11.length : Int) != 16) = true := bne_iff_ne.mpr c28
   obtain rfl := Option.some.inj H
   have hcz39_0 : wr.cell? ⟨gb115, 0, none⟩ = some (.int .i64 a0_0) := (blk_cell BK115.out 0).trans rfl
   have hcz39_1 : wr.cell? ⟨gb115, 1, none⟩ = some (.int .i64 a0_1) := (blk_cell BK115.out 1).trans rfl
   have hcz39_2 : wr.cell? ⟨gb115, 2, none⟩ = some (.int .i64 a0_2) := (blk_cell BK115.out 2).trans rfl
   have hcz39_3 : wr.cell? ⟨gb115, 3, none⟩ = some (.int .i64 a0_3) := (blk_cell BK115.out 3).trans rfl
   have hcz39_4 : wr.cell? ⟨gb115, 4, none⟩ = some (.int .i64 a0_4) := (blk_cell BK115.out 4).trans rfl
   have hcz39_5 : wr.cell? ⟨gb115, 5, none⟩ = some (.int .i64 a0_5) := (blk_cell BK115.out 5).trans rfl
   have hcz39_6 : wr.cell? ⟨gb115, 6, none⟩ = some (.int .i64 a0_6) := (blk_cell BK115.out 6).trans rfl
   have hcz39_7 : wr.cell? ⟨gb115, 7, none⟩ = some (.int .i64 a0_7) := (blk_cell BK115.out 7).trans rfl
   have hcz39_8 : wr.cell? ⟨gb115, 8, none⟩ = some (.int .i64 a0_8) := (blk_cell BK115.out 8).trans rfl
   have hcz39_9 : wr.cell? ⟨gb115, 9, none⟩ = some (.int .i64 a0_9) := (blk_cell BK115.out 9).trans rfl
   have hcz39_10 : wr.cell? ⟨gb115, 10, none⟩ = some (.int .i64 a0_10) := (blk_cell BK115.out 10).trans rfl
   have hcz39_11 : wr.cell? ⟨gb115, 11, none⟩ = some (.slice A0_11 l0_11.length c0_11) := (blk_cell BK115.out 11).trans rfl
   have hcz39_12 : wr.cell? ⟨gb115, 12, none⟩ = some (.slice A0_12 l0_12.length c0_12) := (blk_cell BK115.out 12).trans rfl
   have hfz39_0 := blk_frozen BK115.out 0
   have hfz39_1 := blk_frozen BK115.out 1
   have hfz39_2 := blk_frozen BK115.out 2
   have hfz39_3 := blk_frozen BK115.out 3
   have hfz39_4 := blk_frozen BK115.out 4
   have hfz39_5 := blk_frozen BK115.out 5
   have hfz39_6 := blk_frozen BK115.out 6
   have hfz39_7 := blk_frozen BK115.out 7
   have hfz39_8 := blk_frozen BK115.out 8
   have hfz39_9 := blk_frozen BK115.out 9
   have hfz39_10 := blk_frozen BK115.out 10
   have hfz39_11 := blk_frozen BK115.out 11
   have hfz39_12 := blk_frozen BK115.out 12
   go_wp2_with (first | ((with_reducible refine gate_callee (f := 23) rfl ?_); refine goesL_ (some 48) rfl rfl Tryd.func23 (by kernel_rfl) rfl #[.slice A0_12 l0_12.length c0_12, .int .i64 52] rfl sqA ?_; (with_reducible refine (tlv_Find.calls _ _ _ _ _ _ _ _ ?side1 ?side2 A21.out).mono ?_); (case side1 => repeat (first | exact (Kd.C_below HR0_12.out HB.out) | (with_reducible refine Kd.C_alloc ?_ _) | (with_reducible refine Kd.C_drewN ?_ _) | (with_reducible refine Kd.C_drew ?_))); (case side2 => exact HC0_12.out); rintro e w40 ⟨v128, rfl, ho0, hb⟩; refine ⟨_, rfl, ?_⟩; have HO129 := sqM (Kd.R_lower ho0 (below_size (sqB1 HB.out GE115.out))); replace HO_35 := sqM (Kd.R_below (sqR HO_35.out) hb); replace BK115 := sqM (blk_below (sqK BK115.out) hb); replace HB := sqM (below_step (sqB1 HB.out GE115.out) hb); (try clear hb); (try clear hb2); (try clear hk); (try clear hi); (try clear ho0); have hcz41_0 : w40.cell? ⟨gb115, 0, none⟩ = some (.int .i64 a0_0) := (blk_cell BK115.out 0).trans rfl; have hcz41_1 : w40.cell? ⟨gb115, 1, none⟩ = some (.int .i64 a0_1) := (blk_cell BK115.out 1).trans rfl; have hcz41_2 : w40.cell? ⟨gb115, 2, none⟩ = some (.int .i64 a0_2) := (blk_cell BK115.out 2).trans rfl; have hcz41_3 : w40.cell? ⟨gb115, 3, none⟩ = some (.int .i64 a0_3) := (blk_cell BK115.out 3).trans rfl; have hcz41_4 : w40.cell? ⟨gb115, 4, none⟩ = some (.int .i64 a0_4) := (blk_cell BK115.out 4).trans rfl; have hcz41_5 : w40.cell? ⟨gb115, 5, none⟩ = some (.int .i64 a0_5) := (blk_cell BK115.out 5).trans rfl; have hcz41_6 : w40.cell? ⟨gb115, 6, none⟩ = some (.int .i64 a0_6) := (blk_cell BK115.out 6).trans rfl; have hcz41_7 : w40.cell? ⟨gb115, 7, none⟩ = some (.int .i64 a0_7) := (blk_cell BK115.out 7).trans rfl; have hcz41_8 : w40.cell? ⟨gb115, 8, none⟩ = some (.int .i64 a0_8) := (blk_cell BK115.out 8).trans rfl; have hcz41_9 : w40.cell? ⟨gb115, 9, none⟩ = some (.int .i64 a0_9) := (blk_cell BK115.out 9).trans rfl; have hcz41_10 : w40.cell? ⟨gb115, 10, none⟩ = some (.int .i64 a0_10) := (blk_cell BK115.out 10).trans rfl; have hcz41_11 : w40.cell? ⟨gb115, 11, none⟩ = some (.slice A0_11 l0_11.length c0_11) := (blk_cell BK115.out 11).trans rfl; have hcz41_12 : w40.cell? ⟨gb115, 12, none⟩ = some (.slice A0_12 l0_12.length c0_12) := (blk_cell BK115.out 12).trans rfl; have hfz41_0 := blk_frozen BK115.out 0; have hfz41_1 := blk_frozen BK115.out 1; have hfz41_2 := blk_frozen BK115.out 2; have hfz41_3 := blk_frozen BK115.out 3; have hfz41_4 := blk_frozen BK115.out 4; have hfz41_5 := blk_frozen BK115.out 5; have hfz41_6 := blk_frozen BK115.out 6; have hfz41_7 := blk_frozen BK115.out 7; have hfz41_8 := blk_frozen BK115.out 8; have hfz41_9 := blk_frozen BK115.out 9; have hfz41_10 := blk_frozen BK115.out 10; have hfz41_11 := blk_frozen BK115.out 11; have hfz41_12 := blk_frozen BK115.out 12) | ((with_reducible refine gate_callee (f := 30) rfl ?_); refine goesL_ (some 53) rfl rfl Tryd.func30 (by kernel_rfl) rfl #[.int .i64 a0_2, .int .i64 16] rfl sqA ?_; (with_reducible refine (msg_within.calls _ _ _ _ A22.out).mono ?_); rintro e w' ⟨rfl, ⟨nd, rfl⟩⟩; refine ⟨_, rfl, ?_⟩) | (go_at_call 30; (with_reducible refine (msg_within.calls _ _ _ _ A24.out).mono ?_); rintro e w' ⟨rfl, ⟨nd, rfl⟩⟩) | (go_at_call 30; (with_reducible refine (msg_within.calls _ _ _ _ A26.out).mono ?_); rintro e w' ⟨rfl, ⟨nd, rfl⟩⟩))
   go_ret
   exact ⟨sqE, sqB1 HB.out GE115.out⟩
 rw [if_pos c28] at H
 have c28b0 : ((l0_11.length : Int) == 16) = true := beq_iff_eq.mpr c28
 have c28b1 : ((l0_11.length : Int) != 16) = false := bne_eq_false_iff_eq.mpr c28
 clear c28
 replace H := Option.bind_eq_some_iff.mp H
 obtain ⟨t133, A290, H⟩ := H
 replace H : (if t133 = true then (some (!t127)) else (some false)) = some r := H
 have A29 := Aside0.mk A290
 clear A290
 by_cases c30 : t133 = true
 · subst c30
   have H1 : (some (!t127)) = some r := by rw [if_pos rfl] at H; exact H
   clear H
   have H := H1
   clear H1
   obtain rfl := Option.some.inj H
   have hcz31_0 : wr.cell? ⟨gb115, 0, none⟩ = some (.int .i64 a0_0) := (blk_cell BK115.out 0).trans rfl
   have hcz31_1 : wr.cell? ⟨gb115, 1, none⟩ = some (.int .i64 a0_1) := (blk_cell BK115.out 1).trans rfl
   have hcz31_2 : wr.cell? ⟨gb115, 2, none⟩ = some (.int .i64 a0_2) := (blk_cell BK115.out 2).trans rfl
   have hcz31_3 : wr.cell? ⟨gb115, 3, none⟩ = some (.int .i64 a0_3) := (blk_cell BK115.out 3).trans rfl
   have hcz31_4 : wr.cell? ⟨gb115, 4, none⟩ = some (.int .i64 a0_4) := (blk_cell BK115.out 4).trans rfl
   have hcz31_5 : wr.cell? ⟨gb115, 5, none⟩ = some (.int .i64 a0_5) := (blk_cell BK115.out 5).trans rfl
   have hcz31_6 : wr.cell? ⟨gb115, 6, none⟩ = some (.int .i64 a0_6) := (blk_cell BK115.out 6).trans rfl
   have hcz31_7 : wr.cell? ⟨gb115, 7, none⟩ = some (.int .i64 a0_7) := (blk_cell BK115.out 7).trans rfl
   have hcz31_8 : wr.cell? ⟨gb115, 8, none⟩ = some (.int .i64 a0_8) := (blk_cell BK115.out 8).trans rfl
   have hcz31_9 : wr.cell? ⟨gb115, 9, none⟩ = some (.int .i64 a0_9) := (blk_cell BK115.out 9).trans rfl
   have hcz31_10 : wr.cell? ⟨gb115, 10, none⟩ = some (.int .i64 a0_10) := (blk_cell BK115.out 10).trans rfl
   have hcz31_11 : wr.cell? ⟨gb115, 11, none⟩ = some (.slice A0_11 l0_11.length c0_11) := (blk_cell BK115.out 11).trans rfl
   have hcz31_12 : wr.cell? ⟨gb115, 12, none⟩ = some (.slice A0_12 l0_12.length c0_12) := (blk_cell BK115.out 12).trans rfl
   have hfz31_0 := blk_frozen BK115.out 0
   have hfz31_1 := blk_frozen BK115.out 1
   have hfz31_2 := blk_frozen BK115.out 2
   have hfz31_3 := blk_frozen BK115.out 3
   have hfz31_4 := blk_frozen BK115.out 4
   have hfz31_5 := blk_frozen BK115.out 5
   have hfz31_6 := blk_frozen BK115.out 6
   have hfz31_7 := blk_frozen BK115.out 7
   have hfz31_8 := blk_frozen BK115.out 8
   have hfz31_9 := blk_frozen BK115.out 9
   have hfz31_10 := blk_frozen BK115.out 10
   have hfz31_11 := blk_frozen BK115.out 11
   have hfz31_12 := blk_frozen BK115.out 12
   go_wp2_with (first | ((with_reducible refine gate_callee (f := 23) rfl ?_); refine goesL_ (some 48) rfl rfl Tryd.func23 (by kernel_rfl) rfl #[.slice A0_12 l0_12.length c0_12, .int .i64 52] rfl sqA ?_; (with_reducible refine (tlv_Find.calls _ _ _ _ _ _ _ _ ?side1 ?side2 A21.out).mono ?_); (case side1 => repeat (first | exact (Kd.C_below HR0_12.out HB.out) | (with_reducible refine Kd.C_alloc ?_ _) | (with_reducible refine Kd.C_drewN ?_ _) | (with_reducible refine Kd.C_drew ?_))); (case side2 => exact HC0_12.out); rintro e w32 ⟨v128, rfl, ho0, hb⟩; refine ⟨_, rfl, ?_⟩; have HO129 := sqM (Kd.R_lower ho0 (below_size (sqB1 HB.out GE115.out))); replace HO_35 := sqM (Kd.R_below (sqR HO_35.out) hb); replace BK115 := sqM (blk_below (sqK BK115.out) hb); replace HB := sqM (below_step (sqB1 HB.out GE115.out) hb); (try clear hb); (try clear hb2); (try clear hk); (try clear hi); (try clear ho0); have hcz33_0 : w32.cell? ⟨gb115, 0, none⟩ = some (.int .i64 a0_0) := (blk_cell BK115.out 0).trans rfl; have hcz33_1 : w32.cell? ⟨gb115, 1, none⟩ = some (.int .i64 a0_1) := (blk_cell BK115.out 1).trans rfl; have hcz33_2 : w32.cell? ⟨gb115, 2, none⟩ = some (.int .i64 a0_2) := (blk_cell BK115.out 2).trans rfl; have hcz33_3 : w32.cell? ⟨gb115, 3, none⟩ = some (.int .i64 a0_3) := (blk_cell BK115.out 3).trans rfl; have hcz33_4 : w32.cell? ⟨gb115, 4, none⟩ = some (.int .i64 a0_4) := (blk_cell BK115.out 4).trans rfl; have hcz33_5 : w32.cell? ⟨gb115, 5, none⟩ = some (.int .i64 a0_5) := (blk_cell BK115.out 5).trans rfl; have hcz33_6 : w32.cell? ⟨gb115, 6, none⟩ = some (.int .i64 a0_6) := (blk_cell BK115.out 6).trans rfl; have hcz33_7 : w32.cell? ⟨gb115, 7, none⟩ = some (.int .i64 a0_7) := (blk_cell BK115.out 7).trans rfl; have hcz33_8 : w32.cell? ⟨gb115, 8, none⟩ = some (.int .i64 a0_8) := (blk_cell BK115.out 8).trans rfl; have hcz33_9 : w32.cell? ⟨gb115, 9, none⟩ = some (.int .i64 a0_9) := (blk_cell BK115.out 9).trans rfl; have hcz33_10 : w32.cell? ⟨gb115, 10, none⟩ = some (.int .i64 a0_10) := (blk_cell BK115.out 10).trans rfl; have hcz33_11 : w32.cell? ⟨gb115, 11, none⟩ = some (.slice A0_11 l0_11.length c0_11) := (blk_cell BK115.out 11).trans rfl; have hcz33_12 : w32.cell? ⟨gb115, 12, none⟩ = some (.slice A0_12 l0_12.length c0_12) := (blk_cell BK115.out 12).trans rfl; have hfz33_0 := blk_frozen BK115.out 0; have hfz33_1 := blk_frozen BK115.out 1; have hfz33_2 := blk_frozen BK115.out 2; have hfz33_3 := blk_frozen BK115.out 3; have hfz33_4 := blk_frozen BK115.out 4; have hfz33_5 := blk_frozen BK115.out 5; have hfz33_6 := blk_frozen BK115.out 6; have hfz33_7 := blk_frozen BK115.out 7; have hfz33_8 := blk_frozen BK115.out 8; have hfz33_9 := blk_frozen BK115.out 9; have hfz33_10 := blk_frozen BK115.out 10; have hfz33_11 := blk_frozen BK115.out 11; have hfz33_12 := blk_frozen BK115.out 12) | ((with_reducible refine gate_callee (f := 30) rfl ?_); refine goesL_ (some 53) rfl rfl Tryd.func30 (by kernel_rfl) rfl #[.int .i64 a0_2, .int .i64 16] rfl sqA ?_; (with_reducible refine (msg_within.calls _ _ _ _ A22.out).mono ?_); rintro e w' ⟨rfl, ⟨nd, rfl⟩⟩; refine ⟨_, rfl, ?_⟩) | (go_at_call 30; (with_reducible refine (msg_within.calls _ _ _ _ A24.out).mono ?_); rintro e w' ⟨rfl, ⟨nd, rfl⟩⟩) | (go_at_call 30; (with_reducible refine (msg_within.calls _ _ _ _ A26.out).mono ?_); rintro e w' ⟨rfl, ⟨nd, rfl⟩⟩) | (go_at_call 32; (with_reducible refine (tlv_Right.calls _ _ _ _ _ _ ?side1 ?side2 A29.out).mono ?_); (case side1 => repeat (first | exact (Kd.C_below HR0_12.out (sqB1 HB.out GE115.out)) | (with_reducible refine Kd.C_alloc ?_ _) | (with_reducible refine Kd.C_drewN ?_ _) | (with_reducible refine Kd.C_drew ?_))); (case side2 => exact HC0_12.out); rintro e w34 ⟨rfl, hb⟩; replace HO_35 := sqM (Kd.R_below (sqR HO_35.out) hb); replace HO129 := sqM (Kd.R_below (sqR HO129.out) hb); replace BK115 := sqM (blk_below (sqK BK115.out) hb); replace HB := sqM (below_step (sqB1 HB.out GE115.out) hb); (try clear hb); (try clear hb2); (try clear hk); (try clear hi)))
   go_ret
   exact ⟨sqE, sqB1 HB.out GE115.out⟩
 replace c30 := Bool.eq_false_iff.mpr c30
 subst c30
 have H1 : (some false) = some r := by rw [if_neg (show ¬ (false = true) by decide)] at H; exact H
 clear H
 have H := H1
 clear H1
 obtain rfl := Option.some.inj H
 have hcz35_0 : wr.cell? ⟨gb115, 0, none⟩ = some (.int .i64 a0_0) := (blk_cell BK115.out 0).trans rfl
 have hcz35_1 : wr.cell? ⟨gb115, 1, none⟩ = some (.int .i64 a0_1) := (blk_cell BK115.out 1).trans rfl
 have hcz35_2 : wr.cell? ⟨gb115, 2, none⟩ = some (.int .i64 a0_2) := (blk_cell BK115.out 2).trans rfl
 have hcz35_3 : wr.cell? ⟨gb115, 3, none⟩ = some (.int .i64 a0_3) := (blk_cell BK115.out 3).trans rfl
 have hcz35_4 : wr.cell? ⟨gb115, 4, none⟩ = some (.int .i64 a0_4) := (blk_cell BK115.out 4).trans rfl
 have hcz35_5 : wr.cell? ⟨gb115, 5, none⟩ = some (.int .i64 a0_5) := (blk_cell BK115.out 5).trans rfl
 have hcz35_6 : wr.cell? ⟨gb115, 6, none⟩ = some (.int .i64 a0_6) := (blk_cell BK115.out 6).trans rfl
 have hcz35_7 : wr.cell? ⟨gb115, 7, none⟩ = some (.int .i64 a0_7) := (blk_cell BK115.out 7).trans rfl
 have hcz35_8 : wr.cell? ⟨gb115, 8, none⟩ = some (.int .i64 a0_8) := (blk_cell BK115.out 8).trans rfl
 have hcz35_9 : wr.cell? ⟨gb115, 9, none⟩ = some (.int .i64 a0_9) := (blk_cell BK115.out 9).trans rfl
 have hcz35_10 : wr.cell? ⟨gb115, 10, none⟩ = some (.int .i64 a0_10) := (blk_cell BK115.out 10).trans rfl
 have hcz35_11 : wr.cell? ⟨gb115, 11, none⟩ = some (.slice A0_11 l0_11.length c0_11) := (blk_cell BK115.out 11).trans rfl
 have hcz35_12 : wr.cell? ⟨gb115, 12, none⟩ = some (.slice A0_12 l0_12.length c0_12) := (blk_cell BK115.out 12).trans rfl
 have hfz35_0 := blk_frozen BK115.out 0
 have hfz35_1 := blk_frozen BK115.out 1
 have hfz35_2 := blk_frozen BK115.out 2
 have hfz35_3 := blk_frozen BK115.out 3
 have hfz35_4 := blk_frozen BK115.out 4
 have hfz35_5 := blk_frozen BK115.out 5
 have hfz35_6 := blk_frozen BK115.out 6
 have hfz35_7 := blk_frozen BK115.out 7
 have hfz35_8 := blk_frozen BK115.out 8
 have hfz35_9 := blk_frozen BK115.out 9
 have hfz35_10 := blk_frozen BK115.out 10
 have hfz35_11 := blk_frozen BK115.out 11
 have hfz35_12 := blk_frozen BK115.out 12
 go_wp2_with (first | ((with_reducible refine gate_callee (f := 23) rfl ?_); refine goesL_ (some 48) rfl rfl Tryd.func23 (by kernel_rfl) rfl #[.slice A0_12 l0_12.length c0_12, .int .i64 52] rfl sqA ?_; (with_reducible refine (tlv_Find.calls _ _ _ _ _ _ _ _ ?side1 ?side2 A21.out).mono ?_); (case side1 => repeat (first | exact (Kd.C_below HR0_12.out HB.out) | (with_reducible refine Kd.C_alloc ?_ _) | (with_reducible refine Kd.C_drewN ?_ _) | (with_reducible refine Kd.C_drew ?_))); (case side2 => exact HC0_12.out); rintro e w36 ⟨v128, rfl, ho0, hb⟩; refine ⟨_, rfl, ?_⟩; have HO129 := sqM (Kd.R_lower ho0 (below_size (sqB1 HB.out GE115.out))); replace HO_35 := sqM (Kd.R_below (sqR HO_35.out) hb); replace BK115 := sqM (blk_below (sqK BK115.out) hb); replace HB := sqM (below_step (sqB1 HB.out GE115.out) hb); (try clear hb); (try clear hb2); (try clear hk); (try clear hi); (try clear ho0); have hcz37_0 : w36.cell? ⟨gb115, 0, none⟩ = some (.int .i64 a0_0) := (blk_cell BK115.out 0).trans rfl; have hcz37_1 : w36.cell? ⟨gb115, 1, none⟩ = some (.int .i64 a0_1) := (blk_cell BK115.out 1).trans rfl; have hcz37_2 : w36.cell? ⟨gb115, 2, none⟩ = some (.int .i64 a0_2) := (blk_cell BK115.out 2).trans rfl; have hcz37_3 : w36.cell? ⟨gb115, 3, none⟩ = some (.int .i64 a0_3) := (blk_cell BK115.out 3).trans rfl; have hcz37_4 : w36.cell? ⟨gb115, 4, none⟩ = some (.int .i64 a0_4) := (blk_cell BK115.out 4).trans rfl; have hcz37_5 : w36.cell? ⟨gb115, 5, none⟩ = some (.int .i64 a0_5) := (blk_cell BK115.out 5).trans rfl; have hcz37_6 : w36.cell? ⟨gb115, 6, none⟩ = some (.int .i64 a0_6) := (blk_cell BK115.out 6).trans rfl; have hcz37_7 : w36.cell? ⟨gb115, 7, none⟩ = some (.int .i64 a0_7) := (blk_cell BK115.out 7).trans rfl; have hcz37_8 : w36.cell? ⟨gb115, 8, none⟩ = some (.int .i64 a0_8) := (blk_cell BK115.out 8).trans rfl; have hcz37_9 : w36.cell? ⟨gb115, 9, none⟩ = some (.int .i64 a0_9) := (blk_cell BK115.out 9).trans rfl; have hcz37_10 : w36.cell? ⟨gb115, 10, none⟩ = some (.int .i64 a0_10) := (blk_cell BK115.out 10).trans rfl; have hcz37_11 : w36.cell? ⟨gb115, 11, none⟩ = some (.slice A0_11 l0_11.length c0_11) := (blk_cell BK115.out 11).trans rfl; have hcz37_12 : w36.cell? ⟨gb115, 12, none⟩ = some (.slice A0_12 l0_12.length c0_12) := (blk_cell BK115.out 12).trans rfl; have hfz37_0 := blk_frozen BK115.out 0; have hfz37_1 := blk_frozen BK115.out 1; have hfz37_2 := blk_frozen BK115.out 2; have hfz37_3 := blk_frozen BK115.out 3; have hfz37_4 := blk_frozen BK115.out 4; have hfz37_5 := blk_frozen BK115.out 5; have hfz37_6 := blk_frozen BK115.out 6; have hfz37_7 := blk_frozen BK115.out 7; have hfz37_8 := blk_frozen BK115.out 8; have hfz37_9 := blk_frozen BK115.out 9; have hfz37_10 := blk_frozen BK115.out 10; have hfz37_11 := blk_frozen BK115.out 11; have hfz37_12 := blk_frozen BK115.out 12) | ((with_reducible refine gate_callee (f := 30) rfl ?_); refine goesL_ (some 53) rfl rfl Tryd.func30 (by kernel_rfl) rfl #[.int .i64 a0_2, .int .i64 16] rfl sqA ?_; (with_reducible refine (msg_within.calls _ _ _ _ A22.out).mono ?_); rintro e w' ⟨rfl, ⟨nd, rfl⟩⟩; refine ⟨_, rfl, ?_⟩) | (go_at_call 30; (with_reducible refine (msg_within.calls _ _ _ _ A24.out).mono ?_); rintro e w' ⟨rfl, ⟨nd, rfl⟩⟩) | (go_at_call 30; (with_reducible refine (msg_within.calls _ _ _ _ A26.out).mono ?_); rintro e w' ⟨rfl, ⟨nd, rfl⟩⟩) | (go_at_call 32; (with_reducible refine (tlv_Right.calls _ _ _ _ _ _ ?side1 ?side2 A29.out).mono ?_); (case side1 => repeat (first | exact (Kd.C_below HR0_12.out (sqB1 HB.out GE115.out)) | (with_reducible refine Kd.C_alloc ?_ _) | (with_reducible refine Kd.C_drewN ?_ _) | (with_reducible refine Kd.C_drew ?_))); (case side2 => exact HC0_12.out); rintro e w38 ⟨rfl, hb⟩; replace HO_35 := sqM (Kd.R_below (sqR HO_35.out) hb); replace HO129 := sqM (Kd.R_below (sqR HO129.out) hb); replace BK115 := sqM (blk_below (sqK BK115.out) hb); replace HB := sqM (below_step (sqB1 HB.out GE115.out) hb); (try clear hb); (try clear hb2); (try clear hk); (try clear hi)))
 go_ret
 exact ⟨sqE, sqB1 HB.out GE115.out⟩

end Go.Proofs.YtkjmfnijagdhpaaDoor.PKey
