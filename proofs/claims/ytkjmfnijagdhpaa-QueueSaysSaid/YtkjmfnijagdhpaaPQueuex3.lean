/- Lean functions for Go functions of the given program, and proofs that the code computes them, each under its theorem's own conditions. Written by a program of this session. -/
import Derived.Test.YtkjmfnijagdhpaaPQueuex0
import Derived.Test.YtkjmfnijagdhpaaPQueuex2
namespace Go.Proofs.Ytkjmfnijagdhpaa.PQueue
open Go.RowKit Go.Proofs.YtkjmfnijagdhpaaW.PrintWords Go.Proofs.YtkjmfnijagdhpaaW.PrintLast Go.Proofs.YtkjmfnijagdhpaaW.PrintMore
attribute [local go_sem] max2_int min2_int max_two min_two max_three min_three max_four min_four   -- for this text's walks alone
set_option linter.unusedVariables false
set_option linter.unusedSimpArgs false

/-! ### table_Right: function 35 -/
def table_Right.l0 : Nat → List (S34) → List (S34) → Int → Int → Option (Bool)
  | 0, _, _, _, _ => none
  | k + 1, x0, x5, x6, x7 => if x7 < x6 then (if 0 ≤ x7 then (if x7 < (x5.length : Int) then ((record_Right.f ((rd_T34 x5 x7).f0) ((rd_T34 x5 x7).f1) ((rd_T34 x5 x7).f2) ((rd_T34 x5 x7).f3)).bind fun t139 => (if t139 = true then (if x7 > 0 then (if 0 ≤ (wrap64 (x7 - 1)) then (if (wrap64 (x7 - 1)) < (x0.length : Int) then (if ((rd_T34 x0 (wrap64 (x7 - 1))).f0) ≥ ((rd_T34 x5 x7).f0) then (some false) else (table_Right.l0 k x0 x5 x6 (wrap64 (x7 + 1)))) else (none)) else (none)) else (table_Right.l0 k x0 x5 x6 (wrap64 (x7 + 1)))) else (some false))) else (none)) else (none)) else (some (decide ((x0.length : Int) ≤ 64)))
def table_Right.f (k : Nat) (l0 : List (S34)) : Option (Bool) := table_Right.l0 k l0 l0 (l0.length : Int) 0
theorem table_Right.mono_l : ∀ k, (∀ y0 y1 y2 y3, LeO (table_Right.l0 k y0 y1 y2 y3) (table_Right.l0 (k + 1) y0 y1 y2 y3))
  | 0 => fun _ _ _ _ r h => by simp [table_Right.l0] at h
  | k + 1 => by
    have ih0 := table_Right.mono_l k
    · intro y0 y1 y2 y3
      unfold table_Right.l0
      repeat' first
      | (with_reducible exact ih0 _ _ _ _)
      | (with_reducible exact LeO.refl _)
      | (with_reducible exact LeO.none _)
      | (with_reducible refine LeO.ite ?_ ?_)
      | (with_reducible refine LeO.bind ?_ (fun _ => ?_))
      | exact ih0 _ _ _ _
      | exact LeO.none _
      | refine LeO.ite ?_ ?_
      | refine LeO.bind ?_ (fun _ => ?_)
theorem table_Right.mono : ∀ a0 k, LeO (table_Right.f k a0) (table_Right.f (k + 1) a0) := by
 intro a0 k
 have ih0 := table_Right.mono_l k
 unfold table_Right.f
 repeat' first
  | (with_reducible exact ih0 _ _ _ _)
  | (with_reducible exact LeO.refl _)
  | (with_reducible exact LeO.none _)
  | (with_reducible refine LeO.ite ?_ ?_)
  | (with_reducible refine LeO.bind ?_ (fun _ => ?_))
  | exact ih0 _ _ _ _
  | exact LeO.none _
  | refine LeO.ite ?_ ?_
  | refine LeO.bind ?_ (fun _ => ?_)
def table_Right.T4 : Bool × List (List Nat × List Nat) := (true, [([], []), ([0], [0]), ([1], [1]), ([2, 1], [2]), ([3], [3]), ([4, 3], [3, 4]), ([5, 3, 3], [3, 5]), ([6], [6]), ([6], [6]), ([8, 6], [6, 8]), ([7, 9, 6], [6, 7, 9]), ([10, 6], [6, 10]), ([11, 6], [6, 11]), ([6], [6]), ([13, 6], [6, 13]), ([12, 14, 6], [6, 12, 14]), ([6, 15, 3], [3, 6, 15]), ([3, 16], [3, 16])])
def table_Right.B4 : List Nat := [0, 1, 3, 7, 15, 31, 63, 127, 127, 383, 1023, 2047, 4095, 127, 8319, 32767, 65535, 131071]
theorem table_Right.tab4 : rtab .any (opsOf Try.f35 4) = table_Right.T4 := by kernel_rfl
theorem table_Right.bits4 : waitsOk table_Right.T4.2 table_Right.B4 = true := by kernel_rfl
set_option maxHeartbeats 8000000 in
set_option maxRecDepth 100000 in
theorem table_Right.calls (k : Nat) (A0 : Option Addr) (c0 : Nat) (l0 : List (S34)) (r : Bool) (w : World) (hr0 : Kd.C k34 w A0 l0.length l0) (hc0 : l0.length ≤ c0) (h : table_Right.f k l0 = some r) :
    Calls Try.prog 35 #[.slice A0 l0.length c0] w fun e w' => e = .returned (.bool r) ∧ Below w.heap.size w w' := by
 have hu34 := Try.underlying34
 have HR0 := Aside0.mk hr0
 have HC0 := Aside0.mk hc0
 clear hr0 hc0
 have HB := Aside0.mk (Below.refl w.heap.size w)
 have H : (table_Right.l0 k l0 l0 (l0.length : Int) 0) = some r := h
 clear h
 have H' := Aside0.mk H
 clear H
 go_enter Try.func35, Try.ntmps35
 go_wp2
 go_loopg [7] k (fun kq v7 w' => ∃ (x7_1 : Int), v7 = .int .i64 x7_1 ∧ Aside0 (table_Right.l0 kq l0 l0 (l0.length : Int) x7_1 = some r) ∧ Aside0 (kq ≤ k) ∧ Aside0 (Below w.heap.size w w'))
 case atStart => exact ⟨(0), sqI, H', ⟨Nat.le_refl _⟩, ⟨sqB HB.out⟩⟩
 clear H'
 obtain ⟨x7_1, rfl, HA, HK1, HB⟩ := hrel
 cases gk with
 | zero => exact absurd HA.out (by simp [table_Right.l0])
 | succ k1 => ?_
 have H := HA.out
 clear HA
 simp only [table_Right.l0] at H
 by_cases c2 : x7_1 < (l0.length : Int)
 rotate_left
 · rw [if_neg c2] at H
   have c2b0 : decide (x7_1 < (l0.length : Int)) = false := decide_eq_false c2
   clear c2
   obtain rfl := Option.some.inj H
   go_wp2
   go_ret
   exact ⟨sqE, sqB HB.out⟩
 rw [if_pos c2] at H
 have c2b0 : decide (x7_1 < (l0.length : Int)) = true := decide_eq_true c2
 clear c2
 by_cases c3 : 0 ≤ x7_1
 rotate_left
 · rw [if_neg c3] at H
   exact absurd H (by simp)
 rw [if_pos c3] at H
 have c3b0 : decide (0 ≤ x7_1) = true := decide_eq_true c3
 clear c3
 by_cases c4 : x7_1 < (l0.length : Int)
 rotate_left
 · rw [if_neg c4] at H
   exact absurd H (by simp)
 rw [if_pos c4] at H
 have c4b0 : decide (x7_1 < (l0.length : Int)) = true := decide_eq_true c4
 clear c4
 replace H := Option.bind_eq_some_iff.mp H
 obtain ⟨t139, A50, H⟩ := H
 replace H : (if t139 = true then (if x7_1 > 0 then (if 0 ≤ (wrap64 (x7_1 - 1)) then (if (wrap64 (x7_1 - 1)) < (l0.length : Int) then (if ((rd_T34 l0 (wrap64 (x7_1 - 1))).f0) ≥ ((rd_T34 l0 x7_1).f0) then (some false) else (table_Right.l0 k1 l0 l0 (l0.length : Int) (wrap64 (x7_1 + 1)))) else (none)) else (none)) else (table_Right.l0 k1 l0 l0 (l0.length : Int) (wrap64 (x7_1 + 1)))) else (some false)) = some r := H
 have A5 := Aside0.mk A50
 clear A50
 by_cases c6 : t139 = true
 rotate_left
 · replace c6 := Bool.eq_false_iff.mpr c6
   subst c6
   have H1 : (some false) = some r := by rw [if_neg (show ¬ (false = true) by decide)] at H; exact H
   clear H
   have H := H1
   clear H1
   obtain rfl := Option.some.inj H
   have p137 : 0 ≤ (x7_1 : Int) := of_decide_eq_true sqH
   have q137 : x7_1 < (l0.length : Int) := of_decide_eq_true sqH
   obtain ⟨ad137, e137, hx137_0, hx137_1, hx137_2, hx137_3⟩ := at_T34 HR0.out x7_1 p137 q137
   cases e137
   replace hx137_0 := sqx HB.out hx137_0
   replace hx137_1 := sqx HB.out hx137_1
   replace hx137_2 := sqx HB.out hx137_2
   replace hx137_3 := sqx HB.out hx137_3
   replace p137 := eq_true p137
   replace q137 := eq_true q137
   try go_wp2_with (first | ((with_reducible refine gate_dst (N := 4) rfl ?_); refine box_event rfl (N := 4) rfl (cs := #[.int .i64 0, .int .i64 0, .int .i64 0, .string (⟨#[]⟩ : ByteArray)]) (t := 34) sqs ?_; intro gb138 hg w27 hbox hb; have BK138 := sqM (hbox); have GW138 := sqM (sqZ hg (sqB HB.out)); have GE138 := sqM (sqZ hg (sqB HB.out)); replace HB := sqM (below_step (sqB HB.out) hb); clear hb hbox hg; obtain ⟨hcz28_0, hcz28_1, hcz28_2, hcz28_3, hfz28_0, hfz28_1, hfz28_2, hfz28_3⟩ := sqF4 BK138.out))
   have n0_ : Aside0 (((((w27.setCell ⟨gb138, 0, none⟩ (.int .i64 ((rd_T34 l0 x7_1).f0))).setCell ⟨gb138, 1, none⟩ (.int .i64 ((rd_T34 l0 x7_1).f1))).setCell ⟨gb138, 2, none⟩ (.int .i64 ((rd_T34 l0 x7_1).f2))).setCell ⟨gb138, 3, none⟩ (.string ((rd_T34 l0 x7_1).f3))).heap[gb138]? = some (.cells #[.int .i64 ((rd_T34 l0 x7_1).f0), .int .i64 ((rd_T34 l0 x7_1).f1), .int .i64 ((rd_T34 l0 x7_1).f2), .string ((rd_T34 l0 x7_1).f3)] 34 (0, 0))) := ⟨by exact (sqP4 BK138.out)⟩
   have n1_ : Aside0 (Below w.heap.size w ((((w27.setCell ⟨gb138, 0, none⟩ (.int .i64 ((rd_T34 l0 x7_1).f0))).setCell ⟨gb138, 1, none⟩ (.int .i64 ((rd_T34 l0 x7_1).f1))).setCell ⟨gb138, 2, none⟩ (.int .i64 ((rd_T34 l0 x7_1).f2))).setCell ⟨gb138, 3, none⟩ (.string ((rd_T34 l0 x7_1).f3)))) := ⟨sqB1 HB.out GE138.out⟩
   (try clear BK138)
   (try clear HB)
   generalize ((((w27.setCell ⟨gb138, 0, none⟩ (.int .i64 ((rd_T34 l0 x7_1).f0))).setCell ⟨gb138, 1, none⟩ (.int .i64 ((rd_T34 l0 x7_1).f1))).setCell ⟨gb138, 2, none⟩ (.int .i64 ((rd_T34 l0 x7_1).f2))).setCell ⟨gb138, 3, none⟩ (.string ((rd_T34 l0 x7_1).f3))) = w29 at n0_ n1_ ⊢
   have BK138 := n0_
   have HB := n1_
   clear n0_ n1_
   replace BK138 := Aside0.mk (blk_drew BK138.out)
   replace HB := Aside0.mk (below_drew1 HB.out)
   refine start_ (n := 18) (S := fun w' => w'.cell? ⟨gb138, 0, none⟩ = some (.int .i64 ((rd_T34 l0 x7_1).f0)) ∧ w'.cell? ⟨gb138, 1, none⟩ = some (.int .i64 ((rd_T34 l0 x7_1).f1)) ∧ w'.cell? ⟨gb138, 2, none⟩ = some (.int .i64 ((rd_T34 l0 x7_1).f2)) ∧ w'.cell? ⟨gb138, 3, none⟩ = some (.string ((rd_T34 l0 x7_1).f3))) (ds := []) #[false, false, false, false, false, false, false, false, false, false, false, false, false, false, false, false, false, false] (by kernel_rfl) rfl rfl ⟨(blk_cell BK138.out 0).trans rfl, (blk_cell BK138.out 1).trans rfl, (blk_cell BK138.out 2).trans rfl, (blk_cell BK138.out 3).trans rfl⟩ (fun hHeld => ?_); refine with_tabW table_Right.tab4 table_Right.bits4 (fun HT_ HW_ => ?_)
   generalize w29.drew = w30 at BK138 HB hHeld ⊢
   refine take_ (i := 0) (N := some 12) (v := ?_) (a' := ?_) #[true, false, false, false, false, false, false, false, false, false, false, false, false, false, false, false, false, false] rfl rfl (take_ofW HT_.out HW_.out (by kernel_rfl)) (fun _ _ _ h => h) (Or.inl ⟨by rfl, ?_⟩) hHeld ?_ ?_
   rotate_left
   · rintro w' ⟨s0, s1, s2, s3⟩
     go_simp
     with_reducible rfl
   rotate_left
   · simp only [Act.put, List.setIfInBounds_toArray, List.set_cons_zero, List.set_cons_succ, i64_w, i32_w]
     rfl
   refine one_ (i := 1) (N := some 13) #[true, true, false, false, false, false, false, false, false, false, false, false, false, false, false, false, false, false] rfl rfl (one_of HT_.out (by kernel_rfl)) (by decide) (fun K hK => ?_)
   refine goes_ Try.func40 (by kernel_rfl) rfl #[.agg #[.int .i64 ((rd_T34 l0 x7_1).f0), .int .i64 ((rd_T34 l0 x7_1).f1), .int .i64 ((rd_T34 l0 x7_1).f2), .string ((rd_T34 l0 x7_1).f3)]] (by rfl) rfl rfl sqA ?_
   with_reducible refine (record_Right.calls _ _ _ _ _ _ A5.out).mono ?_
   rintro e w31 ⟨rfl, hb⟩
   refine ⟨_, rfl, ?_⟩
   replace BK138 := sqM (blk_below (sqK BK138.out) hb)
   replace HB := sqM (below_step (sqB1 HB.out GE138.out) hb)
   (try clear hb)
   (try clear hb2)
   (try clear hk)
   (try clear hi)
   refine hK.out _ _ ⟨(blk_cell BK138.out 0).trans rfl, (blk_cell BK138.out 1).trans rfl, (blk_cell BK138.out 2).trans rfl, (blk_cell BK138.out 3).trans rfl⟩ (fun hHeld => ?_)
   clear hK K
   refine norm_ (a' := ?_) ?_ ?_
   rotate_left
   · show Act.put _ (some 13) _ = _
     simp only [Act.put, List.setIfInBounds_toArray, List.set_cons_zero, List.set_cons_succ, i64_w, i32_w]
     rfl
   refine pure_ (i := 2) (N := some 14) (v := ?_) (a' := ?_) #[true, true, true, false, false, false, false, false, false, false, false, false, false, false, false, false, false, false] rfl rfl (any_of HT_.out (by kernel_rfl)) (fun _ _ _ h => h) (Or.inl ⟨by rfl, ?_⟩) ?_ ?_
   rotate_left
   · intro w'
     go_simp
     with_reducible rfl
   rotate_left
   · simp only [Act.put, List.setIfInBounds_toArray, List.set_cons_zero, List.set_cons_succ, i64_w, i32_w]
     rfl
   refine pure_ (i := 3) (N := some 15) (v := ?_) (a' := ?_) #[true, true, true, true, false, false, false, false, false, false, false, false, false, false, false, false, false, false] rfl rfl (any_of HT_.out (by kernel_rfl)) (fun _ _ _ h => h) (Or.inl ⟨by rfl, ?_⟩) ?_ ?_
   rotate_left
   · intro w'
     go_simp
     with_reducible rfl
   rotate_left
   · simp only [Act.put, List.setIfInBounds_toArray, List.set_cons_zero, List.set_cons_succ, i64_w, i32_w]
     rfl
   refine pure_ (i := 4) (N := some 16) (v := undef) (a' := ?_) #[true, true, true, true, true, false, false, false, false, false, false, false, false, false, false, false, false, false] rfl rfl (any_of HT_.out (by kernel_rfl)) (fun _ _ _ h => h) (Or.inr ⟨by rfl, rfl⟩) ?_ ?_
   rotate_left
   · simp only [Act.put, List.setIfInBounds_toArray, List.set_cons_zero, List.set_cons_succ, i64_w, i32_w]
     rfl
   refine pure_ (i := 5) (N := some 17) (v := undef) (a' := ?_) #[true, true, true, true, true, true, false, false, false, false, false, false, false, false, false, false, false, false] rfl rfl (any_of HT_.out (by kernel_rfl)) (fun _ _ _ h => h) (Or.inr ⟨by rfl, rfl⟩) ?_ ?_
   rotate_left
   · simp only [Act.put, List.setIfInBounds_toArray, List.set_cons_zero, List.set_cons_succ, i64_w, i32_w]
     rfl
   refine pure_ (i := 6) (N := some 18) (v := undef) (a' := ?_) #[true, true, true, true, true, true, true, false, false, false, false, false, false, false, false, false, false, false] rfl rfl (any_of HT_.out (by kernel_rfl)) (fun _ _ _ h => h) (Or.inr ⟨by rfl, rfl⟩) ?_ ?_
   rotate_left
   · simp only [Act.put, List.setIfInBounds_toArray, List.set_cons_zero, List.set_cons_succ, i64_w, i32_w]
     rfl
   refine pure_ (i := 7) (N := some 19) (v := undef) (a' := ?_) #[true, true, true, true, true, true, true, true, false, false, false, false, false, false, false, false, false, false] rfl rfl (any_of HT_.out (by kernel_rfl)) (fun _ _ _ h => h) (Or.inr ⟨by rfl, rfl⟩) ?_ ?_
   rotate_left
   · simp only [Act.put, List.setIfInBounds_toArray, List.set_cons_zero, List.set_cons_succ, i64_w, i32_w]
     rfl
   refine pure_ (i := 8) (N := some 20) (v := undef) (a' := ?_) #[true, true, true, true, true, true, true, true, true, false, false, false, false, false, false, false, false, false] rfl rfl (any_of HT_.out (by kernel_rfl)) (fun _ _ _ h => h) (Or.inr ⟨by rfl, rfl⟩) ?_ ?_
   rotate_left
   · simp only [Act.put, List.setIfInBounds_toArray, List.set_cons_zero, List.set_cons_succ, i64_w, i32_w]
     rfl
   refine pure_ (i := 9) (N := some 21) (v := undef) (a' := ?_) #[true, true, true, true, true, true, true, true, true, true, false, false, false, false, false, false, false, false] rfl rfl (any_of HT_.out (by kernel_rfl)) (fun _ _ _ h => h) (Or.inr ⟨by rfl, rfl⟩) ?_ ?_
   rotate_left
   · simp only [Act.put, List.setIfInBounds_toArray, List.set_cons_zero, List.set_cons_succ, i64_w, i32_w]
     rfl
   refine pure_ (i := 10) (N := some 22) (v := undef) (a' := ?_) #[true, true, true, true, true, true, true, true, true, true, true, false, false, false, false, false, false, false] rfl rfl (any_of HT_.out (by kernel_rfl)) (fun _ _ _ h => h) (Or.inr ⟨by rfl, rfl⟩) ?_ ?_
   rotate_left
   · simp only [Act.put, List.setIfInBounds_toArray, List.set_cons_zero, List.set_cons_succ, i64_w, i32_w]
     rfl
   refine pure_ (i := 11) (N := some 23) (v := undef) (a' := ?_) #[true, true, true, true, true, true, true, true, true, true, true, true, false, false, false, false, false, false] rfl rfl (any_of HT_.out (by kernel_rfl)) (fun _ _ _ h => h) (Or.inr ⟨by rfl, rfl⟩) ?_ ?_
   rotate_left
   · simp only [Act.put, List.setIfInBounds_toArray, List.set_cons_zero, List.set_cons_succ, i64_w, i32_w]
     rfl
   refine pure_ (i := 12) (N := some 24) (v := undef) (a' := ?_) #[true, true, true, true, true, true, true, true, true, true, true, true, true, false, false, false, false, false] rfl rfl (any_of HT_.out (by kernel_rfl)) (fun _ _ _ h => h) (Or.inr ⟨by rfl, rfl⟩) ?_ ?_
   rotate_left
   · simp only [Act.put, List.setIfInBounds_toArray, List.set_cons_zero, List.set_cons_succ, i64_w, i32_w]
     rfl
   refine pure_ (i := 13) (N := some 25) (v := undef) (a' := ?_) #[true, true, true, true, true, true, true, true, true, true, true, true, true, true, false, false, false, false] rfl rfl (any_of HT_.out (by kernel_rfl)) (fun _ _ _ h => h) (Or.inr ⟨by rfl, rfl⟩) ?_ ?_
   rotate_left
   · simp only [Act.put, List.setIfInBounds_toArray, List.set_cons_zero, List.set_cons_succ, i64_w, i32_w]
     rfl
   refine pure_ (i := 14) (N := some 26) (v := undef) (a' := ?_) #[true, true, true, true, true, true, true, true, true, true, true, true, true, true, true, false, false, false] rfl rfl (any_of HT_.out (by kernel_rfl)) (fun _ _ _ h => h) (Or.inr ⟨by rfl, rfl⟩) ?_ ?_
   rotate_left
   · simp only [Act.put, List.setIfInBounds_toArray, List.set_cons_zero, List.set_cons_succ, i64_w, i32_w]
     rfl
   refine pure_ (i := 15) (N := some 27) (v := undef) (a' := ?_) #[true, true, true, true, true, true, true, true, true, true, true, true, true, true, true, true, false, false] rfl rfl (any_of HT_.out (by kernel_rfl)) (fun _ _ _ h => h) (Or.inr ⟨by rfl, rfl⟩) ?_ ?_
   rotate_left
   · simp only [Act.put, List.setIfInBounds_toArray, List.set_cons_zero, List.set_cons_succ, i64_w, i32_w]
     rfl
   refine pure_ (i := 16) (N := some 28) (v := undef) (a' := ?_) #[true, true, true, true, true, true, true, true, true, true, true, true, true, true, true, true, true, false] rfl rfl (any_of HT_.out (by kernel_rfl)) (fun _ _ _ h => h) (Or.inr ⟨by rfl, rfl⟩) ?_ ?_
   rotate_left
   · simp only [Act.put, List.setIfInBounds_toArray, List.set_cons_zero, List.set_cons_succ, i64_w, i32_w]
     rfl
   refine pure_ (i := 17) (N := some 29) (v := ?_) (a' := ?_) #[true, true, true, true, true, true, true, true, true, true, true, true, true, true, true, true, true, true] rfl rfl (any_of HT_.out (by kernel_rfl)) (fun _ _ _ h => h) (Or.inl ⟨by rfl, ?_⟩) ?_ ?_
   rotate_left
   · intro w'
     go_simp
     with_reducible rfl
   rotate_left
   · simp only [Act.put, List.setIfInBounds_toArray, List.set_cons_zero, List.set_cons_succ, i64_w, i32_w]
     rfl
   refine done_ (done_of HT_.out (by kernel_rfl)) ?_
   try go_wp2
   go_ret
   exact ⟨sqE, sqB1 HB.out GE138.out⟩
 subst c6
 have H1 : (if x7_1 > 0 then (if 0 ≤ (wrap64 (x7_1 - 1)) then (if (wrap64 (x7_1 - 1)) < (l0.length : Int) then (if ((rd_T34 l0 (wrap64 (x7_1 - 1))).f0) ≥ ((rd_T34 l0 x7_1).f0) then (some false) else (table_Right.l0 k1 l0 l0 (l0.length : Int) (wrap64 (x7_1 + 1)))) else (none)) else (none)) else (table_Right.l0 k1 l0 l0 (l0.length : Int) (wrap64 (x7_1 + 1)))) = some r := by rw [if_pos rfl] at H; exact H
 clear H
 have H := H1
 clear H1
 by_cases c7 : x7_1 > 0
 rotate_left
 · rw [if_neg c7] at H
   have c7b0 : decide (0 < x7_1) = false := decide_eq_false c7
   clear c7
   have H' := Aside0.mk H
   clear H
   have p137 : 0 ≤ (x7_1 : Int) := of_decide_eq_true sqH
   have q137 : x7_1 < (l0.length : Int) := of_decide_eq_true sqH
   obtain ⟨ad137, e137, hx137_0, hx137_1, hx137_2, hx137_3⟩ := at_T34 HR0.out x7_1 p137 q137
   cases e137
   replace hx137_0 := sqx HB.out hx137_0
   replace hx137_1 := sqx HB.out hx137_1
   replace hx137_2 := sqx HB.out hx137_2
   replace hx137_3 := sqx HB.out hx137_3
   replace p137 := eq_true p137
   replace q137 := eq_true q137
   try go_wp2_with (first | ((with_reducible refine gate_dst (N := 4) rfl ?_); refine box_event rfl (N := 4) rfl (cs := #[.int .i64 0, .int .i64 0, .int .i64 0, .string (⟨#[]⟩ : ByteArray)]) (t := 34) sqs ?_; intro gb138 hg w22 hbox hb; have BK138 := sqM (hbox); have GW138 := sqM (sqZ hg (sqB HB.out)); have GE138 := sqM (sqZ hg (sqB HB.out)); replace HB := sqM (below_step (sqB HB.out) hb); clear hb hbox hg; obtain ⟨hcz23_0, hcz23_1, hcz23_2, hcz23_3, hfz23_0, hfz23_1, hfz23_2, hfz23_3⟩ := sqF4 BK138.out))
   have n0_ : Aside0 (((((w22.setCell ⟨gb138, 0, none⟩ (.int .i64 ((rd_T34 l0 x7_1).f0))).setCell ⟨gb138, 1, none⟩ (.int .i64 ((rd_T34 l0 x7_1).f1))).setCell ⟨gb138, 2, none⟩ (.int .i64 ((rd_T34 l0 x7_1).f2))).setCell ⟨gb138, 3, none⟩ (.string ((rd_T34 l0 x7_1).f3))).heap[gb138]? = some (.cells #[.int .i64 ((rd_T34 l0 x7_1).f0), .int .i64 ((rd_T34 l0 x7_1).f1), .int .i64 ((rd_T34 l0 x7_1).f2), .string ((rd_T34 l0 x7_1).f3)] 34 (0, 0))) := ⟨by exact (sqP4 BK138.out)⟩
   have n1_ : Aside0 (Below w.heap.size w ((((w22.setCell ⟨gb138, 0, none⟩ (.int .i64 ((rd_T34 l0 x7_1).f0))).setCell ⟨gb138, 1, none⟩ (.int .i64 ((rd_T34 l0 x7_1).f1))).setCell ⟨gb138, 2, none⟩ (.int .i64 ((rd_T34 l0 x7_1).f2))).setCell ⟨gb138, 3, none⟩ (.string ((rd_T34 l0 x7_1).f3)))) := ⟨sqB1 HB.out GE138.out⟩
   (try clear BK138)
   (try clear HB)
   generalize ((((w22.setCell ⟨gb138, 0, none⟩ (.int .i64 ((rd_T34 l0 x7_1).f0))).setCell ⟨gb138, 1, none⟩ (.int .i64 ((rd_T34 l0 x7_1).f1))).setCell ⟨gb138, 2, none⟩ (.int .i64 ((rd_T34 l0 x7_1).f2))).setCell ⟨gb138, 3, none⟩ (.string ((rd_T34 l0 x7_1).f3))) = w24 at n0_ n1_ ⊢
   have BK138 := n0_
   have HB := n1_
   clear n0_ n1_
   replace BK138 := Aside0.mk (blk_drew BK138.out)
   replace HB := Aside0.mk (below_drew1 HB.out)
   refine start_ (n := 18) (S := fun w' => w'.cell? ⟨gb138, 0, none⟩ = some (.int .i64 ((rd_T34 l0 x7_1).f0)) ∧ w'.cell? ⟨gb138, 1, none⟩ = some (.int .i64 ((rd_T34 l0 x7_1).f1)) ∧ w'.cell? ⟨gb138, 2, none⟩ = some (.int .i64 ((rd_T34 l0 x7_1).f2)) ∧ w'.cell? ⟨gb138, 3, none⟩ = some (.string ((rd_T34 l0 x7_1).f3))) (ds := []) #[false, false, false, false, false, false, false, false, false, false, false, false, false, false, false, false, false, false] (by kernel_rfl) rfl rfl ⟨(blk_cell BK138.out 0).trans rfl, (blk_cell BK138.out 1).trans rfl, (blk_cell BK138.out 2).trans rfl, (blk_cell BK138.out 3).trans rfl⟩ (fun hHeld => ?_); refine with_tabW table_Right.tab4 table_Right.bits4 (fun HT_ HW_ => ?_)
   generalize w24.drew = w25 at BK138 HB hHeld ⊢
   refine take_ (i := 0) (N := some 12) (v := ?_) (a' := ?_) #[true, false, false, false, false, false, false, false, false, false, false, false, false, false, false, false, false, false] rfl rfl (take_ofW HT_.out HW_.out (by kernel_rfl)) (fun _ _ _ h => h) (Or.inl ⟨by rfl, ?_⟩) hHeld ?_ ?_
   rotate_left
   · rintro w' ⟨s0, s1, s2, s3⟩
     go_simp
     with_reducible rfl
   rotate_left
   · simp only [Act.put, List.setIfInBounds_toArray, List.set_cons_zero, List.set_cons_succ, i64_w, i32_w]
     rfl
   refine one_ (i := 1) (N := some 13) #[true, true, false, false, false, false, false, false, false, false, false, false, false, false, false, false, false, false] rfl rfl (one_of HT_.out (by kernel_rfl)) (by decide) (fun K hK => ?_)
   refine goes_ Try.func40 (by kernel_rfl) rfl #[.agg #[.int .i64 ((rd_T34 l0 x7_1).f0), .int .i64 ((rd_T34 l0 x7_1).f1), .int .i64 ((rd_T34 l0 x7_1).f2), .string ((rd_T34 l0 x7_1).f3)]] (by rfl) rfl rfl sqA ?_
   with_reducible refine (record_Right.calls _ _ _ _ _ _ A5.out).mono ?_
   rintro e w26 ⟨rfl, hb⟩
   refine ⟨_, rfl, ?_⟩
   replace BK138 := sqM (blk_below (sqK BK138.out) hb)
   replace HB := sqM (below_step (sqB1 HB.out GE138.out) hb)
   (try clear hb)
   (try clear hb2)
   (try clear hk)
   (try clear hi)
   refine hK.out _ _ ⟨(blk_cell BK138.out 0).trans rfl, (blk_cell BK138.out 1).trans rfl, (blk_cell BK138.out 2).trans rfl, (blk_cell BK138.out 3).trans rfl⟩ (fun hHeld => ?_)
   clear hK K
   refine norm_ (a' := ?_) ?_ ?_
   rotate_left
   · show Act.put _ (some 13) _ = _
     simp only [Act.put, List.setIfInBounds_toArray, List.set_cons_zero, List.set_cons_succ, i64_w, i32_w]
     rfl
   refine pure_ (i := 2) (N := some 14) (v := ?_) (a' := ?_) #[true, true, true, false, false, false, false, false, false, false, false, false, false, false, false, false, false, false] rfl rfl (any_of HT_.out (by kernel_rfl)) (fun _ _ _ h => h) (Or.inl ⟨by rfl, ?_⟩) ?_ ?_
   rotate_left
   · intro w'
     go_simp
     with_reducible rfl
   rotate_left
   · simp only [Act.put, List.setIfInBounds_toArray, List.set_cons_zero, List.set_cons_succ, i64_w, i32_w]
     rfl
   refine pure_ (i := 3) (N := some 15) (v := ?_) (a' := ?_) #[true, true, true, true, false, false, false, false, false, false, false, false, false, false, false, false, false, false] rfl rfl (any_of HT_.out (by kernel_rfl)) (fun _ _ _ h => h) (Or.inl ⟨by rfl, ?_⟩) ?_ ?_
   rotate_left
   · intro w'
     go_simp
     with_reducible rfl
   rotate_left
   · simp only [Act.put, List.setIfInBounds_toArray, List.set_cons_zero, List.set_cons_succ, i64_w, i32_w]
     rfl
   refine pure_ (i := 4) (N := some 16) (v := ?_) (a' := ?_) #[true, true, true, true, true, false, false, false, false, false, false, false, false, false, false, false, false, false] rfl rfl (any_of HT_.out (by kernel_rfl)) (fun _ _ _ h => h) (Or.inl ⟨by rfl, ?_⟩) ?_ ?_
   rotate_left
   · intro w'
     go_simp
     with_reducible rfl
   rotate_left
   · simp only [Act.put, List.setIfInBounds_toArray, List.set_cons_zero, List.set_cons_succ, i64_w, i32_w]
     rfl
   refine pure_ (i := 5) (N := some 17) (v := ?_) (a' := ?_) #[true, true, true, true, true, true, false, false, false, false, false, false, false, false, false, false, false, false] rfl rfl (any_of HT_.out (by kernel_rfl)) (fun _ _ _ h => h) (Or.inl ⟨by rfl, ?_⟩) ?_ ?_
   rotate_left
   · intro w'
     go_simp
     with_reducible rfl
   rotate_left
   · simp only [Act.put, List.setIfInBounds_toArray, List.set_cons_zero, List.set_cons_succ, i64_w, i32_w]
     rfl
   refine pure_ (i := 6) (N := some 18) (v := ?_) (a' := ?_) #[true, true, true, true, true, true, true, false, false, false, false, false, false, false, false, false, false, false] rfl rfl (any_of HT_.out (by kernel_rfl)) (fun _ _ _ h => h) (Or.inl ⟨by rfl, ?_⟩) ?_ ?_
   rotate_left
   · intro w'
     go_simp
     with_reducible rfl
   rotate_left
   · simp only [Act.put, List.setIfInBounds_toArray, List.set_cons_zero, List.set_cons_succ, i64_w, i32_w]
     rfl
   refine pure_ (i := 7) (N := some 19) (v := undef) (a' := ?_) #[true, true, true, true, true, true, true, true, false, false, false, false, false, false, false, false, false, false] rfl rfl (any_of HT_.out (by kernel_rfl)) (fun _ _ _ h => h) (Or.inr ⟨by rfl, rfl⟩) ?_ ?_
   rotate_left
   · simp only [Act.put, List.setIfInBounds_toArray, List.set_cons_zero, List.set_cons_succ, i64_w, i32_w]
     rfl
   refine pure_ (i := 8) (N := some 20) (v := undef) (a' := ?_) #[true, true, true, true, true, true, true, true, true, false, false, false, false, false, false, false, false, false] rfl rfl (any_of HT_.out (by kernel_rfl)) (fun _ _ _ h => h) (Or.inr ⟨by rfl, rfl⟩) ?_ ?_
   rotate_left
   · simp only [Act.put, List.setIfInBounds_toArray, List.set_cons_zero, List.set_cons_succ, i64_w, i32_w]
     rfl
   refine pure_ (i := 9) (N := some 21) (v := undef) (a' := ?_) #[true, true, true, true, true, true, true, true, true, true, false, false, false, false, false, false, false, false] rfl rfl (any_of HT_.out (by kernel_rfl)) (fun _ _ _ h => h) (Or.inr ⟨by rfl, rfl⟩) ?_ ?_
   rotate_left
   · simp only [Act.put, List.setIfInBounds_toArray, List.set_cons_zero, List.set_cons_succ, i64_w, i32_w]
     rfl
   refine pure_ (i := 10) (N := some 22) (v := undef) (a' := ?_) #[true, true, true, true, true, true, true, true, true, true, true, false, false, false, false, false, false, false] rfl rfl (any_of HT_.out (by kernel_rfl)) (fun _ _ _ h => h) (Or.inr ⟨by rfl, rfl⟩) ?_ ?_
   rotate_left
   · simp only [Act.put, List.setIfInBounds_toArray, List.set_cons_zero, List.set_cons_succ, i64_w, i32_w]
     rfl
   refine pure_ (i := 11) (N := some 23) (v := undef) (a' := ?_) #[true, true, true, true, true, true, true, true, true, true, true, true, false, false, false, false, false, false] rfl rfl (any_of HT_.out (by kernel_rfl)) (fun _ _ _ h => h) (Or.inr ⟨by rfl, rfl⟩) ?_ ?_
   rotate_left
   · simp only [Act.put, List.setIfInBounds_toArray, List.set_cons_zero, List.set_cons_succ, i64_w, i32_w]
     rfl
   refine pure_ (i := 12) (N := some 24) (v := undef) (a' := ?_) #[true, true, true, true, true, true, true, true, true, true, true, true, true, false, false, false, false, false] rfl rfl (any_of HT_.out (by kernel_rfl)) (fun _ _ _ h => h) (Or.inr ⟨by rfl, rfl⟩) ?_ ?_
   rotate_left
   · simp only [Act.put, List.setIfInBounds_toArray, List.set_cons_zero, List.set_cons_succ, i64_w, i32_w]
     rfl
   refine pure_ (i := 13) (N := some 25) (v := undef) (a' := ?_) #[true, true, true, true, true, true, true, true, true, true, true, true, true, true, false, false, false, false] rfl rfl (any_of HT_.out (by kernel_rfl)) (fun _ _ _ h => h) (Or.inr ⟨by rfl, rfl⟩) ?_ ?_
   rotate_left
   · simp only [Act.put, List.setIfInBounds_toArray, List.set_cons_zero, List.set_cons_succ, i64_w, i32_w]
     rfl
   refine pure_ (i := 14) (N := some 26) (v := undef) (a' := ?_) #[true, true, true, true, true, true, true, true, true, true, true, true, true, true, true, false, false, false] rfl rfl (any_of HT_.out (by kernel_rfl)) (fun _ _ _ h => h) (Or.inr ⟨by rfl, rfl⟩) ?_ ?_
   rotate_left
   · simp only [Act.put, List.setIfInBounds_toArray, List.set_cons_zero, List.set_cons_succ, i64_w, i32_w]
     rfl
   refine pure_ (i := 15) (N := some 27) (v := undef) (a' := ?_) #[true, true, true, true, true, true, true, true, true, true, true, true, true, true, true, true, false, false] rfl rfl (any_of HT_.out (by kernel_rfl)) (fun _ _ _ h => h) (Or.inr ⟨by rfl, rfl⟩) ?_ ?_
   rotate_left
   · simp only [Act.put, List.setIfInBounds_toArray, List.set_cons_zero, List.set_cons_succ, i64_w, i32_w]
     rfl
   refine pure_ (i := 16) (N := some 28) (v := ?_) (a' := ?_) #[true, true, true, true, true, true, true, true, true, true, true, true, true, true, true, true, true, false] rfl rfl (any_of HT_.out (by kernel_rfl)) (fun _ _ _ h => h) (Or.inl ⟨by rfl, ?_⟩) ?_ ?_
   rotate_left
   · intro w'
     go_simp
     with_reducible rfl
   rotate_left
   · simp only [Act.put, List.setIfInBounds_toArray, List.set_cons_zero, List.set_cons_succ, i64_w, i32_w]
     rfl
   refine pure_ (i := 17) (N := some 29) (v := ?_) (a' := ?_) #[true, true, true, true, true, true, true, true, true, true, true, true, true, true, true, true, true, true] rfl rfl (any_of HT_.out (by kernel_rfl)) (fun _ _ _ h => h) (Or.inl ⟨by rfl, ?_⟩) ?_ ?_
   rotate_left
   · intro w'
     go_simp
     with_reducible rfl
   rotate_left
   · simp only [Act.put, List.setIfInBounds_toArray, List.set_cons_zero, List.set_cons_succ, i64_w, i32_w]
     rfl
   refine done_ (done_of HT_.out (by kernel_rfl)) ?_
   try go_wp2
   go_roundg k1
   case measure => have := HK1.out; omega
   case rel => exact ⟨(wrap64 (x7_1 + 1)), sqI, H', ⟨by have := HK1.out; omega⟩, ⟨sqB1 HB.out GE138.out⟩⟩
 rw [if_pos c7] at H
 have c7b0 : decide (0 < x7_1) = true := decide_eq_true c7
 clear c7
 obtain ⟨ji8, hji8⟩ : ∃ j_ : Int, (wrap64 (x7_1 - 1)) = j_ := ⟨_, rfl⟩
 replace H : (if 0 ≤ (ji8) then (if (ji8) < (l0.length : Int) then (if ((rd_T34 l0 (ji8)).f0) ≥ ((rd_T34 l0 x7_1).f0) then (some false) else (table_Right.l0 k1 l0 l0 (l0.length : Int) (wrap64 (x7_1 + 1)))) else (none)) else (none)) = some r := by first | (rw [hji8] at H; exact H) | (simp only [hji8] at H ⊢; exact H)
 (try rw [hji8] at A5)
 have hji8w : (IntKind.i64.wrap (x7_1 - 1)) = ji8 := (i64_w _).trans hji8
 by_cases c9 : 0 ≤ (ji8)
 rotate_left
 · rw [if_neg c9] at H
   exact absurd H (by simp)
 rw [if_pos c9] at H
 have c9b0 : decide (0 ≤ (ji8)) = true := decide_eq_true c9
 clear c9
 by_cases c10 : (ji8) < (l0.length : Int)
 rotate_left
 · rw [if_neg c10] at H
   exact absurd H (by simp)
 rw [if_pos c10] at H
 have c10b0 : decide ((ji8) < (l0.length : Int)) = true := decide_eq_true c10
 clear c10
 by_cases c11 : ((rd_T34 l0 (ji8)).f0) ≥ ((rd_T34 l0 x7_1).f0)
 · rw [if_pos c11] at H
   have c11b0 : decide (((rd_T34 l0 x7_1).f0) ≤ ((rd_T34 l0 (ji8)).f0)) = true := decide_eq_true c11
   clear c11
   obtain rfl := Option.some.inj H
   have p137 : 0 ≤ (x7_1 : Int) := of_decide_eq_true sqH
   have q137 : x7_1 < (l0.length : Int) := of_decide_eq_true sqH
   obtain ⟨ad137, e137, hx137_0, hx137_1, hx137_2, hx137_3⟩ := at_T34 HR0.out x7_1 p137 q137
   cases e137
   replace hx137_0 := sqx HB.out hx137_0
   replace hx137_1 := sqx HB.out hx137_1
   replace hx137_2 := sqx HB.out hx137_2
   replace hx137_3 := sqx HB.out hx137_3
   replace p137 := eq_true p137
   replace q137 := eq_true q137
   try go_wp2_with (first | ((with_reducible refine gate_dst (N := 4) rfl ?_); refine box_event rfl (N := 4) rfl (cs := #[.int .i64 0, .int .i64 0, .int .i64 0, .string (⟨#[]⟩ : ByteArray)]) (t := 34) sqs ?_; intro gb138 hg w12 hbox hb; have BK138 := sqM (hbox); have GW138 := sqM (sqZ hg (sqB HB.out)); have GE138 := sqM (sqZ hg (sqB HB.out)); replace HB := sqM (below_step (sqB HB.out) hb); clear hb hbox hg; obtain ⟨hcz13_0, hcz13_1, hcz13_2, hcz13_3, hfz13_0, hfz13_1, hfz13_2, hfz13_3⟩ := sqF4 BK138.out))
   have n0_ : Aside0 (((((w12.setCell ⟨gb138, 0, none⟩ (.int .i64 ((rd_T34 l0 x7_1).f0))).setCell ⟨gb138, 1, none⟩ (.int .i64 ((rd_T34 l0 x7_1).f1))).setCell ⟨gb138, 2, none⟩ (.int .i64 ((rd_T34 l0 x7_1).f2))).setCell ⟨gb138, 3, none⟩ (.string ((rd_T34 l0 x7_1).f3))).heap[gb138]? = some (.cells #[.int .i64 ((rd_T34 l0 x7_1).f0), .int .i64 ((rd_T34 l0 x7_1).f1), .int .i64 ((rd_T34 l0 x7_1).f2), .string ((rd_T34 l0 x7_1).f3)] 34 (0, 0))) := ⟨by exact (sqP4 BK138.out)⟩
   have n1_ : Aside0 (Below w.heap.size w ((((w12.setCell ⟨gb138, 0, none⟩ (.int .i64 ((rd_T34 l0 x7_1).f0))).setCell ⟨gb138, 1, none⟩ (.int .i64 ((rd_T34 l0 x7_1).f1))).setCell ⟨gb138, 2, none⟩ (.int .i64 ((rd_T34 l0 x7_1).f2))).setCell ⟨gb138, 3, none⟩ (.string ((rd_T34 l0 x7_1).f3)))) := ⟨sqB1 HB.out GE138.out⟩
   (try clear BK138)
   (try clear HB)
   generalize ((((w12.setCell ⟨gb138, 0, none⟩ (.int .i64 ((rd_T34 l0 x7_1).f0))).setCell ⟨gb138, 1, none⟩ (.int .i64 ((rd_T34 l0 x7_1).f1))).setCell ⟨gb138, 2, none⟩ (.int .i64 ((rd_T34 l0 x7_1).f2))).setCell ⟨gb138, 3, none⟩ (.string ((rd_T34 l0 x7_1).f3))) = w14 at n0_ n1_ ⊢
   have BK138 := n0_
   have HB := n1_
   clear n0_ n1_
   replace BK138 := sqM (blk_drew BK138.out)
   replace HB := sqM (below_drew1 HB.out)
   have p140 : 0 ≤ ((ji8) : Int) := of_decide_eq_true sqH
   have q140 : (ji8) < (l0.length : Int) := of_decide_eq_true sqH
   obtain ⟨ad140, e140, hx140_0, hx140_1, hx140_2, hx140_3⟩ := at_T34 HR0.out (ji8) p140 q140
   have hw140_3 := hx140_3
   have hw140_2 := hx140_2
   have hw140_1 := hx140_1
   have hw140_0 := hx140_0
   obtain rfl : ad137 = ad140 := (by injection e140)
   replace hx140_0 := sqx HB.out hx140_0
   replace hx140_1 := sqx HB.out hx140_1
   replace hx140_2 := sqx HB.out hx140_2
   replace hx140_3 := sqx HB.out hx140_3
   replace p140 := eq_true p140
   replace q140 := eq_true q140
   refine start_ (n := 18) (S := fun w' => w'.cell? ⟨gb138, 0, none⟩ = some (.int .i64 ((rd_T34 l0 x7_1).f0)) ∧ w'.cell? ⟨gb138, 1, none⟩ = some (.int .i64 ((rd_T34 l0 x7_1).f1)) ∧ w'.cell? ⟨gb138, 2, none⟩ = some (.int .i64 ((rd_T34 l0 x7_1).f2)) ∧ w'.cell? ⟨gb138, 3, none⟩ = some (.string ((rd_T34 l0 x7_1).f3)) ∧ w'.cell? (ad137.add (((ji8)).toNat * 4)) = some (.int .i64 ((rd_T34 l0 (ji8)).f0)) ∧ w'.cell? ⟨(ad137.add (((ji8)).toNat * 4)).block, (ad137.add (((ji8)).toNat * 4)).off + 1, none⟩ = some (.int .i64 ((rd_T34 l0 (ji8)).f1)) ∧ w'.cell? ⟨(ad137.add (((ji8)).toNat * 4)).block, (ad137.add (((ji8)).toNat * 4)).off + 2, none⟩ = some (.int .i64 ((rd_T34 l0 (ji8)).f2)) ∧ w'.cell? ⟨(ad137.add (((ji8)).toNat * 4)).block, (ad137.add (((ji8)).toNat * 4)).off + 3, none⟩ = some (.string ((rd_T34 l0 (ji8)).f3))) (ds := []) #[false, false, false, false, false, false, false, false, false, false, false, false, false, false, false, false, false, false] (by kernel_rfl) rfl rfl ⟨(blk_cell BK138.out 0).trans rfl, (blk_cell BK138.out 1).trans rfl, (blk_cell BK138.out 2).trans rfl, (blk_cell BK138.out 3).trans rfl, ((HB.out.cell (World.block_lt_of_cell? w _ hw140_0)).trans hw140_0), ((HB.out.cell (World.block_lt_of_cell? w _ hw140_1)).trans hw140_1), ((HB.out.cell (World.block_lt_of_cell? w _ hw140_2)).trans hw140_2), ((HB.out.cell (World.block_lt_of_cell? w _ hw140_3)).trans hw140_3)⟩ (fun hHeld => ?_); refine with_tabW table_Right.tab4 table_Right.bits4 (fun HT_ HW_ => ?_)
   generalize w14.drew = w15 at BK138 HB hx140_0 hx140_1 hx140_2 hx140_3 hHeld ⊢
   refine take_ (i := 0) (N := some 12) (v := ?_) (a' := ?_) #[true, false, false, false, false, false, false, false, false, false, false, false, false, false, false, false, false, false] rfl rfl (take_ofW HT_.out HW_.out (by kernel_rfl)) (fun _ _ _ h => h) (Or.inl ⟨by rfl, ?_⟩) hHeld ?_ ?_
   rotate_left
   · rintro w' ⟨s0, s1, s2, s3, s4, s5, s6, s7⟩
     go_simp
     with_reducible rfl
   rotate_left
   · simp only [Act.put, List.setIfInBounds_toArray, List.set_cons_zero, List.set_cons_succ, i64_w, i32_w]
     rfl
   refine one_ (i := 1) (N := some 13) #[true, true, false, false, false, false, false, false, false, false, false, false, false, false, false, false, false, false] rfl rfl (one_of HT_.out (by kernel_rfl)) (by decide) (fun K hK => ?_)
   refine goes_ Try.func40 (by kernel_rfl) rfl #[.agg #[.int .i64 ((rd_T34 l0 x7_1).f0), .int .i64 ((rd_T34 l0 x7_1).f1), .int .i64 ((rd_T34 l0 x7_1).f2), .string ((rd_T34 l0 x7_1).f3)]] (by rfl) rfl rfl sqA ?_
   with_reducible refine (record_Right.calls _ _ _ _ _ _ A5.out).mono ?_
   rintro e w16 ⟨rfl, hb⟩
   refine ⟨_, rfl, ?_⟩
   replace BK138 := sqM (blk_below (sqK BK138.out) hb)
   replace HB := sqM (below_step (sqB1 HB.out GE138.out) hb)
   (try clear hb)
   (try clear hb2)
   (try clear hk)
   (try clear hi)
   refine hK.out _ _ ⟨(blk_cell BK138.out 0).trans rfl, (blk_cell BK138.out 1).trans rfl, (blk_cell BK138.out 2).trans rfl, (blk_cell BK138.out 3).trans rfl, ((HB.out.cell (World.block_lt_of_cell? w _ hw140_0)).trans hw140_0), ((HB.out.cell (World.block_lt_of_cell? w _ hw140_1)).trans hw140_1), ((HB.out.cell (World.block_lt_of_cell? w _ hw140_2)).trans hw140_2), ((HB.out.cell (World.block_lt_of_cell? w _ hw140_3)).trans hw140_3)⟩ (fun hHeld => ?_)
   clear hK K
   refine norm_ (a' := ?_) ?_ ?_
   rotate_left
   · show Act.put _ (some 13) _ = _
     simp only [Act.put, List.setIfInBounds_toArray, List.set_cons_zero, List.set_cons_succ, i64_w, i32_w]
     rfl
   refine pure_ (i := 2) (N := some 14) (v := ?_) (a' := ?_) #[true, true, true, false, false, false, false, false, false, false, false, false, false, false, false, false, false, false] rfl rfl (any_of HT_.out (by kernel_rfl)) (fun _ _ _ h => h) (Or.inl ⟨by rfl, ?_⟩) ?_ ?_
   rotate_left
   · intro w'
     go_simp
     with_reducible rfl
   rotate_left
   · simp only [Act.put, List.setIfInBounds_toArray, List.set_cons_zero, List.set_cons_succ, i64_w, i32_w]
     rfl
   refine pure_ (i := 3) (N := some 15) (v := ?_) (a' := ?_) #[true, true, true, true, false, false, false, false, false, false, false, false, false, false, false, false, false, false] rfl rfl (any_of HT_.out (by kernel_rfl)) (fun _ _ _ h => h) (Or.inl ⟨by rfl, ?_⟩) ?_ ?_
   rotate_left
   · intro w'
     go_simp
     with_reducible rfl
   rotate_left
   · simp only [Act.put, List.setIfInBounds_toArray, List.set_cons_zero, List.set_cons_succ, i64_w, i32_w]
     rfl
   refine pure_ (i := 4) (N := some 16) (v := ?_) (a' := ?_) #[true, true, true, true, true, false, false, false, false, false, false, false, false, false, false, false, false, false] rfl rfl (any_of HT_.out (by kernel_rfl)) (fun _ _ _ h => h) (Or.inl ⟨by rfl, ?_⟩) ?_ ?_
   rotate_left
   · intro w'
     go_simp
     with_reducible rfl
   rotate_left
   · simp only [Act.put, List.setIfInBounds_toArray, List.set_cons_zero, List.set_cons_succ, i64_w, i32_w]
     rfl
   refine pure_ (i := 5) (N := some 17) (v := ?_) (a' := ?_) #[true, true, true, true, true, true, false, false, false, false, false, false, false, false, false, false, false, false] rfl rfl (any_of HT_.out (by kernel_rfl)) (fun _ _ _ h => h) (Or.inl ⟨by rfl, ?_⟩) ?_ ?_
   rotate_left
   · intro w'
     go_simp
     with_reducible rfl
   rotate_left
   · simp only [Act.put, List.setIfInBounds_toArray, List.set_cons_zero, List.set_cons_succ, i64_w, i32_w]
     rfl
   refine pure_ (i := 6) (N := some 18) (v := ?_) (a' := ?_) #[true, true, true, true, true, true, true, false, false, false, false, false, false, false, false, false, false, false] rfl rfl (any_of HT_.out (by kernel_rfl)) (fun _ _ _ h => h) (Or.inl ⟨by rfl, ?_⟩) ?_ ?_
   rotate_left
   · intro w'
     go_simp
     with_reducible rfl
   rotate_left
   · simp only [Act.put, List.setIfInBounds_toArray, List.set_cons_zero, List.set_cons_succ, i64_w, i32_w]
     rfl
   refine pure_ (i := 7) (N := some 19) (v := ?_) (a' := ?_) #[true, true, true, true, true, true, true, true, false, false, false, false, false, false, false, false, false, false] rfl rfl (any_of HT_.out (by kernel_rfl)) (fun _ _ _ h => h) (Or.inl ⟨by rfl, ?_⟩) ?_ ?_
   rotate_left
   · intro w'
     go_simp
     with_reducible rfl
   rotate_left
   · simp only [Act.put, List.setIfInBounds_toArray, List.set_cons_zero, List.set_cons_succ, i64_w, i32_w]
     rfl
   refine pure_ (i := 8) (N := some 20) (v := ?_) (a' := ?_) #[true, true, true, true, true, true, true, true, true, false, false, false, false, false, false, false, false, false] rfl rfl (any_of HT_.out (by kernel_rfl)) (fun _ _ _ h => h) (Or.inl ⟨by rfl, ?_⟩) ?_ ?_
   rotate_left
   · intro w'
     go_simp
     with_reducible rfl
   rotate_left
   · simp only [Act.put, List.setIfInBounds_toArray, List.set_cons_zero, List.set_cons_succ, i64_w, i32_w]
     rfl
   refine pure_ (i := 9) (N := some 21) (v := ?_) (a' := ?_) #[true, true, true, true, true, true, true, true, true, true, false, false, false, false, false, false, false, false] rfl rfl (any_of HT_.out (by kernel_rfl)) (fun _ _ _ h => h) (Or.inl ⟨by rfl, ?_⟩) ?_ ?_
   rotate_left
   · intro w'
     go_simp
     with_reducible rfl
   rotate_left
   · simp only [Act.put, List.setIfInBounds_toArray, List.set_cons_zero, List.set_cons_succ, i64_w, i32_w]
     rfl
   refine pure_ (i := 10) (N := some 22) (v := ?_) (a' := ?_) #[true, true, true, true, true, true, true, true, true, true, true, false, false, false, false, false, false, false] rfl rfl (any_of HT_.out (by kernel_rfl)) (fun _ _ _ h => h) (Or.inl ⟨by rfl, ?_⟩) ?_ ?_
   rotate_left
   · intro w'
     go_simp
     with_reducible rfl
   rotate_left
   · simp only [Act.put, List.setIfInBounds_toArray, List.set_cons_zero, List.set_cons_succ, i64_w, i32_w]
     rfl
   refine pure_ (i := 11) (N := some 23) (v := ?_) (a' := ?_) #[true, true, true, true, true, true, true, true, true, true, true, true, false, false, false, false, false, false] rfl rfl (any_of HT_.out (by kernel_rfl)) (fun _ _ _ h => h) (Or.inl ⟨by rfl, ?_⟩) ?_ ?_
   rotate_left
   · intro w'
     go_simp
     with_reducible rfl
   rotate_left
   · simp only [Act.put, List.setIfInBounds_toArray, List.set_cons_zero, List.set_cons_succ, i64_w, i32_w]
     rfl
   refine pure_ (i := 13) (N := some 25) (v := ?_) (a' := ?_) #[true, true, true, true, true, true, true, true, true, true, true, true, false, true, false, false, false, false] rfl rfl (any_of HT_.out (by kernel_rfl)) (fun _ _ _ h => h) (Or.inl ⟨by rfl, ?_⟩) ?_ ?_
   rotate_left
   · intro w'
     go_simp
     with_reducible rfl
   rotate_left
   · simp only [Act.put, List.setIfInBounds_toArray, List.set_cons_zero, List.set_cons_succ, i64_w, i32_w]
     rfl
   refine take_ (i := 12) (N := some 24) (v := ?_) (a' := ?_) #[true, true, true, true, true, true, true, true, true, true, true, true, true, true, false, false, false, false] rfl rfl (take_ofW HT_.out HW_.out (by kernel_rfl)) (fun _ _ _ h => h) (Or.inl ⟨by rfl, ?_⟩) hHeld ?_ ?_
   rotate_left
   · rintro w' ⟨s0, s1, s2, s3, s4, s5, s6, s7⟩
     go_simp
     with_reducible rfl
   rotate_left
   · simp only [Act.put, List.setIfInBounds_toArray, List.set_cons_zero, List.set_cons_succ, i64_w, i32_w]
     rfl
   refine take_ (i := 14) (N := some 26) (v := ?_) (a' := ?_) #[true, true, true, true, true, true, true, true, true, true, true, true, true, true, true, false, false, false] rfl rfl (take_ofW HT_.out HW_.out (by kernel_rfl)) (fun _ _ _ h => h) (Or.inl ⟨by rfl, ?_⟩) hHeld ?_ ?_
   rotate_left
   · rintro w' ⟨s0, s1, s2, s3, s4, s5, s6, s7⟩
     go_simp
     with_reducible rfl
   rotate_left
   · simp only [Act.put, List.setIfInBounds_toArray, List.set_cons_zero, List.set_cons_succ, i64_w, i32_w]
     rfl
   refine pure_ (i := 15) (N := some 27) (v := ?_) (a' := ?_) #[true, true, true, true, true, true, true, true, true, true, true, true, true, true, true, true, false, false] rfl rfl (any_of HT_.out (by kernel_rfl)) (fun _ _ _ h => h) (Or.inl ⟨by rfl, ?_⟩) ?_ ?_
   rotate_left
   · intro w'
     go_simp
     with_reducible rfl
   rotate_left
   · simp only [Act.put, List.setIfInBounds_toArray, List.set_cons_zero, List.set_cons_succ, i64_w, i32_w]
     rfl
   refine pure_ (i := 16) (N := some 28) (v := ?_) (a' := ?_) #[true, true, true, true, true, true, true, true, true, true, true, true, true, true, true, true, true, false] rfl rfl (any_of HT_.out (by kernel_rfl)) (fun _ _ _ h => h) (Or.inl ⟨by rfl, ?_⟩) ?_ ?_
   rotate_left
   · intro w'
     go_simp
     with_reducible rfl
   rotate_left
   · simp only [Act.put, List.setIfInBounds_toArray, List.set_cons_zero, List.set_cons_succ, i64_w, i32_w]
     rfl
   refine pure_ (i := 17) (N := some 29) (v := ?_) (a' := ?_) #[true, true, true, true, true, true, true, true, true, true, true, true, true, true, true, true, true, true] rfl rfl (any_of HT_.out (by kernel_rfl)) (fun _ _ _ h => h) (Or.inl ⟨by rfl, ?_⟩) ?_ ?_
   rotate_left
   · intro w'
     go_simp
     with_reducible rfl
   rotate_left
   · simp only [Act.put, List.setIfInBounds_toArray, List.set_cons_zero, List.set_cons_succ, i64_w, i32_w]
     rfl
   refine done_ (done_of HT_.out (by kernel_rfl)) ?_
   try go_wp2
   go_ret
   exact ⟨by first | rfl | (simp [errW_none, errW_some] <;> rfl) | (simp only [← hji8]; first | rfl | (simp [errW_none, errW_some] <;> rfl)) | (simp [*, errW_none, errW_some] <;> rfl), sqB1 HB.out GE138.out⟩
 rw [if_neg c11] at H
 have c11b0 : decide (((rd_T34 l0 x7_1).f0) ≤ ((rd_T34 l0 (ji8)).f0)) = false := decide_eq_false c11
 clear c11
 have H' := Aside0.mk H
 clear H
 have p137 : 0 ≤ (x7_1 : Int) := of_decide_eq_true sqH
 have q137 : x7_1 < (l0.length : Int) := of_decide_eq_true sqH
 obtain ⟨ad137, e137, hx137_0, hx137_1, hx137_2, hx137_3⟩ := at_T34 HR0.out x7_1 p137 q137
 cases e137
 replace hx137_0 := sqx HB.out hx137_0
 replace hx137_1 := sqx HB.out hx137_1
 replace hx137_2 := sqx HB.out hx137_2
 replace hx137_3 := sqx HB.out hx137_3
 replace p137 := eq_true p137
 replace q137 := eq_true q137
 try go_wp2_with (first | ((with_reducible refine gate_dst (N := 4) rfl ?_); refine box_event rfl (N := 4) rfl (cs := #[.int .i64 0, .int .i64 0, .int .i64 0, .string (⟨#[]⟩ : ByteArray)]) (t := 34) sqs ?_; intro gb138 hg w17 hbox hb; have BK138 := sqM (hbox); have GW138 := sqM (sqZ hg (sqB HB.out)); have GE138 := sqM (sqZ hg (sqB HB.out)); replace HB := sqM (below_step (sqB HB.out) hb); clear hb hbox hg; obtain ⟨hcz18_0, hcz18_1, hcz18_2, hcz18_3, hfz18_0, hfz18_1, hfz18_2, hfz18_3⟩ := sqF4 BK138.out))
 have n0_ : Aside0 (((((w17.setCell ⟨gb138, 0, none⟩ (.int .i64 ((rd_T34 l0 x7_1).f0))).setCell ⟨gb138, 1, none⟩ (.int .i64 ((rd_T34 l0 x7_1).f1))).setCell ⟨gb138, 2, none⟩ (.int .i64 ((rd_T34 l0 x7_1).f2))).setCell ⟨gb138, 3, none⟩ (.string ((rd_T34 l0 x7_1).f3))).heap[gb138]? = some (.cells #[.int .i64 ((rd_T34 l0 x7_1).f0), .int .i64 ((rd_T34 l0 x7_1).f1), .int .i64 ((rd_T34 l0 x7_1).f2), .string ((rd_T34 l0 x7_1).f3)] 34 (0, 0))) := ⟨by exact (sqP4 BK138.out)⟩
 have n1_ : Aside0 (Below w.heap.size w ((((w17.setCell ⟨gb138, 0, none⟩ (.int .i64 ((rd_T34 l0 x7_1).f0))).setCell ⟨gb138, 1, none⟩ (.int .i64 ((rd_T34 l0 x7_1).f1))).setCell ⟨gb138, 2, none⟩ (.int .i64 ((rd_T34 l0 x7_1).f2))).setCell ⟨gb138, 3, none⟩ (.string ((rd_T34 l0 x7_1).f3)))) := ⟨sqB1 HB.out GE138.out⟩
 (try clear BK138)
 (try clear HB)
 generalize ((((w17.setCell ⟨gb138, 0, none⟩ (.int .i64 ((rd_T34 l0 x7_1).f0))).setCell ⟨gb138, 1, none⟩ (.int .i64 ((rd_T34 l0 x7_1).f1))).setCell ⟨gb138, 2, none⟩ (.int .i64 ((rd_T34 l0 x7_1).f2))).setCell ⟨gb138, 3, none⟩ (.string ((rd_T34 l0 x7_1).f3))) = w19 at n0_ n1_ ⊢
 have BK138 := n0_
 have HB := n1_
 clear n0_ n1_
 replace BK138 := sqM (blk_drew BK138.out)
 replace HB := sqM (below_drew1 HB.out)
 have p140 : 0 ≤ ((ji8) : Int) := of_decide_eq_true sqH
 have q140 : (ji8) < (l0.length : Int) := of_decide_eq_true sqH
 obtain ⟨ad140, e140, hx140_0, hx140_1, hx140_2, hx140_3⟩ := at_T34 HR0.out (ji8) p140 q140
 have hw140_3 := hx140_3
 have hw140_2 := hx140_2
 have hw140_1 := hx140_1
 have hw140_0 := hx140_0
 obtain rfl : ad137 = ad140 := (by injection e140)
 replace hx140_0 := sqx HB.out hx140_0
 replace hx140_1 := sqx HB.out hx140_1
 replace hx140_2 := sqx HB.out hx140_2
 replace hx140_3 := sqx HB.out hx140_3
 replace p140 := eq_true p140
 replace q140 := eq_true q140
 refine start_ (n := 18) (S := fun w' => w'.cell? ⟨gb138, 0, none⟩ = some (.int .i64 ((rd_T34 l0 x7_1).f0)) ∧ w'.cell? ⟨gb138, 1, none⟩ = some (.int .i64 ((rd_T34 l0 x7_1).f1)) ∧ w'.cell? ⟨gb138, 2, none⟩ = some (.int .i64 ((rd_T34 l0 x7_1).f2)) ∧ w'.cell? ⟨gb138, 3, none⟩ = some (.string ((rd_T34 l0 x7_1).f3)) ∧ w'.cell? (ad137.add (((ji8)).toNat * 4)) = some (.int .i64 ((rd_T34 l0 (ji8)).f0)) ∧ w'.cell? ⟨(ad137.add (((ji8)).toNat * 4)).block, (ad137.add (((ji8)).toNat * 4)).off + 1, none⟩ = some (.int .i64 ((rd_T34 l0 (ji8)).f1)) ∧ w'.cell? ⟨(ad137.add (((ji8)).toNat * 4)).block, (ad137.add (((ji8)).toNat * 4)).off + 2, none⟩ = some (.int .i64 ((rd_T34 l0 (ji8)).f2)) ∧ w'.cell? ⟨(ad137.add (((ji8)).toNat * 4)).block, (ad137.add (((ji8)).toNat * 4)).off + 3, none⟩ = some (.string ((rd_T34 l0 (ji8)).f3))) (ds := []) #[false, false, false, false, false, false, false, false, false, false, false, false, false, false, false, false, false, false] (by kernel_rfl) rfl rfl ⟨(blk_cell BK138.out 0).trans rfl, (blk_cell BK138.out 1).trans rfl, (blk_cell BK138.out 2).trans rfl, (blk_cell BK138.out 3).trans rfl, ((HB.out.cell (World.block_lt_of_cell? w _ hw140_0)).trans hw140_0), ((HB.out.cell (World.block_lt_of_cell? w _ hw140_1)).trans hw140_1), ((HB.out.cell (World.block_lt_of_cell? w _ hw140_2)).trans hw140_2), ((HB.out.cell (World.block_lt_of_cell? w _ hw140_3)).trans hw140_3)⟩ (fun hHeld => ?_); refine with_tabW table_Right.tab4 table_Right.bits4 (fun HT_ HW_ => ?_)
 generalize w19.drew = w20 at BK138 HB hx140_0 hx140_1 hx140_2 hx140_3 hHeld ⊢
 refine take_ (i := 0) (N := some 12) (v := ?_) (a' := ?_) #[true, false, false, false, false, false, false, false, false, false, false, false, false, false, false, false, false, false] rfl rfl (take_ofW HT_.out HW_.out (by kernel_rfl)) (fun _ _ _ h => h) (Or.inl ⟨by rfl, ?_⟩) hHeld ?_ ?_
 rotate_left
 · rintro w' ⟨s0, s1, s2, s3, s4, s5, s6, s7⟩
   go_simp
   with_reducible rfl
 rotate_left
 · simp only [Act.put, List.setIfInBounds_toArray, List.set_cons_zero, List.set_cons_succ, i64_w, i32_w]
   rfl
 refine one_ (i := 1) (N := some 13) #[true, true, false, false, false, false, false, false, false, false, false, false, false, false, false, false, false, false] rfl rfl (one_of HT_.out (by kernel_rfl)) (by decide) (fun K hK => ?_)
 refine goes_ Try.func40 (by kernel_rfl) rfl #[.agg #[.int .i64 ((rd_T34 l0 x7_1).f0), .int .i64 ((rd_T34 l0 x7_1).f1), .int .i64 ((rd_T34 l0 x7_1).f2), .string ((rd_T34 l0 x7_1).f3)]] (by rfl) rfl rfl sqA ?_
 with_reducible refine (record_Right.calls _ _ _ _ _ _ A5.out).mono ?_
 rintro e w21 ⟨rfl, hb⟩
 refine ⟨_, rfl, ?_⟩
 replace BK138 := sqM (blk_below (sqK BK138.out) hb)
 replace HB := sqM (below_step (sqB1 HB.out GE138.out) hb)
 (try clear hb)
 (try clear hb2)
 (try clear hk)
 (try clear hi)
 refine hK.out _ _ ⟨(blk_cell BK138.out 0).trans rfl, (blk_cell BK138.out 1).trans rfl, (blk_cell BK138.out 2).trans rfl, (blk_cell BK138.out 3).trans rfl, ((HB.out.cell (World.block_lt_of_cell? w _ hw140_0)).trans hw140_0), ((HB.out.cell (World.block_lt_of_cell? w _ hw140_1)).trans hw140_1), ((HB.out.cell (World.block_lt_of_cell? w _ hw140_2)).trans hw140_2), ((HB.out.cell (World.block_lt_of_cell? w _ hw140_3)).trans hw140_3)⟩ (fun hHeld => ?_)
 clear hK K
 refine norm_ (a' := ?_) ?_ ?_
 rotate_left
 · show Act.put _ (some 13) _ = _
   simp only [Act.put, List.setIfInBounds_toArray, List.set_cons_zero, List.set_cons_succ, i64_w, i32_w]
   rfl
 refine pure_ (i := 2) (N := some 14) (v := ?_) (a' := ?_) #[true, true, true, false, false, false, false, false, false, false, false, false, false, false, false, false, false, false] rfl rfl (any_of HT_.out (by kernel_rfl)) (fun _ _ _ h => h) (Or.inl ⟨by rfl, ?_⟩) ?_ ?_
 rotate_left
 · intro w'
   go_simp
   with_reducible rfl
 rotate_left
 · simp only [Act.put, List.setIfInBounds_toArray, List.set_cons_zero, List.set_cons_succ, i64_w, i32_w]
   rfl
 refine pure_ (i := 3) (N := some 15) (v := ?_) (a' := ?_) #[true, true, true, true, false, false, false, false, false, false, false, false, false, false, false, false, false, false] rfl rfl (any_of HT_.out (by kernel_rfl)) (fun _ _ _ h => h) (Or.inl ⟨by rfl, ?_⟩) ?_ ?_
 rotate_left
 · intro w'
   go_simp
   with_reducible rfl
 rotate_left
 · simp only [Act.put, List.setIfInBounds_toArray, List.set_cons_zero, List.set_cons_succ, i64_w, i32_w]
   rfl
 refine pure_ (i := 4) (N := some 16) (v := ?_) (a' := ?_) #[true, true, true, true, true, false, false, false, false, false, false, false, false, false, false, false, false, false] rfl rfl (any_of HT_.out (by kernel_rfl)) (fun _ _ _ h => h) (Or.inl ⟨by rfl, ?_⟩) ?_ ?_
 rotate_left
 · intro w'
   go_simp
   with_reducible rfl
 rotate_left
 · simp only [Act.put, List.setIfInBounds_toArray, List.set_cons_zero, List.set_cons_succ, i64_w, i32_w]
   rfl
 refine pure_ (i := 5) (N := some 17) (v := ?_) (a' := ?_) #[true, true, true, true, true, true, false, false, false, false, false, false, false, false, false, false, false, false] rfl rfl (any_of HT_.out (by kernel_rfl)) (fun _ _ _ h => h) (Or.inl ⟨by rfl, ?_⟩) ?_ ?_
 rotate_left
 · intro w'
   go_simp
   with_reducible rfl
 rotate_left
 · simp only [Act.put, List.setIfInBounds_toArray, List.set_cons_zero, List.set_cons_succ, i64_w, i32_w]
   rfl
 refine pure_ (i := 6) (N := some 18) (v := ?_) (a' := ?_) #[true, true, true, true, true, true, true, false, false, false, false, false, false, false, false, false, false, false] rfl rfl (any_of HT_.out (by kernel_rfl)) (fun _ _ _ h => h) (Or.inl ⟨by rfl, ?_⟩) ?_ ?_
 rotate_left
 · intro w'
   go_simp
   with_reducible rfl
 rotate_left
 · simp only [Act.put, List.setIfInBounds_toArray, List.set_cons_zero, List.set_cons_succ, i64_w, i32_w]
   rfl
 refine pure_ (i := 7) (N := some 19) (v := ?_) (a' := ?_) #[true, true, true, true, true, true, true, true, false, false, false, false, false, false, false, false, false, false] rfl rfl (any_of HT_.out (by kernel_rfl)) (fun _ _ _ h => h) (Or.inl ⟨by rfl, ?_⟩) ?_ ?_
 rotate_left
 · intro w'
   go_simp
   with_reducible rfl
 rotate_left
 · simp only [Act.put, List.setIfInBounds_toArray, List.set_cons_zero, List.set_cons_succ, i64_w, i32_w]
   rfl
 refine pure_ (i := 8) (N := some 20) (v := ?_) (a' := ?_) #[true, true, true, true, true, true, true, true, true, false, false, false, false, false, false, false, false, false] rfl rfl (any_of HT_.out (by kernel_rfl)) (fun _ _ _ h => h) (Or.inl ⟨by rfl, ?_⟩) ?_ ?_
 rotate_left
 · intro w'
   go_simp
   with_reducible rfl
 rotate_left
 · simp only [Act.put, List.setIfInBounds_toArray, List.set_cons_zero, List.set_cons_succ, i64_w, i32_w]
   rfl
 refine pure_ (i := 9) (N := some 21) (v := ?_) (a' := ?_) #[true, true, true, true, true, true, true, true, true, true, false, false, false, false, false, false, false, false] rfl rfl (any_of HT_.out (by kernel_rfl)) (fun _ _ _ h => h) (Or.inl ⟨by rfl, ?_⟩) ?_ ?_
 rotate_left
 · intro w'
   go_simp
   with_reducible rfl
 rotate_left
 · simp only [Act.put, List.setIfInBounds_toArray, List.set_cons_zero, List.set_cons_succ, i64_w, i32_w]
   rfl
 refine pure_ (i := 10) (N := some 22) (v := ?_) (a' := ?_) #[true, true, true, true, true, true, true, true, true, true, true, false, false, false, false, false, false, false] rfl rfl (any_of HT_.out (by kernel_rfl)) (fun _ _ _ h => h) (Or.inl ⟨by rfl, ?_⟩) ?_ ?_
 rotate_left
 · intro w'
   go_simp
   with_reducible rfl
 rotate_left
 · simp only [Act.put, List.setIfInBounds_toArray, List.set_cons_zero, List.set_cons_succ, i64_w, i32_w]
   rfl
 refine pure_ (i := 11) (N := some 23) (v := ?_) (a' := ?_) #[true, true, true, true, true, true, true, true, true, true, true, true, false, false, false, false, false, false] rfl rfl (any_of HT_.out (by kernel_rfl)) (fun _ _ _ h => h) (Or.inl ⟨by rfl, ?_⟩) ?_ ?_
 rotate_left
 · intro w'
   go_simp
   with_reducible rfl
 rotate_left
 · simp only [Act.put, List.setIfInBounds_toArray, List.set_cons_zero, List.set_cons_succ, i64_w, i32_w]
   rfl
 refine pure_ (i := 13) (N := some 25) (v := ?_) (a' := ?_) #[true, true, true, true, true, true, true, true, true, true, true, true, false, true, false, false, false, false] rfl rfl (any_of HT_.out (by kernel_rfl)) (fun _ _ _ h => h) (Or.inl ⟨by rfl, ?_⟩) ?_ ?_
 rotate_left
 · intro w'
   go_simp
   with_reducible rfl
 rotate_left
 · simp only [Act.put, List.setIfInBounds_toArray, List.set_cons_zero, List.set_cons_succ, i64_w, i32_w]
   rfl
 refine take_ (i := 12) (N := some 24) (v := ?_) (a' := ?_) #[true, true, true, true, true, true, true, true, true, true, true, true, true, true, false, false, false, false] rfl rfl (take_ofW HT_.out HW_.out (by kernel_rfl)) (fun _ _ _ h => h) (Or.inl ⟨by rfl, ?_⟩) hHeld ?_ ?_
 rotate_left
 · rintro w' ⟨s0, s1, s2, s3, s4, s5, s6, s7⟩
   go_simp
   with_reducible rfl
 rotate_left
 · simp only [Act.put, List.setIfInBounds_toArray, List.set_cons_zero, List.set_cons_succ, i64_w, i32_w]
   rfl
 refine take_ (i := 14) (N := some 26) (v := ?_) (a' := ?_) #[true, true, true, true, true, true, true, true, true, true, true, true, true, true, true, false, false, false] rfl rfl (take_ofW HT_.out HW_.out (by kernel_rfl)) (fun _ _ _ h => h) (Or.inl ⟨by rfl, ?_⟩) hHeld ?_ ?_
 rotate_left
 · rintro w' ⟨s0, s1, s2, s3, s4, s5, s6, s7⟩
   go_simp
   with_reducible rfl
 rotate_left
 · simp only [Act.put, List.setIfInBounds_toArray, List.set_cons_zero, List.set_cons_succ, i64_w, i32_w]
   rfl
 refine pure_ (i := 15) (N := some 27) (v := ?_) (a' := ?_) #[true, true, true, true, true, true, true, true, true, true, true, true, true, true, true, true, false, false] rfl rfl (any_of HT_.out (by kernel_rfl)) (fun _ _ _ h => h) (Or.inl ⟨by rfl, ?_⟩) ?_ ?_
 rotate_left
 · intro w'
   go_simp
   with_reducible rfl
 rotate_left
 · simp only [Act.put, List.setIfInBounds_toArray, List.set_cons_zero, List.set_cons_succ, i64_w, i32_w]
   rfl
 refine pure_ (i := 16) (N := some 28) (v := ?_) (a' := ?_) #[true, true, true, true, true, true, true, true, true, true, true, true, true, true, true, true, true, false] rfl rfl (any_of HT_.out (by kernel_rfl)) (fun _ _ _ h => h) (Or.inl ⟨by rfl, ?_⟩) ?_ ?_
 rotate_left
 · intro w'
   go_simp
   with_reducible rfl
 rotate_left
 · simp only [Act.put, List.setIfInBounds_toArray, List.set_cons_zero, List.set_cons_succ, i64_w, i32_w]
   rfl
 refine pure_ (i := 17) (N := some 29) (v := ?_) (a' := ?_) #[true, true, true, true, true, true, true, true, true, true, true, true, true, true, true, true, true, true] rfl rfl (any_of HT_.out (by kernel_rfl)) (fun _ _ _ h => h) (Or.inl ⟨by rfl, ?_⟩) ?_ ?_
 rotate_left
 · intro w'
   go_simp
   with_reducible rfl
 rotate_left
 · simp only [Act.put, List.setIfInBounds_toArray, List.set_cons_zero, List.set_cons_succ, i64_w, i32_w]
   rfl
 refine done_ (done_of HT_.out (by kernel_rfl)) ?_
 try go_wp2
 go_roundg k1
 case measure => have := HK1.out; omega
 case rel => exact ⟨(wrap64 (x7_1 + 1)), sqI, H', ⟨by have := HK1.out; omega⟩, ⟨sqB1 HB.out GE138.out⟩⟩

/-! ### queue_some: function 23 -/
/-- What a function value of leases tells. -/
abbrev PrG := Int → Int → Int → ByteArray → Option Bool
def queue_someG.l0 (p : PrG) : Nat → List (S34) → List (S34) → Int → Int → Option ((List (S34)))
  | 0, _, _, _, _ => none
  | k + 1, x5, x11, x12, x13 => if x13 < x12 then (if 0 ≤ x13 then (if x13 < (x11.length : Int) then ((p ((rd_T34 x11 x13).f0) ((rd_T34 x11 x13).f1) ((rd_T34 x11 x13).f2) ((rd_T34 x11 x13).f3)).bind fun t144 => (if t144 = true then (if x5.length < 3518437208883 then (queue_someG.l0 p k (x5 ++ [(⟨(rd_T34 x11 x13).f0, (rd_T34 x11 x13).f1, (rd_T34 x11 x13).f2, (rd_T34 x11 x13).f3⟩ : S34)]) x11 x12 (wrap64 (x13 + 1))) else (none)) else (queue_someG.l0 p k x5 x11 x12 (wrap64 (x13 + 1))))) else (none)) else (none)) else (some x5)
def queue_someG.f (p : PrG) (k : Nat) (l0 : List (S34)) : Option ((List (S34))) := (table_Right.f k l0).bind fun t141 => (if t141 = true then (queue_someG.l0 p k ([] : List (S34)) l0 (l0.length : Int) 0) else (some ([] : List (S34))))
theorem queue_someG.mono_l (p : PrG) : ∀ k, (∀ y0 y1 y2 y3, LeO (queue_someG.l0 p k y0 y1 y2 y3) (queue_someG.l0 p (k + 1) y0 y1 y2 y3))
  | 0 => fun _ _ _ _ r h => by simp [queue_someG.l0] at h
  | k + 1 => by
    have ih0 := queue_someG.mono_l p k
    · intro y0 y1 y2 y3
      unfold queue_someG.l0
      repeat' first
      | (with_reducible exact ih0 _ _ _ _)
      | (with_reducible exact table_Right.mono _ _)
      | (with_reducible exact LeO.refl _)
      | (with_reducible exact LeO.none _)
      | (with_reducible refine LeO.ite ?_ ?_)
      | (with_reducible refine LeO.bind ?_ (fun _ => ?_))
      | exact ih0 _ _ _ _
      | exact table_Right.mono _ _
      | exact LeO.none _
      | refine LeO.ite ?_ ?_
      | refine LeO.bind ?_ (fun _ => ?_)
theorem queue_someG.mono (p : PrG) : ∀ a0 k, LeO (queue_someG.f p k a0) (queue_someG.f p (k + 1) a0) := by
 intro a0 k
 have ih0 := queue_someG.mono_l p k
 unfold queue_someG.f
 repeat' first
  | (with_reducible exact ih0 _ _ _ _)
  | (with_reducible exact table_Right.mono _ _)
  | (with_reducible exact LeO.refl _)
  | (with_reducible exact LeO.none _)
  | (with_reducible refine LeO.ite ?_ ?_)
  | (with_reducible refine LeO.bind ?_ (fun _ => ?_))
  | exact ih0 _ _ _ _
  | exact table_Right.mono _ _
  | exact LeO.none _
  | refine LeO.ite ?_ ?_
  | refine LeO.bind ?_ (fun _ => ?_)
set_option maxHeartbeats 8000000 in
set_option maxRecDepth 100000 in
theorem queue_some24.calls (p : PrG) (k : Nat) (A0 : Option Addr) (c0 : Nat) (l0 : List (S34)) (r : List (S34)) (w : World) (hr0 : Kd.C k34 w A0 l0.length l0) (hc0 : l0.length ≤ c0) (hcl : ∀ (x : S34) (b : Bool) (w' : World), Below w.heap.size w w' → p x.f0 x.f1 x.f2 x.f3 = some b → Calls Try.prog 24 #[.agg #[.int .i64 x.f0, .int .i64 x.f1, .int .i64 x.f2, .string x.f3]] w' fun e w'' => e = .returned (.bool b) ∧ Below w'.heap.size w' w'') (h : queue_someG.f p k l0 = some r) :
    Calls Try.prog 23 #[.slice A0 l0.length c0, .func (.func 24) #[] #[]] w fun e w' => ∃ v0_ : Value, e = .returned (v0_) ∧ Kd.R k34 34 w' w.heap.size (fun _ => True) v0_ r ∧ Below w.heap.size w w' := by
 have hu34 := Try.underlying34
 have HR0 := Aside0.mk hr0
 have HC0 := Aside0.mk hc0
 have HCL := Aside0.mk hcl
 clear hr0 hc0 hcl
 have HB := Aside0.mk (Below.refl w.heap.size w)
 have H : ((table_Right.f k l0).bind fun t141 => (if t141 = true then (queue_someG.l0 p k ([] : List (S34)) l0 (l0.length : Int) 0) else (some ([] : List (S34))))) = some r := h
 clear h
 replace H := Option.bind_eq_some_iff.mp H
 obtain ⟨t141, A30, H⟩ := H
 replace H : (if t141 = true then (queue_someG.l0 p k ([] : List (S34)) l0 (l0.length : Int) 0) else (some ([] : List (S34)))) = some r := H
 have A3 := Aside0.mk A30
 clear A30
 by_cases c4 : t141 = true
 rotate_left
 · replace c4 := Bool.eq_false_iff.mpr c4
   subst c4
   have H1 : (some ([] : List (S34))) = some r := by rw [if_neg (show ¬ (false = true) by decide)] at H; exact H
   clear H
   have H := H1
   clear H1
   obtain rfl := Option.some.inj H
   go_enter Try.func23, Try.ntmps23
   go_wp2_with (first | ((with_reducible refine gate_callee (f := 35) rfl ?_); refine goesL_ (some 9) rfl rfl Try.func35 (by kernel_rfl) rfl #[.slice A0 l0.length c0] rfl sqA ?_; (with_reducible refine (table_Right.calls _ _ _ _ _ _ ?side1 ?side2 A3.out).mono ?_); (case side1 => repeat (first | exact HR0.out | (with_reducible refine Kd.C_alloc ?_ _) | (with_reducible refine Kd.C_drewN ?_ _) | (with_reducible refine Kd.C_drew ?_))); (case side2 => exact HC0.out); rintro e w20 ⟨rfl, hb⟩; refine ⟨_, rfl, ?_⟩; replace HB := sqM (below_step (sqB HB.out) hb); (try clear hb); (try clear hb2); (try clear hk); (try clear hi)))
   go_ret
   exact ⟨_, sqE, by first | exact Kd.R_nil _ _ _ _ _ | exact Kd.N_nil _ _ _ _ _ | exact Kd.V_nil _ _ _ _ _ | exact Kd.Q_nil _ _ _ _ _ | exact Kd.S_nil _ _ _ _ _, sqB HB.out⟩
 subst c4
 have H1 : (queue_someG.l0 p k ([] : List (S34)) l0 (l0.length : Int) 0) = some r := by rw [if_pos rfl] at H; exact H
 clear H
 have H := H1
 clear H1
 have H' := Aside0.mk H
 clear H
 go_enter Try.func23, Try.ntmps23
 go_wp2_with (first | ((with_reducible refine gate_callee (f := 35) rfl ?_); refine goesL_ (some 9) rfl rfl Try.func35 (by kernel_rfl) rfl #[.slice A0 l0.length c0] rfl sqA ?_; (with_reducible refine (table_Right.calls _ _ _ _ _ _ ?side1 ?side2 A3.out).mono ?_); (case side1 => repeat (first | exact HR0.out | (with_reducible refine Kd.C_alloc ?_ _) | (with_reducible refine Kd.C_drewN ?_ _) | (with_reducible refine Kd.C_drew ?_))); (case side2 => exact HC0.out); rintro e w5 ⟨rfl, hb⟩; refine ⟨_, rfl, ?_⟩; replace HB := sqM (below_step (sqB HB.out) hb); (try clear hb); (try clear hb2); (try clear hk); (try clear hi)))
 go_loopg [5, 13] k (fun kq v5 v13 w' => ∃ (x5_1 : List (S34)) (x13_1 : Int), v13 = .int .i64 x13_1 ∧ Aside0 (queue_someG.l0 p kq x5_1 l0 (l0.length : Int) x13_1 = some r) ∧ Aside0 (kq ≤ k) ∧ Aside0 (Kd.R k34 34 w' w.heap.size (fun _ => True) v5 x5_1) ∧ Aside0 (Below w.heap.size w w'))
 case atStart => exact ⟨(([] : List (S34))), (0), sqI, H', ⟨Nat.le_refl _⟩, ⟨by first | exact Kd.R_nil _ _ _ _ _ | exact Kd.N_nil _ _ _ _ _ | exact Kd.V_nil _ _ _ _ _ | exact Kd.Q_nil _ _ _ _ _ | exact Kd.S_nil _ _ _ _ _⟩, ⟨sqB HB.out⟩⟩
 clear H'
 try clear c2
 try clear p2
 try clear c3
 try clear c4
 obtain ⟨x5_1, x13_1, rfl, HA, HK1, HO_5, HB⟩ := hrel
 cases gk with
 | zero => exact absurd HA.out (by simp [queue_someG.l0])
 | succ k1 => ?_
 have H := HA.out
 clear HA
 simp only [queue_someG.l0] at H
 by_cases c6 : x13_1 < (l0.length : Int)
 rotate_left
 · rw [if_neg c6] at H
   have c6b0 : decide (x13_1 < (l0.length : Int)) = false := decide_eq_false c6
   clear c6
   obtain rfl := Option.some.inj H
   go_wp2
   go_ret
   exact ⟨_, sqE, by refine sqR ?_; exact HO_5.out, sqB HB.out⟩
 rw [if_pos c6] at H
 have c6b0 : decide (x13_1 < (l0.length : Int)) = true := decide_eq_true c6
 clear c6
 by_cases c7 : 0 ≤ x13_1
 rotate_left
 · rw [if_neg c7] at H
   exact absurd H (by simp)
 rw [if_pos c7] at H
 have c7b0 : decide (0 ≤ x13_1) = true := decide_eq_true c7
 clear c7
 by_cases c8 : x13_1 < (l0.length : Int)
 rotate_left
 · rw [if_neg c8] at H
   exact absurd H (by simp)
 rw [if_pos c8] at H
 have c8b0 : decide (x13_1 < (l0.length : Int)) = true := decide_eq_true c8
 clear c8
 replace H := Option.bind_eq_some_iff.mp H
 obtain ⟨t144, A90, H⟩ := H
 replace H : (if t144 = true then (if x5_1.length < 3518437208883 then (queue_someG.l0 p k1 (x5_1 ++ [(⟨(rd_T34 l0 x13_1).f0, (rd_T34 l0 x13_1).f1, (rd_T34 l0 x13_1).f2, (rd_T34 l0 x13_1).f3⟩ : S34)]) l0 (l0.length : Int) (wrap64 (x13_1 + 1))) else (none)) else (queue_someG.l0 p k1 x5_1 l0 (l0.length : Int) (wrap64 (x13_1 + 1)))) = some r := H
 have A9 := Aside0.mk A90
 clear A90
 by_cases c10 : t144 = true
 rotate_left
 · replace c10 := Bool.eq_false_iff.mpr c10
   subst c10
   have H1 : (queue_someG.l0 p k1 x5_1 l0 (l0.length : Int) (wrap64 (x13_1 + 1))) = some r := by rw [if_neg (show ¬ (false = true) by decide)] at H; exact H
   clear H
   have H := H1
   clear H1
   have H' := Aside0.mk H
   clear H
   have p142 : 0 ≤ (x13_1 : Int) := of_decide_eq_true sqH
   have q142 : x13_1 < (l0.length : Int) := of_decide_eq_true sqH
   obtain ⟨ad142, e142, hx142_0, hx142_1, hx142_2, hx142_3⟩ := at_T34 HR0.out x13_1 p142 q142
   cases e142
   replace hx142_0 := sqx HB.out hx142_0
   replace hx142_1 := sqx HB.out hx142_1
   replace hx142_2 := sqx HB.out hx142_2
   replace hx142_3 := sqx HB.out hx142_3
   replace p142 := eq_true p142
   replace q142 := eq_true q142
   go_wp2_with (first | ((with_reducible refine gate_dst (N := 7) rfl ?_); refine box_event rfl (N := 7) rfl (cs := #[.int .i64 0, .int .i64 0, .int .i64 0, .string (⟨#[]⟩ : ByteArray)]) (t := 34) sqs ?_; intro gb143 hg w17 hbox hb; have BK143 := sqM (hbox); have GW143 := sqM (sqZ hg (sqB HB.out)); have GE143 := sqM (sqZ hg (sqB HB.out)); replace HO_5 := sqM (sqRe (sqR HO_5.out) hg hb); replace HB := sqM (below_step (sqB HB.out) hb); clear hb hbox hg; obtain ⟨hcz18_0, hcz18_1, hcz18_2, hcz18_3, hfz18_0, hfz18_1, hfz18_2, hfz18_3⟩ := sqF4 BK143.out) | ((refine (HCL.out (rd_T34 l0 x13_1) false _ ?bcl A9.out).mono ?_); (case bcl => exact sqB1 HB.out GE143.out); rintro e w19 ⟨rfl, hb⟩; replace HO_5 := sqM (Kd.R_below (by refine sqR ?_; exact (sqR4 HO_5.out (fun k_ hk => hk.2))) hb); replace BK143 := sqM (blk_below (sqP4 BK143.out) hb); replace HB := sqM (below_step (sqB1 HB.out GE143.out) hb); (try clear hb); (try clear hb2); (try clear hk); (try clear hi)))
   go_roundg k1
   case measure => have := HK1.out; omega
   case rel => exact ⟨(x5_1), (wrap64 (x13_1 + 1)), sqI, H', ⟨by have := HK1.out; omega⟩, ⟨by refine sqR ?_; exact Kd.R_mono HO_5.out (fun _ hk => trivial)⟩, ⟨sqB1 HB.out GE143.out⟩⟩
 subst c10
 have H1 : (if x5_1.length < 3518437208883 then (queue_someG.l0 p k1 (x5_1 ++ [(⟨(rd_T34 l0 x13_1).f0, (rd_T34 l0 x13_1).f1, (rd_T34 l0 x13_1).f2, (rd_T34 l0 x13_1).f3⟩ : S34)]) l0 (l0.length : Int) (wrap64 (x13_1 + 1))) else (none)) = some r := by rw [if_pos rfl] at H; exact H
 clear H
 have H := H1
 clear H1
 by_cases c11 : x5_1.length < 3518437208883
 rotate_left
 · rw [if_neg c11] at H
   exact absurd H (by simp)
 rw [if_pos c11] at H
 have LMc11 := Aside0.mk c11
 clear c11
 obtain ⟨y145, hy145⟩ : ∃ y_ : List (S34), y_ = (x5_1 ++ [(⟨(rd_T34 l0 x13_1).f0, (rd_T34 l0 x13_1).f1, (rd_T34 l0 x13_1).f2, (rd_T34 l0 x13_1).f3⟩ : S34)]) := ⟨_, rfl⟩
 replace H : (queue_someG.l0 p k1 y145 l0 (l0.length : Int) (wrap64 (x13_1 + 1))) = some r := by first | (rw [hy145]; with_reducible exact H) | (have H2_ := (Option.bind_some _ _).symm.trans H; rw [hy145]; with_reducible exact H2_) | (have H2_ := (Option.bind_some _ _).symm.trans H; with_reducible exact H2_) | with_reducible exact H | (rw [hy145]; exact H) | exact H
 have Ny145 := Aside0.mk hy145
 clear hy145
 have H' := Aside0.mk H
 clear H
 have p142 : 0 ≤ (x13_1 : Int) := of_decide_eq_true sqH
 have q142 : x13_1 < (l0.length : Int) := of_decide_eq_true sqH
 obtain ⟨ad142, e142, hx142_0, hx142_1, hx142_2, hx142_3⟩ := at_T34 HR0.out x13_1 p142 q142
 cases e142
 replace hx142_0 := sqx HB.out hx142_0
 replace hx142_1 := sqx HB.out hx142_1
 replace hx142_2 := sqx HB.out hx142_2
 replace hx142_3 := sqx HB.out hx142_3
 replace p142 := eq_true p142
 replace q142 := eq_true q142
 go_wp2_with (first | ((with_reducible refine gate_dst (N := 7) rfl ?_); refine box_event rfl (N := 7) rfl (cs := #[.int .i64 0, .int .i64 0, .int .i64 0, .string (⟨#[]⟩ : ByteArray)]) (t := 34) sqs ?_; intro gb143 hg w12 hbox hb; have BK143 := sqM (hbox); have GW143 := sqM (sqZ hg (sqB HB.out)); have GE143 := sqM (sqZ hg (sqB HB.out)); replace HO_5 := sqM (sqRe (sqR HO_5.out) hg hb); replace HB := sqM (below_step (sqB HB.out) hb); clear hb hbox hg; obtain ⟨hcz13_0, hcz13_1, hcz13_2, hcz13_3, hfz13_0, hfz13_1, hfz13_2, hfz13_3⟩ := sqF4 BK143.out) | ((refine (HCL.out (rd_T34 l0 x13_1) true _ ?bcl A9.out).mono ?_); (case bcl => exact sqB1 HB.out GE143.out); rintro e w14 ⟨rfl, hb⟩; replace HO_5 := sqM (Kd.R_below (by refine sqR ?_; exact (sqR4 HO_5.out (fun k_ hk => hk.2))) hb); replace BK143 := sqM (blk_below (sqP4 BK143.out) hb); replace HB := sqM (below_step (sqB1 HB.out GE143.out) hb); (try clear hb); (try clear hb2); (try clear hk); (try clear hi); obtain ⟨hcz15_0, hcz15_1, hcz15_2, hcz15_3, hfz15_0, hfz15_1, hfz15_2, hfz15_3⟩ := sqF4 BK143.out) | ((with_reducible refine gate_builtin (b := .append) (xs := #[.tmp 20, .tmp 22]) rfl ?_); at_builtin; refine Kd.R_append k34 (w0 := w) w.heap.size rfl (.tmp 20) (.tmp 22) 22 34 (.agg #[(.int .i64 0), (.int .i64 0), (.int .i64 0), (.string ⟨#[]⟩)]) 40 rfl Try.underlying22 info34 rfl (by decide) (by omega) u5 x5_1 (⟨(rd_T34 l0 x13_1).f0, (rd_T34 l0 x13_1).f1, (rd_T34 l0 x13_1).f2, (rd_T34 l0 x13_1).f3⟩ : S34) [.int .i64 ((rd_T34 l0 x13_1).f0), .int .i64 ((rd_T34 l0 x13_1).f1), .int .i64 ((rd_T34 l0 x13_1).f2), .string ((rd_T34 l0 x13_1).f3)] (fun k_ => k_ ≠ gb143) (fun _ => False) rfl rfl ?aP (fun _ hk => hk.elim) ?aF ?aO ?aB ?aS ?aL ?_; (case aP => exact k34_mkM _ _ _ (⟨(rd_T34 l0 x13_1).f0, (rd_T34 l0 x13_1).f1, (rd_T34 l0 x13_1).f2, (rd_T34 l0 x13_1).f3⟩ : S34)); (case aB => exact (sqB1 HB.out GE143.out)); (case aF => exact (fun k_ hk => Kd.freshB (g := gb143) (o := .cells #[.int .i64 ((rd_T34 l0 x13_1).f0), .int .i64 ((rd_T34 l0 x13_1).f1), .int .i64 ((rd_T34 l0 x13_1).f2), .string ((rd_T34 l0 x13_1).f3)] 34 (0, 0)) (sqK BK143.out) k_ hk)); (case aO => exact (by refine sqR ?_; exact Kd.R_mono HO_5.out (fun _ hk => hk.2))); (case aS => exact (below_size (sqB1 HB.out GE143.out))); (case aL => have := LMc11.out; omega); intro v146 w16 ho hb hg hat; rw [← Ny145.out] at ho; have HO147 := sqM (ho); replace BK143 := sqM (blk_grown (g := gb143) (o := .cells #[.int .i64 ((rd_T34 l0 x13_1).f0), .int .i64 ((rd_T34 l0 x13_1).f1), .int .i64 ((rd_T34 l0 x13_1).f2), .string ((rd_T34 l0 x13_1).f3)] 34 (0, 0)) (sqK BK143.out) hg (Kd.R_away HO_5.out (fun _ hk => hk.2))); replace HB := sqM (hb); clear HO_5; clear ho hb hg hat))
 go_roundg k1
 case measure => have := HK1.out; omega
 case rel => exact ⟨(y145), (wrap64 (x13_1 + 1)), sqI, H', ⟨by have := HK1.out; omega⟩, ⟨by refine sqR ?_; exact Kd.R_mono HO147.out (fun _ hk => trivial)⟩, ⟨sqB1 HB.out GE143.out⟩⟩


set_option maxHeartbeats 8000000 in
set_option maxRecDepth 100000 in
theorem queue_some27.calls (p : PrG) (g : Nat) (k : Nat) (A0 : Option Addr) (c0 : Nat) (l0 : List (S34)) (r : List (S34)) (w : World) (hr0 : Kd.C k34 w A0 l0.length l0) (hc0 : l0.length ≤ c0) (hcl : ∀ (x : S34) (b : Bool) (w' : World), Below w.heap.size w w' → p x.f0 x.f1 x.f2 x.f3 = some b → Calls Try.prog 27 #[.agg #[.int .i64 x.f0, .int .i64 x.f1, .int .i64 x.f2, .string x.f3], .pointer (some ⟨g, 0, none⟩)] w' fun e w'' => e = .returned (.bool b) ∧ Below w'.heap.size w' w'') (h : queue_someG.f p k l0 = some r) :
    Calls Try.prog 23 #[.slice A0 l0.length c0, .func (.func 27) #[] #[.pointer (some ⟨g, 0, none⟩)]] w fun e w' => ∃ v0_ : Value, e = .returned (v0_) ∧ Kd.R k34 34 w' w.heap.size (fun _ => True) v0_ r ∧ Below w.heap.size w w' := by
 have hu34 := Try.underlying34
 have HR0 := Aside0.mk hr0
 have HC0 := Aside0.mk hc0
 have HCL := Aside0.mk hcl
 clear hr0 hc0 hcl
 have HB := Aside0.mk (Below.refl w.heap.size w)
 have H : ((table_Right.f k l0).bind fun t141 => (if t141 = true then (queue_someG.l0 p k ([] : List (S34)) l0 (l0.length : Int) 0) else (some ([] : List (S34))))) = some r := h
 clear h
 replace H := Option.bind_eq_some_iff.mp H
 obtain ⟨t141, A30, H⟩ := H
 replace H : (if t141 = true then (queue_someG.l0 p k ([] : List (S34)) l0 (l0.length : Int) 0) else (some ([] : List (S34)))) = some r := H
 have A3 := Aside0.mk A30
 clear A30
 by_cases c4 : t141 = true
 rotate_left
 · replace c4 := Bool.eq_false_iff.mpr c4
   subst c4
   have H1 : (some ([] : List (S34))) = some r := by rw [if_neg (show ¬ (false = true) by decide)] at H; exact H
   clear H
   have H := H1
   clear H1
   obtain rfl := Option.some.inj H
   go_enter Try.func23, Try.ntmps23
   go_wp2_with (first | ((with_reducible refine gate_callee (f := 35) rfl ?_); refine goesL_ (some 9) rfl rfl Try.func35 (by kernel_rfl) rfl #[.slice A0 l0.length c0] rfl sqA ?_; (with_reducible refine (table_Right.calls _ _ _ _ _ _ ?side1 ?side2 A3.out).mono ?_); (case side1 => repeat (first | exact HR0.out | (with_reducible refine Kd.C_alloc ?_ _) | (with_reducible refine Kd.C_drewN ?_ _) | (with_reducible refine Kd.C_drew ?_))); (case side2 => exact HC0.out); rintro e w20 ⟨rfl, hb⟩; refine ⟨_, rfl, ?_⟩; replace HB := sqM (below_step (sqB HB.out) hb); (try clear hb); (try clear hb2); (try clear hk); (try clear hi)))
   go_ret
   exact ⟨_, sqE, by first | exact Kd.R_nil _ _ _ _ _ | exact Kd.N_nil _ _ _ _ _ | exact Kd.V_nil _ _ _ _ _ | exact Kd.Q_nil _ _ _ _ _ | exact Kd.S_nil _ _ _ _ _, sqB HB.out⟩
 subst c4
 have H1 : (queue_someG.l0 p k ([] : List (S34)) l0 (l0.length : Int) 0) = some r := by rw [if_pos rfl] at H; exact H
 clear H
 have H := H1
 clear H1
 have H' := Aside0.mk H
 clear H
 go_enter Try.func23, Try.ntmps23
 go_wp2_with (first | ((with_reducible refine gate_callee (f := 35) rfl ?_); refine goesL_ (some 9) rfl rfl Try.func35 (by kernel_rfl) rfl #[.slice A0 l0.length c0] rfl sqA ?_; (with_reducible refine (table_Right.calls _ _ _ _ _ _ ?side1 ?side2 A3.out).mono ?_); (case side1 => repeat (first | exact HR0.out | (with_reducible refine Kd.C_alloc ?_ _) | (with_reducible refine Kd.C_drewN ?_ _) | (with_reducible refine Kd.C_drew ?_))); (case side2 => exact HC0.out); rintro e w5 ⟨rfl, hb⟩; refine ⟨_, rfl, ?_⟩; replace HB := sqM (below_step (sqB HB.out) hb); (try clear hb); (try clear hb2); (try clear hk); (try clear hi)))
 go_loopg [5, 13] k (fun kq v5 v13 w' => ∃ (x5_1 : List (S34)) (x13_1 : Int), v13 = .int .i64 x13_1 ∧ Aside0 (queue_someG.l0 p kq x5_1 l0 (l0.length : Int) x13_1 = some r) ∧ Aside0 (kq ≤ k) ∧ Aside0 (Kd.R k34 34 w' w.heap.size (fun _ => True) v5 x5_1) ∧ Aside0 (Below w.heap.size w w'))
 case atStart => exact ⟨(([] : List (S34))), (0), sqI, H', ⟨Nat.le_refl _⟩, ⟨by first | exact Kd.R_nil _ _ _ _ _ | exact Kd.N_nil _ _ _ _ _ | exact Kd.V_nil _ _ _ _ _ | exact Kd.Q_nil _ _ _ _ _ | exact Kd.S_nil _ _ _ _ _⟩, ⟨sqB HB.out⟩⟩
 clear H'
 try clear c2
 try clear p2
 try clear c3
 try clear c4
 obtain ⟨x5_1, x13_1, rfl, HA, HK1, HO_5, HB⟩ := hrel
 cases gk with
 | zero => exact absurd HA.out (by simp [queue_someG.l0])
 | succ k1 => ?_
 have H := HA.out
 clear HA
 simp only [queue_someG.l0] at H
 by_cases c6 : x13_1 < (l0.length : Int)
 rotate_left
 · rw [if_neg c6] at H
   have c6b0 : decide (x13_1 < (l0.length : Int)) = false := decide_eq_false c6
   clear c6
   obtain rfl := Option.some.inj H
   go_wp2
   go_ret
   exact ⟨_, sqE, by refine sqR ?_; exact HO_5.out, sqB HB.out⟩
 rw [if_pos c6] at H
 have c6b0 : decide (x13_1 < (l0.length : Int)) = true := decide_eq_true c6
 clear c6
 by_cases c7 : 0 ≤ x13_1
 rotate_left
 · rw [if_neg c7] at H
   exact absurd H (by simp)
 rw [if_pos c7] at H
 have c7b0 : decide (0 ≤ x13_1) = true := decide_eq_true c7
 clear c7
 by_cases c8 : x13_1 < (l0.length : Int)
 rotate_left
 · rw [if_neg c8] at H
   exact absurd H (by simp)
 rw [if_pos c8] at H
 have c8b0 : decide (x13_1 < (l0.length : Int)) = true := decide_eq_true c8
 clear c8
 replace H := Option.bind_eq_some_iff.mp H
 obtain ⟨t144, A90, H⟩ := H
 replace H : (if t144 = true then (if x5_1.length < 3518437208883 then (queue_someG.l0 p k1 (x5_1 ++ [(⟨(rd_T34 l0 x13_1).f0, (rd_T34 l0 x13_1).f1, (rd_T34 l0 x13_1).f2, (rd_T34 l0 x13_1).f3⟩ : S34)]) l0 (l0.length : Int) (wrap64 (x13_1 + 1))) else (none)) else (queue_someG.l0 p k1 x5_1 l0 (l0.length : Int) (wrap64 (x13_1 + 1)))) = some r := H
 have A9 := Aside0.mk A90
 clear A90
 by_cases c10 : t144 = true
 rotate_left
 · replace c10 := Bool.eq_false_iff.mpr c10
   subst c10
   have H1 : (queue_someG.l0 p k1 x5_1 l0 (l0.length : Int) (wrap64 (x13_1 + 1))) = some r := by rw [if_neg (show ¬ (false = true) by decide)] at H; exact H
   clear H
   have H := H1
   clear H1
   have H' := Aside0.mk H
   clear H
   have p142 : 0 ≤ (x13_1 : Int) := of_decide_eq_true sqH
   have q142 : x13_1 < (l0.length : Int) := of_decide_eq_true sqH
   obtain ⟨ad142, e142, hx142_0, hx142_1, hx142_2, hx142_3⟩ := at_T34 HR0.out x13_1 p142 q142
   cases e142
   replace hx142_0 := sqx HB.out hx142_0
   replace hx142_1 := sqx HB.out hx142_1
   replace hx142_2 := sqx HB.out hx142_2
   replace hx142_3 := sqx HB.out hx142_3
   replace p142 := eq_true p142
   replace q142 := eq_true q142
   go_wp2_with (first | ((with_reducible refine gate_dst (N := 7) rfl ?_); refine box_event rfl (N := 7) rfl (cs := #[.int .i64 0, .int .i64 0, .int .i64 0, .string (⟨#[]⟩ : ByteArray)]) (t := 34) sqs ?_; intro gb143 hg w17 hbox hb; have BK143 := sqM (hbox); have GW143 := sqM (sqZ hg (sqB HB.out)); have GE143 := sqM (sqZ hg (sqB HB.out)); replace HO_5 := sqM (sqRe (sqR HO_5.out) hg hb); replace HB := sqM (below_step (sqB HB.out) hb); clear hb hbox hg; obtain ⟨hcz18_0, hcz18_1, hcz18_2, hcz18_3, hfz18_0, hfz18_1, hfz18_2, hfz18_3⟩ := sqF4 BK143.out) | ((refine (HCL.out (rd_T34 l0 x13_1) false _ ?bcl A9.out).mono ?_); (case bcl => exact sqB1 HB.out GE143.out); rintro e w19 ⟨rfl, hb⟩; replace HO_5 := sqM (Kd.R_below (by refine sqR ?_; exact (sqR4 HO_5.out (fun k_ hk => hk.2))) hb); replace BK143 := sqM (blk_below (sqP4 BK143.out) hb); replace HB := sqM (below_step (sqB1 HB.out GE143.out) hb); (try clear hb); (try clear hb2); (try clear hk); (try clear hi)))
   go_roundg k1
   case measure => have := HK1.out; omega
   case rel => exact ⟨(x5_1), (wrap64 (x13_1 + 1)), sqI, H', ⟨by have := HK1.out; omega⟩, ⟨by refine sqR ?_; exact Kd.R_mono HO_5.out (fun _ hk => trivial)⟩, ⟨sqB1 HB.out GE143.out⟩⟩
 subst c10
 have H1 : (if x5_1.length < 3518437208883 then (queue_someG.l0 p k1 (x5_1 ++ [(⟨(rd_T34 l0 x13_1).f0, (rd_T34 l0 x13_1).f1, (rd_T34 l0 x13_1).f2, (rd_T34 l0 x13_1).f3⟩ : S34)]) l0 (l0.length : Int) (wrap64 (x13_1 + 1))) else (none)) = some r := by rw [if_pos rfl] at H; exact H
 clear H
 have H := H1
 clear H1
 by_cases c11 : x5_1.length < 3518437208883
 rotate_left
 · rw [if_neg c11] at H
   exact absurd H (by simp)
 rw [if_pos c11] at H
 have LMc11 := Aside0.mk c11
 clear c11
 obtain ⟨y145, hy145⟩ : ∃ y_ : List (S34), y_ = (x5_1 ++ [(⟨(rd_T34 l0 x13_1).f0, (rd_T34 l0 x13_1).f1, (rd_T34 l0 x13_1).f2, (rd_T34 l0 x13_1).f3⟩ : S34)]) := ⟨_, rfl⟩
 replace H : (queue_someG.l0 p k1 y145 l0 (l0.length : Int) (wrap64 (x13_1 + 1))) = some r := by first | (rw [hy145]; with_reducible exact H) | (have H2_ := (Option.bind_some _ _).symm.trans H; rw [hy145]; with_reducible exact H2_) | (have H2_ := (Option.bind_some _ _).symm.trans H; with_reducible exact H2_) | with_reducible exact H | (rw [hy145]; exact H) | exact H
 have Ny145 := Aside0.mk hy145
 clear hy145
 have H' := Aside0.mk H
 clear H
 have p142 : 0 ≤ (x13_1 : Int) := of_decide_eq_true sqH
 have q142 : x13_1 < (l0.length : Int) := of_decide_eq_true sqH
 obtain ⟨ad142, e142, hx142_0, hx142_1, hx142_2, hx142_3⟩ := at_T34 HR0.out x13_1 p142 q142
 cases e142
 replace hx142_0 := sqx HB.out hx142_0
 replace hx142_1 := sqx HB.out hx142_1
 replace hx142_2 := sqx HB.out hx142_2
 replace hx142_3 := sqx HB.out hx142_3
 replace p142 := eq_true p142
 replace q142 := eq_true q142
 go_wp2_with (first | ((with_reducible refine gate_dst (N := 7) rfl ?_); refine box_event rfl (N := 7) rfl (cs := #[.int .i64 0, .int .i64 0, .int .i64 0, .string (⟨#[]⟩ : ByteArray)]) (t := 34) sqs ?_; intro gb143 hg w12 hbox hb; have BK143 := sqM (hbox); have GW143 := sqM (sqZ hg (sqB HB.out)); have GE143 := sqM (sqZ hg (sqB HB.out)); replace HO_5 := sqM (sqRe (sqR HO_5.out) hg hb); replace HB := sqM (below_step (sqB HB.out) hb); clear hb hbox hg; obtain ⟨hcz13_0, hcz13_1, hcz13_2, hcz13_3, hfz13_0, hfz13_1, hfz13_2, hfz13_3⟩ := sqF4 BK143.out) | ((refine (HCL.out (rd_T34 l0 x13_1) true _ ?bcl A9.out).mono ?_); (case bcl => exact sqB1 HB.out GE143.out); rintro e w14 ⟨rfl, hb⟩; replace HO_5 := sqM (Kd.R_below (by refine sqR ?_; exact (sqR4 HO_5.out (fun k_ hk => hk.2))) hb); replace BK143 := sqM (blk_below (sqP4 BK143.out) hb); replace HB := sqM (below_step (sqB1 HB.out GE143.out) hb); (try clear hb); (try clear hb2); (try clear hk); (try clear hi); obtain ⟨hcz15_0, hcz15_1, hcz15_2, hcz15_3, hfz15_0, hfz15_1, hfz15_2, hfz15_3⟩ := sqF4 BK143.out) | ((with_reducible refine gate_builtin (b := .append) (xs := #[.tmp 20, .tmp 22]) rfl ?_); at_builtin; refine Kd.R_append k34 (w0 := w) w.heap.size rfl (.tmp 20) (.tmp 22) 22 34 (.agg #[(.int .i64 0), (.int .i64 0), (.int .i64 0), (.string ⟨#[]⟩)]) 40 rfl Try.underlying22 info34 rfl (by decide) (by omega) u5 x5_1 (⟨(rd_T34 l0 x13_1).f0, (rd_T34 l0 x13_1).f1, (rd_T34 l0 x13_1).f2, (rd_T34 l0 x13_1).f3⟩ : S34) [.int .i64 ((rd_T34 l0 x13_1).f0), .int .i64 ((rd_T34 l0 x13_1).f1), .int .i64 ((rd_T34 l0 x13_1).f2), .string ((rd_T34 l0 x13_1).f3)] (fun k_ => k_ ≠ gb143) (fun _ => False) rfl rfl ?aP (fun _ hk => hk.elim) ?aF ?aO ?aB ?aS ?aL ?_; (case aP => exact k34_mkM _ _ _ (⟨(rd_T34 l0 x13_1).f0, (rd_T34 l0 x13_1).f1, (rd_T34 l0 x13_1).f2, (rd_T34 l0 x13_1).f3⟩ : S34)); (case aB => exact (sqB1 HB.out GE143.out)); (case aF => exact (fun k_ hk => Kd.freshB (g := gb143) (o := .cells #[.int .i64 ((rd_T34 l0 x13_1).f0), .int .i64 ((rd_T34 l0 x13_1).f1), .int .i64 ((rd_T34 l0 x13_1).f2), .string ((rd_T34 l0 x13_1).f3)] 34 (0, 0)) (sqK BK143.out) k_ hk)); (case aO => exact (by refine sqR ?_; exact Kd.R_mono HO_5.out (fun _ hk => hk.2))); (case aS => exact (below_size (sqB1 HB.out GE143.out))); (case aL => have := LMc11.out; omega); intro v146 w16 ho hb hg hat; rw [← Ny145.out] at ho; have HO147 := sqM (ho); replace BK143 := sqM (blk_grown (g := gb143) (o := .cells #[.int .i64 ((rd_T34 l0 x13_1).f0), .int .i64 ((rd_T34 l0 x13_1).f1), .int .i64 ((rd_T34 l0 x13_1).f2), .string ((rd_T34 l0 x13_1).f3)] 34 (0, 0)) (sqK BK143.out) hg (Kd.R_away HO_5.out (fun _ hk => hk.2))); replace HB := sqM (hb); clear HO_5; clear ho hb hg hat))
 go_roundg k1
 case measure => have := HK1.out; omega
 case rel => exact ⟨(y145), (wrap64 (x13_1 + 1)), sqI, H', ⟨by have := HK1.out; omega⟩, ⟨by refine sqR ?_; exact Kd.R_mono HO147.out (fun _ hk => trivial)⟩, ⟨sqB1 HB.out GE143.out⟩⟩


set_option maxHeartbeats 8000000 in
set_option maxRecDepth 100000 in
theorem queue_some29.calls (p : PrG) (g g2 : Nat) (k : Nat) (A0 : Option Addr) (c0 : Nat) (l0 : List (S34)) (r : List (S34)) (w : World) (hr0 : Kd.C k34 w A0 l0.length l0) (hc0 : l0.length ≤ c0) (hcl : ∀ (x : S34) (b : Bool) (w' : World), Below w.heap.size w w' → p x.f0 x.f1 x.f2 x.f3 = some b → Calls Try.prog 29 #[.agg #[.int .i64 x.f0, .int .i64 x.f1, .int .i64 x.f2, .string x.f3], .pointer (some ⟨g, 0, none⟩), .pointer (some ⟨g2, 0, none⟩)] w' fun e w'' => e = .returned (.bool b) ∧ Below w'.heap.size w' w'') (h : queue_someG.f p k l0 = some r) :
    Calls Try.prog 23 #[.slice A0 l0.length c0, .func (.func 29) #[] #[.pointer (some ⟨g, 0, none⟩), .pointer (some ⟨g2, 0, none⟩)]] w fun e w' => ∃ v0_ : Value, e = .returned (v0_) ∧ Kd.R k34 34 w' w.heap.size (fun _ => True) v0_ r ∧ Below w.heap.size w w' := by
 have hu34 := Try.underlying34
 have HR0 := Aside0.mk hr0
 have HC0 := Aside0.mk hc0
 have HCL := Aside0.mk hcl
 clear hr0 hc0 hcl
 have HB := Aside0.mk (Below.refl w.heap.size w)
 have H : ((table_Right.f k l0).bind fun t141 => (if t141 = true then (queue_someG.l0 p k ([] : List (S34)) l0 (l0.length : Int) 0) else (some ([] : List (S34))))) = some r := h
 clear h
 replace H := Option.bind_eq_some_iff.mp H
 obtain ⟨t141, A30, H⟩ := H
 replace H : (if t141 = true then (queue_someG.l0 p k ([] : List (S34)) l0 (l0.length : Int) 0) else (some ([] : List (S34)))) = some r := H
 have A3 := Aside0.mk A30
 clear A30
 by_cases c4 : t141 = true
 rotate_left
 · replace c4 := Bool.eq_false_iff.mpr c4
   subst c4
   have H1 : (some ([] : List (S34))) = some r := by rw [if_neg (show ¬ (false = true) by decide)] at H; exact H
   clear H
   have H := H1
   clear H1
   obtain rfl := Option.some.inj H
   go_enter Try.func23, Try.ntmps23
   go_wp2_with (first | ((with_reducible refine gate_callee (f := 35) rfl ?_); refine goesL_ (some 9) rfl rfl Try.func35 (by kernel_rfl) rfl #[.slice A0 l0.length c0] rfl sqA ?_; (with_reducible refine (table_Right.calls _ _ _ _ _ _ ?side1 ?side2 A3.out).mono ?_); (case side1 => repeat (first | exact HR0.out | (with_reducible refine Kd.C_alloc ?_ _) | (with_reducible refine Kd.C_drewN ?_ _) | (with_reducible refine Kd.C_drew ?_))); (case side2 => exact HC0.out); rintro e w20 ⟨rfl, hb⟩; refine ⟨_, rfl, ?_⟩; replace HB := sqM (below_step (sqB HB.out) hb); (try clear hb); (try clear hb2); (try clear hk); (try clear hi)))
   go_ret
   exact ⟨_, sqE, by first | exact Kd.R_nil _ _ _ _ _ | exact Kd.N_nil _ _ _ _ _ | exact Kd.V_nil _ _ _ _ _ | exact Kd.Q_nil _ _ _ _ _ | exact Kd.S_nil _ _ _ _ _, sqB HB.out⟩
 subst c4
 have H1 : (queue_someG.l0 p k ([] : List (S34)) l0 (l0.length : Int) 0) = some r := by rw [if_pos rfl] at H; exact H
 clear H
 have H := H1
 clear H1
 have H' := Aside0.mk H
 clear H
 go_enter Try.func23, Try.ntmps23
 go_wp2_with (first | ((with_reducible refine gate_callee (f := 35) rfl ?_); refine goesL_ (some 9) rfl rfl Try.func35 (by kernel_rfl) rfl #[.slice A0 l0.length c0] rfl sqA ?_; (with_reducible refine (table_Right.calls _ _ _ _ _ _ ?side1 ?side2 A3.out).mono ?_); (case side1 => repeat (first | exact HR0.out | (with_reducible refine Kd.C_alloc ?_ _) | (with_reducible refine Kd.C_drewN ?_ _) | (with_reducible refine Kd.C_drew ?_))); (case side2 => exact HC0.out); rintro e w5 ⟨rfl, hb⟩; refine ⟨_, rfl, ?_⟩; replace HB := sqM (below_step (sqB HB.out) hb); (try clear hb); (try clear hb2); (try clear hk); (try clear hi)))
 go_loopg [5, 13] k (fun kq v5 v13 w' => ∃ (x5_1 : List (S34)) (x13_1 : Int), v13 = .int .i64 x13_1 ∧ Aside0 (queue_someG.l0 p kq x5_1 l0 (l0.length : Int) x13_1 = some r) ∧ Aside0 (kq ≤ k) ∧ Aside0 (Kd.R k34 34 w' w.heap.size (fun _ => True) v5 x5_1) ∧ Aside0 (Below w.heap.size w w'))
 case atStart => exact ⟨(([] : List (S34))), (0), sqI, H', ⟨Nat.le_refl _⟩, ⟨by first | exact Kd.R_nil _ _ _ _ _ | exact Kd.N_nil _ _ _ _ _ | exact Kd.V_nil _ _ _ _ _ | exact Kd.Q_nil _ _ _ _ _ | exact Kd.S_nil _ _ _ _ _⟩, ⟨sqB HB.out⟩⟩
 clear H'
 try clear c2
 try clear p2
 try clear c3
 try clear c4
 obtain ⟨x5_1, x13_1, rfl, HA, HK1, HO_5, HB⟩ := hrel
 cases gk with
 | zero => exact absurd HA.out (by simp [queue_someG.l0])
 | succ k1 => ?_
 have H := HA.out
 clear HA
 simp only [queue_someG.l0] at H
 by_cases c6 : x13_1 < (l0.length : Int)
 rotate_left
 · rw [if_neg c6] at H
   have c6b0 : decide (x13_1 < (l0.length : Int)) = false := decide_eq_false c6
   clear c6
   obtain rfl := Option.some.inj H
   go_wp2
   go_ret
   exact ⟨_, sqE, by refine sqR ?_; exact HO_5.out, sqB HB.out⟩
 rw [if_pos c6] at H
 have c6b0 : decide (x13_1 < (l0.length : Int)) = true := decide_eq_true c6
 clear c6
 by_cases c7 : 0 ≤ x13_1
 rotate_left
 · rw [if_neg c7] at H
   exact absurd H (by simp)
 rw [if_pos c7] at H
 have c7b0 : decide (0 ≤ x13_1) = true := decide_eq_true c7
 clear c7
 by_cases c8 : x13_1 < (l0.length : Int)
 rotate_left
 · rw [if_neg c8] at H
   exact absurd H (by simp)
 rw [if_pos c8] at H
 have c8b0 : decide (x13_1 < (l0.length : Int)) = true := decide_eq_true c8
 clear c8
 replace H := Option.bind_eq_some_iff.mp H
 obtain ⟨t144, A90, H⟩ := H
 replace H : (if t144 = true then (if x5_1.length < 3518437208883 then (queue_someG.l0 p k1 (x5_1 ++ [(⟨(rd_T34 l0 x13_1).f0, (rd_T34 l0 x13_1).f1, (rd_T34 l0 x13_1).f2, (rd_T34 l0 x13_1).f3⟩ : S34)]) l0 (l0.length : Int) (wrap64 (x13_1 + 1))) else (none)) else (queue_someG.l0 p k1 x5_1 l0 (l0.length : Int) (wrap64 (x13_1 + 1)))) = some r := H
 have A9 := Aside0.mk A90
 clear A90
 by_cases c10 : t144 = true
 rotate_left
 · replace c10 := Bool.eq_false_iff.mpr c10
   subst c10
   have H1 : (queue_someG.l0 p k1 x5_1 l0 (l0.length : Int) (wrap64 (x13_1 + 1))) = some r := by rw [if_neg (show ¬ (false = true) by decide)] at H; exact H
   clear H
   have H := H1
   clear H1
   have H' := Aside0.mk H
   clear H
   have p142 : 0 ≤ (x13_1 : Int) := of_decide_eq_true sqH
   have q142 : x13_1 < (l0.length : Int) := of_decide_eq_true sqH
   obtain ⟨ad142, e142, hx142_0, hx142_1, hx142_2, hx142_3⟩ := at_T34 HR0.out x13_1 p142 q142
   cases e142
   replace hx142_0 := sqx HB.out hx142_0
   replace hx142_1 := sqx HB.out hx142_1
   replace hx142_2 := sqx HB.out hx142_2
   replace hx142_3 := sqx HB.out hx142_3
   replace p142 := eq_true p142
   replace q142 := eq_true q142
   go_wp2_with (first | ((with_reducible refine gate_dst (N := 7) rfl ?_); refine box_event rfl (N := 7) rfl (cs := #[.int .i64 0, .int .i64 0, .int .i64 0, .string (⟨#[]⟩ : ByteArray)]) (t := 34) sqs ?_; intro gb143 hg w17 hbox hb; have BK143 := sqM (hbox); have GW143 := sqM (sqZ hg (sqB HB.out)); have GE143 := sqM (sqZ hg (sqB HB.out)); replace HO_5 := sqM (sqRe (sqR HO_5.out) hg hb); replace HB := sqM (below_step (sqB HB.out) hb); clear hb hbox hg; obtain ⟨hcz18_0, hcz18_1, hcz18_2, hcz18_3, hfz18_0, hfz18_1, hfz18_2, hfz18_3⟩ := sqF4 BK143.out) | ((refine (HCL.out (rd_T34 l0 x13_1) false _ ?bcl A9.out).mono ?_); (case bcl => exact sqB1 HB.out GE143.out); rintro e w19 ⟨rfl, hb⟩; replace HO_5 := sqM (Kd.R_below (by refine sqR ?_; exact (sqR4 HO_5.out (fun k_ hk => hk.2))) hb); replace BK143 := sqM (blk_below (sqP4 BK143.out) hb); replace HB := sqM (below_step (sqB1 HB.out GE143.out) hb); (try clear hb); (try clear hb2); (try clear hk); (try clear hi)))
   go_roundg k1
   case measure => have := HK1.out; omega
   case rel => exact ⟨(x5_1), (wrap64 (x13_1 + 1)), sqI, H', ⟨by have := HK1.out; omega⟩, ⟨by refine sqR ?_; exact Kd.R_mono HO_5.out (fun _ hk => trivial)⟩, ⟨sqB1 HB.out GE143.out⟩⟩
 subst c10
 have H1 : (if x5_1.length < 3518437208883 then (queue_someG.l0 p k1 (x5_1 ++ [(⟨(rd_T34 l0 x13_1).f0, (rd_T34 l0 x13_1).f1, (rd_T34 l0 x13_1).f2, (rd_T34 l0 x13_1).f3⟩ : S34)]) l0 (l0.length : Int) (wrap64 (x13_1 + 1))) else (none)) = some r := by rw [if_pos rfl] at H; exact H
 clear H
 have H := H1
 clear H1
 by_cases c11 : x5_1.length < 3518437208883
 rotate_left
 · rw [if_neg c11] at H
   exact absurd H (by simp)
 rw [if_pos c11] at H
 have LMc11 := Aside0.mk c11
 clear c11
 obtain ⟨y145, hy145⟩ : ∃ y_ : List (S34), y_ = (x5_1 ++ [(⟨(rd_T34 l0 x13_1).f0, (rd_T34 l0 x13_1).f1, (rd_T34 l0 x13_1).f2, (rd_T34 l0 x13_1).f3⟩ : S34)]) := ⟨_, rfl⟩
 replace H : (queue_someG.l0 p k1 y145 l0 (l0.length : Int) (wrap64 (x13_1 + 1))) = some r := by first | (rw [hy145]; with_reducible exact H) | (have H2_ := (Option.bind_some _ _).symm.trans H; rw [hy145]; with_reducible exact H2_) | (have H2_ := (Option.bind_some _ _).symm.trans H; with_reducible exact H2_) | with_reducible exact H | (rw [hy145]; exact H) | exact H
 have Ny145 := Aside0.mk hy145
 clear hy145
 have H' := Aside0.mk H
 clear H
 have p142 : 0 ≤ (x13_1 : Int) := of_decide_eq_true sqH
 have q142 : x13_1 < (l0.length : Int) := of_decide_eq_true sqH
 obtain ⟨ad142, e142, hx142_0, hx142_1, hx142_2, hx142_3⟩ := at_T34 HR0.out x13_1 p142 q142
 cases e142
 replace hx142_0 := sqx HB.out hx142_0
 replace hx142_1 := sqx HB.out hx142_1
 replace hx142_2 := sqx HB.out hx142_2
 replace hx142_3 := sqx HB.out hx142_3
 replace p142 := eq_true p142
 replace q142 := eq_true q142
 go_wp2_with (first | ((with_reducible refine gate_dst (N := 7) rfl ?_); refine box_event rfl (N := 7) rfl (cs := #[.int .i64 0, .int .i64 0, .int .i64 0, .string (⟨#[]⟩ : ByteArray)]) (t := 34) sqs ?_; intro gb143 hg w12 hbox hb; have BK143 := sqM (hbox); have GW143 := sqM (sqZ hg (sqB HB.out)); have GE143 := sqM (sqZ hg (sqB HB.out)); replace HO_5 := sqM (sqRe (sqR HO_5.out) hg hb); replace HB := sqM (below_step (sqB HB.out) hb); clear hb hbox hg; obtain ⟨hcz13_0, hcz13_1, hcz13_2, hcz13_3, hfz13_0, hfz13_1, hfz13_2, hfz13_3⟩ := sqF4 BK143.out) | ((refine (HCL.out (rd_T34 l0 x13_1) true _ ?bcl A9.out).mono ?_); (case bcl => exact sqB1 HB.out GE143.out); rintro e w14 ⟨rfl, hb⟩; replace HO_5 := sqM (Kd.R_below (by refine sqR ?_; exact (sqR4 HO_5.out (fun k_ hk => hk.2))) hb); replace BK143 := sqM (blk_below (sqP4 BK143.out) hb); replace HB := sqM (below_step (sqB1 HB.out GE143.out) hb); (try clear hb); (try clear hb2); (try clear hk); (try clear hi); obtain ⟨hcz15_0, hcz15_1, hcz15_2, hcz15_3, hfz15_0, hfz15_1, hfz15_2, hfz15_3⟩ := sqF4 BK143.out) | ((with_reducible refine gate_builtin (b := .append) (xs := #[.tmp 20, .tmp 22]) rfl ?_); at_builtin; refine Kd.R_append k34 (w0 := w) w.heap.size rfl (.tmp 20) (.tmp 22) 22 34 (.agg #[(.int .i64 0), (.int .i64 0), (.int .i64 0), (.string ⟨#[]⟩)]) 40 rfl Try.underlying22 info34 rfl (by decide) (by omega) u5 x5_1 (⟨(rd_T34 l0 x13_1).f0, (rd_T34 l0 x13_1).f1, (rd_T34 l0 x13_1).f2, (rd_T34 l0 x13_1).f3⟩ : S34) [.int .i64 ((rd_T34 l0 x13_1).f0), .int .i64 ((rd_T34 l0 x13_1).f1), .int .i64 ((rd_T34 l0 x13_1).f2), .string ((rd_T34 l0 x13_1).f3)] (fun k_ => k_ ≠ gb143) (fun _ => False) rfl rfl ?aP (fun _ hk => hk.elim) ?aF ?aO ?aB ?aS ?aL ?_; (case aP => exact k34_mkM _ _ _ (⟨(rd_T34 l0 x13_1).f0, (rd_T34 l0 x13_1).f1, (rd_T34 l0 x13_1).f2, (rd_T34 l0 x13_1).f3⟩ : S34)); (case aB => exact (sqB1 HB.out GE143.out)); (case aF => exact (fun k_ hk => Kd.freshB (g := gb143) (o := .cells #[.int .i64 ((rd_T34 l0 x13_1).f0), .int .i64 ((rd_T34 l0 x13_1).f1), .int .i64 ((rd_T34 l0 x13_1).f2), .string ((rd_T34 l0 x13_1).f3)] 34 (0, 0)) (sqK BK143.out) k_ hk)); (case aO => exact (by refine sqR ?_; exact Kd.R_mono HO_5.out (fun _ hk => hk.2))); (case aS => exact (below_size (sqB1 HB.out GE143.out))); (case aL => have := LMc11.out; omega); intro v146 w16 ho hb hg hat; rw [← Ny145.out] at ho; have HO147 := sqM (ho); replace BK143 := sqM (blk_grown (g := gb143) (o := .cells #[.int .i64 ((rd_T34 l0 x13_1).f0), .int .i64 ((rd_T34 l0 x13_1).f1), .int .i64 ((rd_T34 l0 x13_1).f2), .string ((rd_T34 l0 x13_1).f3)] 34 (0, 0)) (sqK BK143.out) hg (Kd.R_away HO_5.out (fun _ hk => hk.2))); replace HB := sqM (hb); clear HO_5; clear ho hb hg hat))
 go_roundg k1
 case measure => have := HK1.out; omega
 case rel => exact ⟨(y145), (wrap64 (x13_1 + 1)), sqI, H', ⟨by have := HK1.out; omega⟩, ⟨by refine sqR ?_; exact Kd.R_mono HO147.out (fun _ hk => trivial)⟩, ⟨sqB1 HB.out GE143.out⟩⟩

def queue_some.f (k : Nat) (l0 : List (S34)) (a1 : Unit) : Option ((List (S34))) := queue_someG.f queue_ByEnd_1.f k l0
theorem queue_some.mono : ∀ a0 a1 k, LeO (queue_some.f k a0 a1) (queue_some.f (k + 1) a0 a1) := fun a0 _ k => queue_someG.mono _ a0 k
theorem queue_some.calls (k : Nat) (A0 : Option Addr) (c0 : Nat) (l0 : List (S34)) (a1 : Unit) (r : List (S34)) (w : World) (hr0 : Kd.C k34 w A0 l0.length l0) (hc0 : l0.length ≤ c0) (h : queue_some.f k l0 a1 = some r) :
    Calls Try.prog 23 #[.slice A0 l0.length c0, .func (.func 24) #[] #[]] w fun e w' => ∃ v0_ : Value, e = .returned (v0_) ∧ Kd.R k34 34 w' w.heap.size (fun _ => True) v0_ r ∧ Below w.heap.size w w' :=
  queue_some24.calls queue_ByEnd_1.f k A0 c0 l0 r w hr0 hc0 (fun x b w' _ hp => queue_ByEnd_1.calls _ _ _ _ b w' hp) h

/-! ### queue_ByEnd: function 11 -/
def queue_ByEnd.f (k : Nat) (l0 : List (S34)) : Option ((List (S34))) := (queue_byEnd.f).bind fun t141 => ((queue_some.f k l0 ()).bind fun t142 => ((queue_sorter_sorted.f k t141 t142).bind fun t145 => (some t145)))
theorem queue_ByEnd.mono : ∀ a0 k, LeO (queue_ByEnd.f k a0) (queue_ByEnd.f (k + 1) a0) := by
 intro a0 k
 unfold queue_ByEnd.f
 repeat' first
  | (with_reducible exact queue_some.mono _ _ _)
  | (with_reducible exact queue_sorter_sorted.mono _ _ _)
  | (with_reducible exact LeO.refl _)
  | (with_reducible exact LeO.none _)
  | (with_reducible refine LeO.ite ?_ ?_)
  | (with_reducible refine LeO.bind ?_ (fun _ => ?_))
  | exact queue_some.mono _ _ _
  | exact queue_sorter_sorted.mono _ _ _
  | exact LeO.none _
  | refine LeO.ite ?_ ?_
  | refine LeO.bind ?_ (fun _ => ?_)
set_option maxHeartbeats 8000000 in
set_option maxRecDepth 100000 in
theorem queue_ByEnd.calls (k : Nat) (A0 : Option Addr) (c0 : Nat) (l0 : List (S34)) (r : List (S34)) (w : World) (hr0 : Kd.C k34 w A0 l0.length l0) (hc0 : l0.length ≤ c0) (h : queue_ByEnd.f k l0 = some r) :
    Calls Try.prog 11 #[.slice A0 l0.length c0] w fun e w' => ∃ v0_ : Value, e = .returned (v0_) ∧ Kd.R k34 34 w' w.heap.size (fun _ => True) v0_ r ∧ Below w.heap.size w w' := by
 have HR0 := Aside0.mk hr0
 have HC0 := Aside0.mk hc0
 clear hr0 hc0
 have HB := Aside0.mk (Below.refl w.heap.size w)
 have H : ((queue_byEnd.f).bind fun t141 => ((queue_some.f k l0 ()).bind fun t142 => ((queue_sorter_sorted.f k t141 t142).bind fun t145 => (some t145)))) = some r := h
 clear h
 replace H := Option.bind_eq_some_iff.mp H
 obtain ⟨t141, A20, H⟩ := H
 replace H : ((queue_some.f k l0 ()).bind fun t142 => ((queue_sorter_sorted.f k t141 t142).bind fun t145 => (some t145))) = some r := H
 have A2 := Aside0.mk A20
 clear A20
 replace H := Option.bind_eq_some_iff.mp H
 obtain ⟨t142, A30, H⟩ := H
 replace H : ((queue_sorter_sorted.f k t141 t142).bind fun t145 => (some t145)) = some r := H
 have A3 := Aside0.mk A30
 clear A30
 replace H := Option.bind_eq_some_iff.mp H
 obtain ⟨t145, A40, H⟩ := H
 replace H : (some t145) = some r := H
 have A4 := Aside0.mk A40
 clear A40
 obtain rfl := Option.some.inj H
 go_enter Try.func11, Try.ntmps11
 go_wp2_with (first | ((with_reducible refine gate_callee (f := 21) rfl ?_); refine goesL_ (some 3) rfl rfl Try.func21 (by kernel_rfl) rfl #[] rfl sqA ?_; (with_reducible refine (queue_byEnd.calls  t141 _ A2.out).mono ?_); rintro e w5 ⟨rfl, hb⟩; refine ⟨_, rfl, ?_⟩; replace HB := sqM (below_step (sqB HB.out) hb); (try clear hb); (try clear hb2); (try clear hk); (try clear hi)) | ((with_reducible refine gate_callee (f := 23) rfl ?_); refine goesL_ (some 5) rfl rfl Try.func23 (by kernel_rfl) rfl #[.slice A0 l0.length c0, .func (.func 24) #[] #[]] rfl sqA ?_; (with_reducible refine (queue_some.calls _ _ _ _ _ _ _ ?side1 ?side2 A3.out).mono ?_); (case side1 => repeat (first | exact (Kd.C_below HR0.out HB.out) | (with_reducible refine Kd.C_alloc ?_ _) | (with_reducible refine Kd.C_drewN ?_ _) | (with_reducible refine Kd.C_drew ?_))); (case side2 => exact HC0.out); rintro e w6 ⟨v143, rfl, ho0, hb⟩; refine ⟨_, rfl, ?_⟩; have HO144 := sqM (Kd.R_lower ho0 (below_size (sqB HB.out))); replace HB := sqM (below_step (sqB HB.out) hb); (try clear hb); (try clear hb2); (try clear hk); (try clear hi); (try clear ho0); obtain ⟨Ao7, co7, eo7⟩ := Kd.R_slice HO144.out; subst eo7) | ((with_reducible refine gate_callee (f := 22) rfl ?_); refine goesL_ (some 6) rfl rfl Try.func22 (by kernel_rfl) rfl #[.agg #[.func (.func 34) #[] #[]], .slice Ao7 t142.length co7] rfl sqA ?_; (with_reducible refine (queue_sorter_sorted.calls _ _ _ _ _ _ _ ?side1 ?side2 A4.out).mono ?_); (case side1 => repeat (first | exact (Kd.R_reads' HO144.out).2.2 | (with_reducible refine Kd.C_alloc ?_ _) | (with_reducible refine Kd.C_drewN ?_ _) | (with_reducible refine Kd.C_drew ?_))); (case side2 => exact (Kd.R_reads' HO144.out).2.1); rintro e w8 ⟨v146, rfl, ho0, hb⟩; refine ⟨_, rfl, ?_⟩; have HO147 := sqM (Kd.R_lower (Kd.R_new' ho0 (Kd.R_lt (sqR HO144.out))) (below_size (sqB HB.out))); replace HO144 := sqM (Kd.R_elder' (sqR HO144.out) (Kd.R_base ho0) hb); replace HB := sqM (below_step (sqB HB.out) hb); (try clear hb); (try clear hb2); (try clear hk); (try clear hi); (try clear ho0)))
 go_ret
 exact ⟨_, sqE, by refine sqR ?_; exact Kd.R_mono HO147.out (fun _ hk => trivial), sqB HB.out⟩

/-! ### table_Rests: function 32 -/
def table_Rests.f (a0_0 : Int) (a0_1 : Int) (a0_2 : Int) (a0_3 : ByteArray) (a1 : Int) : Option (Bool) := if a0_1 = 3 then (some (decide (a1 < a0_2))) else (some false)
set_option maxHeartbeats 8000000 in
set_option maxRecDepth 100000 in
theorem table_Rests.calls (a0_0 : Int) (a0_1 : Int) (a0_2 : Int) (a0_3 : ByteArray) (a1 : Int) (r : Bool) (w : World) (h : table_Rests.f a0_0 a0_1 a0_2 a0_3 a1 = some r) :
    Calls Try.prog 32 #[.agg #[.int .i64 a0_0, .int .i64 a0_1, .int .i64 a0_2, .string a0_3], .int .i64 a1] w fun e w' => e = .returned (.bool r) ∧ Below w.heap.size w w' := by
 have hu34 := Try.underlying34
 have HB := Aside0.mk (Below.refl w.heap.size w)
 have H : (if a0_1 = 3 then (some (decide (a1 < a0_2))) else (some false)) = some r := h
 clear h
 by_cases c3 : a0_1 = 3
 rotate_left
 · rw [if_neg c3] at H
   have c3b0 : (a0_1 == 3) = false := beq_eq_false_iff_ne.mpr c3
   have c3b1 : (a0_1 != 3) = true := bne_iff_ne.mpr c3
   obtain rfl := Option.some.inj H
   go_enter Try.func32, Try.ntmps32
   go_wp2_with (first | ((with_reducible refine gate_dst (N := 2) rfl ?_); refine box_event rfl (N := 2) rfl (cs := #[.int .i64 a0_0, .int .i64 a0_1, .int .i64 a0_2, .string a0_3]) (t := 34) sqs ?_; intro gb148 hg w6 hbox hb; have BK148 := sqM (hbox); have GW148 := sqM (sqZ hg (sqB HB.out)); have GE148 := sqM (sqZ hg (sqB HB.out)); replace HB := sqM (below_step (sqB HB.out) hb); clear hb hbox hg; obtain ⟨hcz7_0, hcz7_1, hcz7_2, hcz7_3, hfz7_0, hfz7_1, hfz7_2, hfz7_3⟩ := sqF4 BK148.out))
   go_ret
   exact ⟨sqE, sqB1 HB.out GE148.out⟩
 rw [if_pos c3] at H
 have c3b0 : (a0_1 == 3) = true := beq_iff_eq.mpr c3
 have c3b1 : (a0_1 != 3) = false := bne_eq_false_iff_eq.mpr c3
 clear c3
 obtain rfl := Option.some.inj H
 go_enter Try.func32, Try.ntmps32
 go_wp2_with (first | ((with_reducible refine gate_dst (N := 2) rfl ?_); refine box_event rfl (N := 2) rfl (cs := #[.int .i64 a0_0, .int .i64 a0_1, .int .i64 a0_2, .string a0_3]) (t := 34) sqs ?_; intro gb148 hg w4 hbox hb; have BK148 := sqM (hbox); have GW148 := sqM (sqZ hg (sqB HB.out)); have GE148 := sqM (sqZ hg (sqB HB.out)); replace HB := sqM (below_step (sqB HB.out) hb); clear hb hbox hg; obtain ⟨hcz5_0, hcz5_1, hcz5_2, hcz5_3, hfz5_0, hfz5_1, hfz5_2, hfz5_3⟩ := sqF4 BK148.out))
 go_ret
 exact ⟨sqE, sqB1 HB.out GE148.out⟩

end Go.Proofs.Ytkjmfnijagdhpaa.PQueue
