/- Lean functions for Go functions of the given program, and proofs that the code computes them, each under its theorem's own conditions. Written by a program of this session. -/
import Derived.Test.YtdajdpgnhjlbaaaDoorPLeasex0
import Derived.Test.YtdajdpgnhjlbaaaDoorPLeasex2
import Derived.Test.YtdajdpgnhjlbaaaDoorPLeasex3
namespace Go.Proofs.YtdajdpgnhjlbaaaDoor.PLease
open Go.RowKit Go.Proofs.YtdajdpgnhjlbaaaDoorW.PrintWords Go.Proofs.YtdajdpgnhjlbaaaDoorW.PrintLast Go.Proofs.YtdajdpgnhjlbaaaDoorW.PrintMore
attribute [local go_sem] max2_int min2_int max_two min_two max_three min_three max_four min_four   -- for this text's walks alone
set_option linter.unusedVariables false
set_option linter.unusedSimpArgs false

/-! ### table_Right: function 51 -/
def table_Right.l0 : Nat → List (S23) → List (S23) → Int → Int → Option (Bool)
  | 0, _, _, _, _ => none
  | k + 1, x0, x5, x6, x7 => if x7 < x6 then (if 0 ≤ x7 then (if x7 < (x5.length : Int) then ((record_Right.f ((rd_T23 x5 x7).f0) ((rd_T23 x5 x7).f1) ((rd_T23 x5 x7).f2) ((rd_T23 x5 x7).f3)).bind fun t208 => (if t208 = true then (if x7 > 0 then (if 0 ≤ (wrap64 (x7 - 1)) then (if (wrap64 (x7 - 1)) < (x0.length : Int) then (if ((rd_T23 x0 (wrap64 (x7 - 1))).f0) ≥ ((rd_T23 x5 x7).f0) then (some false) else (table_Right.l0 k x0 x5 x6 (wrap64 (x7 + 1)))) else (none)) else (none)) else (table_Right.l0 k x0 x5 x6 (wrap64 (x7 + 1)))) else (some false))) else (none)) else (none)) else (some (decide ((x0.length : Int) ≤ 64)))
def table_Right.f (k : Nat) (l0 : List (S23)) : Option (Bool) := table_Right.l0 k l0 l0 (l0.length : Int) 0
theorem table_Right.mono_l : ∀ k, (∀ y0 y1 y2 y3, LeO (table_Right.l0 k y0 y1 y2 y3) (table_Right.l0 (k + 1) y0 y1 y2 y3))
  | 0 => fun _ _ _ _ r h => by simp [table_Right.l0] at h
  | k + 1 => by
    have ih0 := table_Right.mono_l k
    · intro y0 y1 y2 y3
      unfold table_Right.l0
      repeat' first
      | (with_reducible exact ih0 _ _ _ _)
      | (with_reducible exact LeO.refl _)
      | (with_reducible exact LeO.none _)
      | (with_reducible refine LeO.ite ?_ ?_)
      | (with_reducible refine LeO.bind ?_ (fun _ => ?_))
theorem table_Right.mono : ∀ a0 k, LeO (table_Right.f k a0) (table_Right.f (k + 1) a0) := by
 intro a0 k
 have ih0 := table_Right.mono_l k
 unfold table_Right.f
 repeat' first
  | (with_reducible exact ih0 _ _ _ _)
  | (with_reducible exact LeO.refl _)
  | (with_reducible exact LeO.none _)
  | (with_reducible refine LeO.ite ?_ ?_)
  | (with_reducible refine LeO.bind ?_ (fun _ => ?_))
def table_Right.T4 : Bool × List (List Nat × List Nat) := (true, [([], []), ([0], [0]), ([1], [1]), ([2, 1], [2]), ([3], [3]), ([4, 3], [3, 4]), ([5, 3, 3], [3, 5]), ([6], [6]), ([6], [6]), ([8, 6], [6, 8]), ([7, 9, 6], [6, 7, 9]), ([10, 6], [6, 10]), ([11, 6], [6, 11]), ([6], [6]), ([13, 6], [6, 13]), ([12, 14, 6], [6, 12, 14]), ([6, 15, 3], [3, 6, 15]), ([3, 16], [3, 16])])
def table_Right.B4 : List Nat := [0, 1, 3, 7, 15, 31, 63, 127, 127, 383, 1023, 2047, 4095, 127, 8319, 32767, 65535, 131071]
theorem table_Right.tab4 : rtab .any (opsOf Tryd.f51 4) = table_Right.T4 := by kernel_rfl
theorem table_Right.bits4 : waitsOk table_Right.T4.2 table_Right.B4 = true := by kernel_rfl
set_option maxHeartbeats 8000000 in
set_option maxRecDepth 100000 in
theorem table_Right.calls (k : Nat) (A0 : Option Addr) (c0 : Nat) (l0 : List (S23)) (r : Bool) (w : World) (hr0 : Kd.C k23 w A0 l0.length l0) (hc0 : l0.length ≤ c0) (h : table_Right.f k l0 = some r) :
    Calls Tryd.prog 51 #[.slice A0 l0.length c0] w fun e w' => e = .returned (.bool r) ∧ Below w.heap.size w w' := by
 have hu23 := Tryd.underlying23
 have HR0 := Aside0.mk hr0
 have HC0 := Aside0.mk hc0
 clear hr0 hc0
 have HB := Aside0.mk (Below.refl w.heap.size w)
 have H : (table_Right.l0 k l0 l0 (l0.length : Int) 0) = some r := h
 clear h
 have H' := Aside0.mk H
 clear H
 go_enter Tryd.func51, Tryd.ntmps51
 go_wp2
 go_loopg [7] k (fun kq v7 w' => ∃ (x7_1 : Int), v7 = .int .i64 x7_1 ∧ Aside0 (table_Right.l0 kq l0 l0 (l0.length : Int) x7_1 = some r) ∧ Aside0 (kq ≤ k) ∧ Aside0 (Below w.heap.size w w'))
 case atStart => exact ⟨(0), sqI, H', ⟨Nat.le_refl _⟩, ⟨sqB HB.out⟩⟩
 clear H'
 obtain ⟨x7_1, rfl, HA, HK1, HB⟩ := hrel
 cases gk with
 | zero => exact absurd HA.out (by simp [table_Right.l0])
 | succ k1 => ?_
 have H := HA.out
 clear HA
 simp only [table_Right.l0] at H
 by_cases c2 : x7_1 < (l0.length : Int)
 rotate_left
 · rw [if_neg c2] at H
   have c2b0 : decide (x7_1 < (l0.length : Int)) = false := decide_eq_false c2
   clear c2
   obtain rfl := Option.some.inj H
   go_wp2
   go_ret
   exact ⟨sqE, sqB HB.out⟩
 rw [if_pos c2] at H
 have c2b0 : decide (x7_1 < (l0.length : Int)) = true := decide_eq_true c2
 clear c2
 by_cases c3 : 0 ≤ x7_1
 rotate_left
 · rw [if_neg c3] at H
   exact absurd H (by simp)
 rw [if_pos c3] at H
 have c3b0 : decide (0 ≤ x7_1) = true := decide_eq_true c3
 clear c3
 by_cases c4 : x7_1 < (l0.length : Int)
 rotate_left
 · rw [if_neg c4] at H
   exact absurd H (by simp)
 rw [if_pos c4] at H
 have c4b0 : decide (x7_1 < (l0.length : Int)) = true := decide_eq_true c4
 clear c4
 replace H := Option.bind_eq_some_iff.mp H
 obtain ⟨t208, A50, H⟩ := H
 replace H : (if t208 = true then (if x7_1 > 0 then (if 0 ≤ (wrap64 (x7_1 - 1)) then (if (wrap64 (x7_1 - 1)) < (l0.length : Int) then (if ((rd_T23 l0 (wrap64 (x7_1 - 1))).f0) ≥ ((rd_T23 l0 x7_1).f0) then (some false) else (table_Right.l0 k1 l0 l0 (l0.length : Int) (wrap64 (x7_1 + 1)))) else (none)) else (none)) else (table_Right.l0 k1 l0 l0 (l0.length : Int) (wrap64 (x7_1 + 1)))) else (some false)) = some r := H
 have A5 := Aside0.mk A50
 clear A50
 by_cases c6 : t208 = true
 rotate_left
 · replace c6 := Bool.eq_false_iff.mpr c6
   subst c6
   have H1 : (some false) = some r := by rw [if_neg (show ¬ (false = true) by decide)] at H; exact H
   clear H
   have H := H1
   clear H1
   obtain rfl := Option.some.inj H
   have p206 : 0 ≤ (x7_1 : Int) := of_decide_eq_true sqH
   have q206 : x7_1 < (l0.length : Int) := of_decide_eq_true sqH
   obtain ⟨ad206, e206, hx206_0, hx206_1, hx206_2, hx206_3⟩ := at_T23 HR0.out x7_1 p206 q206
   cases e206
   replace hx206_0 := sqx HB.out hx206_0
   replace hx206_1 := sqx HB.out hx206_1
   replace hx206_2 := sqx HB.out hx206_2
   replace hx206_3 := sqx HB.out hx206_3
   replace p206 := eq_true p206
   replace q206 := eq_true q206
   try go_wp2_with (first | ((with_reducible refine gate_dst (N := 4) rfl ?_); refine box_event rfl (N := 4) rfl (cs := #[.int .i64 0, .int .i64 0, .int .i64 0, .string (⟨#[]⟩ : ByteArray)]) (t := 23) sqs ?_; intro gb207 hg w27 hbox hb; have BK207 := sqM (hbox); have GW207 := sqM (sqZ hg (sqB HB.out)); have GE207 := sqM (sqZ hg (sqB HB.out)); replace HB := sqM (below_step (sqB HB.out) hb); clear hb hbox hg; obtain ⟨hcz28_0, hcz28_1, hcz28_2, hcz28_3, hfz28_0, hfz28_1, hfz28_2, hfz28_3⟩ := sqF4 BK207.out))
   have n0_ : Aside0 (((((w27.setCell ⟨gb207, 0, none⟩ (.int .i64 ((rd_T23 l0 x7_1).f0))).setCell ⟨gb207, 1, none⟩ (.int .i64 ((rd_T23 l0 x7_1).f1))).setCell ⟨gb207, 2, none⟩ (.int .i64 ((rd_T23 l0 x7_1).f2))).setCell ⟨gb207, 3, none⟩ (.string ((rd_T23 l0 x7_1).f3))).heap[gb207]? = some (.cells #[.int .i64 ((rd_T23 l0 x7_1).f0), .int .i64 ((rd_T23 l0 x7_1).f1), .int .i64 ((rd_T23 l0 x7_1).f2), .string ((rd_T23 l0 x7_1).f3)] 23 (0, 0))) := ⟨(sqK (sqP4 BK207.out))⟩
   have n1_ : Aside0 (Below w.heap.size w ((((w27.setCell ⟨gb207, 0, none⟩ (.int .i64 ((rd_T23 l0 x7_1).f0))).setCell ⟨gb207, 1, none⟩ (.int .i64 ((rd_T23 l0 x7_1).f1))).setCell ⟨gb207, 2, none⟩ (.int .i64 ((rd_T23 l0 x7_1).f2))).setCell ⟨gb207, 3, none⟩ (.string ((rd_T23 l0 x7_1).f3)))) := ⟨sqB1 HB.out GE207.out⟩
   (try clear BK207)
   (try clear HB)
   generalize ((((w27.setCell ⟨gb207, 0, none⟩ (.int .i64 ((rd_T23 l0 x7_1).f0))).setCell ⟨gb207, 1, none⟩ (.int .i64 ((rd_T23 l0 x7_1).f1))).setCell ⟨gb207, 2, none⟩ (.int .i64 ((rd_T23 l0 x7_1).f2))).setCell ⟨gb207, 3, none⟩ (.string ((rd_T23 l0 x7_1).f3))) = w29 at n0_ n1_ ⊢
   have BK207 := n0_
   have HB := n1_
   clear n0_ n1_
   replace BK207 := Aside0.mk (blk_drew BK207.out)
   replace HB := Aside0.mk (below_drew1 HB.out)
   refine start_ (n := 18) (S := fun w' => w'.cell? ⟨gb207, 0, none⟩ = some (.int .i64 ((rd_T23 l0 x7_1).f0)) ∧ w'.cell? ⟨gb207, 1, none⟩ = some (.int .i64 ((rd_T23 l0 x7_1).f1)) ∧ w'.cell? ⟨gb207, 2, none⟩ = some (.int .i64 ((rd_T23 l0 x7_1).f2)) ∧ w'.cell? ⟨gb207, 3, none⟩ = some (.string ((rd_T23 l0 x7_1).f3))) (ds := []) #[false, false, false, false, false, false, false, false, false, false, false, false, false, false, false, false, false, false] (by kernel_rfl) rfl rfl ⟨(blk_cell BK207.out 0).trans rfl, (blk_cell BK207.out 1).trans rfl, (blk_cell BK207.out 2).trans rfl, (blk_cell BK207.out 3).trans rfl⟩ (fun hHeld => ?_); refine with_tabW table_Right.tab4 table_Right.bits4 (fun HT_ HW_ => ?_)
   generalize w29.drew = w30 at BK207 HB hHeld ⊢
   refine take_ (i := 0) (N := some 12) (v := ?_) (a' := ?_) #[true, false, false, false, false, false, false, false, false, false, false, false, false, false, false, false, false, false] rfl rfl (take_ofW HT_.out HW_.out (by kernel_rfl)) (fun _ _ _ h => h) (Or.inl ⟨by rfl, ?_⟩) hHeld ?_ ?_
   rotate_left
   · rintro w' ⟨s0, s1, s2, s3⟩
     go_simp
     with_reducible rfl
   rotate_left
   · simp only [Act.put, List.setIfInBounds_toArray, List.set_cons_zero, List.set_cons_succ, i64_w, i32_w]
     rfl
   refine one_ (i := 1) (N := some 13) #[true, true, false, false, false, false, false, false, false, false, false, false, false, false, false, false, false, false] rfl rfl (one_of HT_.out (by kernel_rfl)) (by decide) (fun K hK => ?_)
   refine goes_ Tryd.func33 (by kernel_rfl) rfl #[.agg #[.int .i64 ((rd_T23 l0 x7_1).f0), .int .i64 ((rd_T23 l0 x7_1).f1), .int .i64 ((rd_T23 l0 x7_1).f2), .string ((rd_T23 l0 x7_1).f3)]] (by rfl) rfl rfl sqA ?_
   with_reducible refine (record_Right.calls _ _ _ _ _ _ A5.out).mono ?_
   rintro e w31 ⟨rfl, hb⟩
   refine ⟨_, rfl, ?_⟩
   replace BK207 := sqM (blk_below (sqK BK207.out) hb)
   replace HB := sqM (below_step (sqB1 HB.out GE207.out) hb)
   (try clear hb)
   (try clear hb2)
   (try clear hk)
   (try clear hi)
   refine hK.out _ _ ⟨(blk_cell BK207.out 0).trans rfl, (blk_cell BK207.out 1).trans rfl, (blk_cell BK207.out 2).trans rfl, (blk_cell BK207.out 3).trans rfl⟩ (fun hHeld => ?_)
   clear hK K
   refine norm_ (a' := ?_) ?_ ?_
   rotate_left
   · show Act.put _ (some 13) _ = _
     simp only [Act.put, List.setIfInBounds_toArray, List.set_cons_zero, List.set_cons_succ, i64_w, i32_w]
     rfl
   refine pure_ (i := 2) (N := some 14) (v := ?_) (a' := ?_) #[true, true, true, false, false, false, false, false, false, false, false, false, false, false, false, false, false, false] rfl rfl (any_of HT_.out (by kernel_rfl)) (fun _ _ _ h => h) (Or.inl ⟨by rfl, ?_⟩) ?_ ?_
   rotate_left
   · intro w'
     go_simp
     with_reducible rfl
   rotate_left
   · simp only [Act.put, List.setIfInBounds_toArray, List.set_cons_zero, List.set_cons_succ, i64_w, i32_w]
     rfl
   refine pure_ (i := 3) (N := some 15) (v := ?_) (a' := ?_) #[true, true, true, true, false, false, false, false, false, false, false, false, false, false, false, false, false, false] rfl rfl (any_of HT_.out (by kernel_rfl)) (fun _ _ _ h => h) (Or.inl ⟨by rfl, ?_⟩) ?_ ?_
   rotate_left
   · intro w'
     go_simp
     with_reducible rfl
   rotate_left
   · simp only [Act.put, List.setIfInBounds_toArray, List.set_cons_zero, List.set_cons_succ, i64_w, i32_w]
     rfl
   refine pure_ (i := 4) (N := some 16) (v := undef) (a' := ?_) #[true, true, true, true, true, false, false, false, false, false, false, false, false, false, false, false, false, false] rfl rfl (any_of HT_.out (by kernel_rfl)) (fun _ _ _ h => h) (Or.inr ⟨by rfl, rfl⟩) ?_ ?_
   rotate_left
   · simp only [Act.put, List.setIfInBounds_toArray, List.set_cons_zero, List.set_cons_succ, i64_w, i32_w]
     rfl
   refine pure_ (i := 5) (N := some 17) (v := undef) (a' := ?_) #[true, true, true, true, true, true, false, false, false, false, false, false, false, false, false, false, false, false] rfl rfl (any_of HT_.out (by kernel_rfl)) (fun _ _ _ h => h) (Or.inr ⟨by rfl, rfl⟩) ?_ ?_
   rotate_left
   · simp only [Act.put, List.setIfInBounds_toArray, List.set_cons_zero, List.set_cons_succ, i64_w, i32_w]
     rfl
   refine pure_ (i := 6) (N := some 18) (v := undef) (a' := ?_) #[true, true, true, true, true, true, true, false, false, false, false, false, false, false, false, false, false, false] rfl rfl (any_of HT_.out (by kernel_rfl)) (fun _ _ _ h => h) (Or.inr ⟨by rfl, rfl⟩) ?_ ?_
   rotate_left
   · simp only [Act.put, List.setIfInBounds_toArray, List.set_cons_zero, List.set_cons_succ, i64_w, i32_w]
     rfl
   refine pure_ (i := 7) (N := some 19) (v := undef) (a' := ?_) #[true, true, true, true, true, true, true, true, false, false, false, false, false, false, false, false, false, false] rfl rfl (any_of HT_.out (by kernel_rfl)) (fun _ _ _ h => h) (Or.inr ⟨by rfl, rfl⟩) ?_ ?_
   rotate_left
   · simp only [Act.put, List.setIfInBounds_toArray, List.set_cons_zero, List.set_cons_succ, i64_w, i32_w]
     rfl
   refine pure_ (i := 8) (N := some 20) (v := undef) (a' := ?_) #[true, true, true, true, true, true, true, true, true, false, false, false, false, false, false, false, false, false] rfl rfl (any_of HT_.out (by kernel_rfl)) (fun _ _ _ h => h) (Or.inr ⟨by rfl, rfl⟩) ?_ ?_
   rotate_left
   · simp only [Act.put, List.setIfInBounds_toArray, List.set_cons_zero, List.set_cons_succ, i64_w, i32_w]
     rfl
   refine pure_ (i := 9) (N := some 21) (v := undef) (a' := ?_) #[true, true, true, true, true, true, true, true, true, true, false, false, false, false, false, false, false, false] rfl rfl (any_of HT_.out (by kernel_rfl)) (fun _ _ _ h => h) (Or.inr ⟨by rfl, rfl⟩) ?_ ?_
   rotate_left
   · simp only [Act.put, List.setIfInBounds_toArray, List.set_cons_zero, List.set_cons_succ, i64_w, i32_w]
     rfl
   refine pure_ (i := 10) (N := some 22) (v := undef) (a' := ?_) #[true, true, true, true, true, true, true, true, true, true, true, false, false, false, false, false, false, false] rfl rfl (any_of HT_.out (by kernel_rfl)) (fun _ _ _ h => h) (Or.inr ⟨by rfl, rfl⟩) ?_ ?_
   rotate_left
   · simp only [Act.put, List.setIfInBounds_toArray, List.set_cons_zero, List.set_cons_succ, i64_w, i32_w]
     rfl
   refine pure_ (i := 11) (N := some 23) (v := undef) (a' := ?_) #[true, true, true, true, true, true, true, true, true, true, true, true, false, false, false, false, false, false] rfl rfl (any_of HT_.out (by kernel_rfl)) (fun _ _ _ h => h) (Or.inr ⟨by rfl, rfl⟩) ?_ ?_
   rotate_left
   · simp only [Act.put, List.setIfInBounds_toArray, List.set_cons_zero, List.set_cons_succ, i64_w, i32_w]
     rfl
   refine pure_ (i := 12) (N := some 24) (v := undef) (a' := ?_) #[true, true, true, true, true, true, true, true, true, true, true, true, true, false, false, false, false, false] rfl rfl (any_of HT_.out (by kernel_rfl)) (fun _ _ _ h => h) (Or.inr ⟨by rfl, rfl⟩) ?_ ?_
   rotate_left
   · simp only [Act.put, List.setIfInBounds_toArray, List.set_cons_zero, List.set_cons_succ, i64_w, i32_w]
     rfl
   refine pure_ (i := 13) (N := some 25) (v := undef) (a' := ?_) #[true, true, true, true, true, true, true, true, true, true, true, true, true, true, false, false, false, false] rfl rfl (any_of HT_.out (by kernel_rfl)) (fun _ _ _ h => h) (Or.inr ⟨by rfl, rfl⟩) ?_ ?_
   rotate_left
   · simp only [Act.put, List.setIfInBounds_toArray, List.set_cons_zero, List.set_cons_succ, i64_w, i32_w]
     rfl
   refine pure_ (i := 14) (N := some 26) (v := undef) (a' := ?_) #[true, true, true, true, true, true, true, true, true, true, true, true, true, true, true, false, false, false] rfl rfl (any_of HT_.out (by kernel_rfl)) (fun _ _ _ h => h) (Or.inr ⟨by rfl, rfl⟩) ?_ ?_
   rotate_left
   · simp only [Act.put, List.setIfInBounds_toArray, List.set_cons_zero, List.set_cons_succ, i64_w, i32_w]
     rfl
   refine pure_ (i := 15) (N := some 27) (v := undef) (a' := ?_) #[true, true, true, true, true, true, true, true, true, true, true, true, true, true, true, true, false, false] rfl rfl (any_of HT_.out (by kernel_rfl)) (fun _ _ _ h => h) (Or.inr ⟨by rfl, rfl⟩) ?_ ?_
   rotate_left
   · simp only [Act.put, List.setIfInBounds_toArray, List.set_cons_zero, List.set_cons_succ, i64_w, i32_w]
     rfl
   refine pure_ (i := 16) (N := some 28) (v := undef) (a' := ?_) #[true, true, true, true, true, true, true, true, true, true, true, true, true, true, true, true, true, false] rfl rfl (any_of HT_.out (by kernel_rfl)) (fun _ _ _ h => h) (Or.inr ⟨by rfl, rfl⟩) ?_ ?_
   rotate_left
   · simp only [Act.put, List.setIfInBounds_toArray, List.set_cons_zero, List.set_cons_succ, i64_w, i32_w]
     rfl
   refine pure_ (i := 17) (N := some 29) (v := ?_) (a' := ?_) #[true, true, true, true, true, true, true, true, true, true, true, true, true, true, true, true, true, true] rfl rfl (any_of HT_.out (by kernel_rfl)) (fun _ _ _ h => h) (Or.inl ⟨by rfl, ?_⟩) ?_ ?_
   rotate_left
   · intro w'
     go_simp
     with_reducible rfl
   rotate_left
   · simp only [Act.put, List.setIfInBounds_toArray, List.set_cons_zero, List.set_cons_succ, i64_w, i32_w]
     rfl
   refine done_ (done_of HT_.out (by kernel_rfl)) ?_
   try go_wp2
   go_ret
   exact ⟨sqE, sqB1 HB.out GE207.out⟩
 subst c6
 have H1 : (if x7_1 > 0 then (if 0 ≤ (wrap64 (x7_1 - 1)) then (if (wrap64 (x7_1 - 1)) < (l0.length : Int) then (if ((rd_T23 l0 (wrap64 (x7_1 - 1))).f0) ≥ ((rd_T23 l0 x7_1).f0) then (some false) else (table_Right.l0 k1 l0 l0 (l0.length : Int) (wrap64 (x7_1 + 1)))) else (none)) else (none)) else (table_Right.l0 k1 l0 l0 (l0.length : Int) (wrap64 (x7_1 + 1)))) = some r := by rw [if_pos rfl] at H; exact H
 clear H
 have H := H1
 clear H1
 by_cases c7 : x7_1 > 0
 rotate_left
 · rw [if_neg c7] at H
   have c7b0 : decide (0 < x7_1) = false := decide_eq_false c7
   clear c7
   have H' := Aside0.mk H
   clear H
   have p206 : 0 ≤ (x7_1 : Int) := of_decide_eq_true sqH
   have q206 : x7_1 < (l0.length : Int) := of_decide_eq_true sqH
   obtain ⟨ad206, e206, hx206_0, hx206_1, hx206_2, hx206_3⟩ := at_T23 HR0.out x7_1 p206 q206
   cases e206
   replace hx206_0 := sqx HB.out hx206_0
   replace hx206_1 := sqx HB.out hx206_1
   replace hx206_2 := sqx HB.out hx206_2
   replace hx206_3 := sqx HB.out hx206_3
   replace p206 := eq_true p206
   replace q206 := eq_true q206
   try go_wp2_with (first | ((with_reducible refine gate_dst (N := 4) rfl ?_); refine box_event rfl (N := 4) rfl (cs := #[.int .i64 0, .int .i64 0, .int .i64 0, .string (⟨#[]⟩ : ByteArray)]) (t := 23) sqs ?_; intro gb207 hg w22 hbox hb; have BK207 := sqM (hbox); have GW207 := sqM (sqZ hg (sqB HB.out)); have GE207 := sqM (sqZ hg (sqB HB.out)); replace HB := sqM (below_step (sqB HB.out) hb); clear hb hbox hg; obtain ⟨hcz23_0, hcz23_1, hcz23_2, hcz23_3, hfz23_0, hfz23_1, hfz23_2, hfz23_3⟩ := sqF4 BK207.out))
   have n0_ : Aside0 (((((w22.setCell ⟨gb207, 0, none⟩ (.int .i64 ((rd_T23 l0 x7_1).f0))).setCell ⟨gb207, 1, none⟩ (.int .i64 ((rd_T23 l0 x7_1).f1))).setCell ⟨gb207, 2, none⟩ (.int .i64 ((rd_T23 l0 x7_1).f2))).setCell ⟨gb207, 3, none⟩ (.string ((rd_T23 l0 x7_1).f3))).heap[gb207]? = some (.cells #[.int .i64 ((rd_T23 l0 x7_1).f0), .int .i64 ((rd_T23 l0 x7_1).f1), .int .i64 ((rd_T23 l0 x7_1).f2), .string ((rd_T23 l0 x7_1).f3)] 23 (0, 0))) := ⟨(sqK (sqP4 BK207.out))⟩
   have n1_ : Aside0 (Below w.heap.size w ((((w22.setCell ⟨gb207, 0, none⟩ (.int .i64 ((rd_T23 l0 x7_1).f0))).setCell ⟨gb207, 1, none⟩ (.int .i64 ((rd_T23 l0 x7_1).f1))).setCell ⟨gb207, 2, none⟩ (.int .i64 ((rd_T23 l0 x7_1).f2))).setCell ⟨gb207, 3, none⟩ (.string ((rd_T23 l0 x7_1).f3)))) := ⟨sqB1 HB.out GE207.out⟩
   (try clear BK207)
   (try clear HB)
   generalize ((((w22.setCell ⟨gb207, 0, none⟩ (.int .i64 ((rd_T23 l0 x7_1).f0))).setCell ⟨gb207, 1, none⟩ (.int .i64 ((rd_T23 l0 x7_1).f1))).setCell ⟨gb207, 2, none⟩ (.int .i64 ((rd_T23 l0 x7_1).f2))).setCell ⟨gb207, 3, none⟩ (.string ((rd_T23 l0 x7_1).f3))) = w24 at n0_ n1_ ⊢
   have BK207 := n0_
   have HB := n1_
   clear n0_ n1_
   replace BK207 := Aside0.mk (blk_drew BK207.out)
   replace HB := Aside0.mk (below_drew1 HB.out)
   refine start_ (n := 18) (S := fun w' => w'.cell? ⟨gb207, 0, none⟩ = some (.int .i64 ((rd_T23 l0 x7_1).f0)) ∧ w'.cell? ⟨gb207, 1, none⟩ = some (.int .i64 ((rd_T23 l0 x7_1).f1)) ∧ w'.cell? ⟨gb207, 2, none⟩ = some (.int .i64 ((rd_T23 l0 x7_1).f2)) ∧ w'.cell? ⟨gb207, 3, none⟩ = some (.string ((rd_T23 l0 x7_1).f3))) (ds := []) #[false, false, false, false, false, false, false, false, false, false, false, false, false, false, false, false, false, false] (by kernel_rfl) rfl rfl ⟨(blk_cell BK207.out 0).trans rfl, (blk_cell BK207.out 1).trans rfl, (blk_cell BK207.out 2).trans rfl, (blk_cell BK207.out 3).trans rfl⟩ (fun hHeld => ?_); refine with_tabW table_Right.tab4 table_Right.bits4 (fun HT_ HW_ => ?_)
   generalize w24.drew = w25 at BK207 HB hHeld ⊢
   refine take_ (i := 0) (N := some 12) (v := ?_) (a' := ?_) #[true, false, false, false, false, false, false, false, false, false, false, false, false, false, false, false, false, false] rfl rfl (take_ofW HT_.out HW_.out (by kernel_rfl)) (fun _ _ _ h => h) (Or.inl ⟨by rfl, ?_⟩) hHeld ?_ ?_
   rotate_left
   · rintro w' ⟨s0, s1, s2, s3⟩
     go_simp
     with_reducible rfl
   rotate_left
   · simp only [Act.put, List.setIfInBounds_toArray, List.set_cons_zero, List.set_cons_succ, i64_w, i32_w]
     rfl
   refine one_ (i := 1) (N := some 13) #[true, true, false, false, false, false, false, false, false, false, false, false, false, false, false, false, false, false] rfl rfl (one_of HT_.out (by kernel_rfl)) (by decide) (fun K hK => ?_)
   refine goes_ Tryd.func33 (by kernel_rfl) rfl #[.agg #[.int .i64 ((rd_T23 l0 x7_1).f0), .int .i64 ((rd_T23 l0 x7_1).f1), .int .i64 ((rd_T23 l0 x7_1).f2), .string ((rd_T23 l0 x7_1).f3)]] (by rfl) rfl rfl sqA ?_
   with_reducible refine (record_Right.calls _ _ _ _ _ _ A5.out).mono ?_
   rintro e w26 ⟨rfl, hb⟩
   refine ⟨_, rfl, ?_⟩
   replace BK207 := sqM (blk_below (sqK BK207.out) hb)
   replace HB := sqM (below_step (sqB1 HB.out GE207.out) hb)
   (try clear hb)
   (try clear hb2)
   (try clear hk)
   (try clear hi)
   refine hK.out _ _ ⟨(blk_cell BK207.out 0).trans rfl, (blk_cell BK207.out 1).trans rfl, (blk_cell BK207.out 2).trans rfl, (blk_cell BK207.out 3).trans rfl⟩ (fun hHeld => ?_)
   clear hK K
   refine norm_ (a' := ?_) ?_ ?_
   rotate_left
   · show Act.put _ (some 13) _ = _
     simp only [Act.put, List.setIfInBounds_toArray, List.set_cons_zero, List.set_cons_succ, i64_w, i32_w]
     rfl
   refine pure_ (i := 2) (N := some 14) (v := ?_) (a' := ?_) #[true, true, true, false, false, false, false, false, false, false, false, false, false, false, false, false, false, false] rfl rfl (any_of HT_.out (by kernel_rfl)) (fun _ _ _ h => h) (Or.inl ⟨by rfl, ?_⟩) ?_ ?_
   rotate_left
   · intro w'
     go_simp
     with_reducible rfl
   rotate_left
   · simp only [Act.put, List.setIfInBounds_toArray, List.set_cons_zero, List.set_cons_succ, i64_w, i32_w]
     rfl
   refine pure_ (i := 3) (N := some 15) (v := ?_) (a' := ?_) #[true, true, true, true, false, false, false, false, false, false, false, false, false, false, false, false, false, false] rfl rfl (any_of HT_.out (by kernel_rfl)) (fun _ _ _ h => h) (Or.inl ⟨by rfl, ?_⟩) ?_ ?_
   rotate_left
   · intro w'
     go_simp
     with_reducible rfl
   rotate_left
   · simp only [Act.put, List.setIfInBounds_toArray, List.set_cons_zero, List.set_cons_succ, i64_w, i32_w]
     rfl
   refine pure_ (i := 4) (N := some 16) (v := ?_) (a' := ?_) #[true, true, true, true, true, false, false, false, false, false, false, false, false, false, false, false, false, false] rfl rfl (any_of HT_.out (by kernel_rfl)) (fun _ _ _ h => h) (Or.inl ⟨by rfl, ?_⟩) ?_ ?_
   rotate_left
   · intro w'
     go_simp
     with_reducible rfl
   rotate_left
   · simp only [Act.put, List.setIfInBounds_toArray, List.set_cons_zero, List.set_cons_succ, i64_w, i32_w]
     rfl
   refine pure_ (i := 5) (N := some 17) (v := ?_) (a' := ?_) #[true, true, true, true, true, true, false, false, false, false, false, false, false, false, false, false, false, false] rfl rfl (any_of HT_.out (by kernel_rfl)) (fun _ _ _ h => h) (Or.inl ⟨by rfl, ?_⟩) ?_ ?_
   rotate_left
   · intro w'
     go_simp
     with_reducible rfl
   rotate_left
   · simp only [Act.put, List.setIfInBounds_toArray, List.set_cons_zero, List.set_cons_succ, i64_w, i32_w]
     rfl
   refine pure_ (i := 6) (N := some 18) (v := ?_) (a' := ?_) #[true, true, true, true, true, true, true, false, false, false, false, false, false, false, false, false, false, false] rfl rfl (any_of HT_.out (by kernel_rfl)) (fun _ _ _ h => h) (Or.inl ⟨by rfl, ?_⟩) ?_ ?_
   rotate_left
   · intro w'
     go_simp
     with_reducible rfl
   rotate_left
   · simp only [Act.put, List.setIfInBounds_toArray, List.set_cons_zero, List.set_cons_succ, i64_w, i32_w]
     rfl
   refine pure_ (i := 7) (N := some 19) (v := undef) (a' := ?_) #[true, true, true, true, true, true, true, true, false, false, false, false, false, false, false, false, false, false] rfl rfl (any_of HT_.out (by kernel_rfl)) (fun _ _ _ h => h) (Or.inr ⟨by rfl, rfl⟩) ?_ ?_
   rotate_left
   · simp only [Act.put, List.setIfInBounds_toArray, List.set_cons_zero, List.set_cons_succ, i64_w, i32_w]
     rfl
   refine pure_ (i := 8) (N := some 20) (v := undef) (a' := ?_) #[true, true, true, true, true, true, true, true, true, false, false, false, false, false, false, false, false, false] rfl rfl (any_of HT_.out (by kernel_rfl)) (fun _ _ _ h => h) (Or.inr ⟨by rfl, rfl⟩) ?_ ?_
   rotate_left
   · simp only [Act.put, List.setIfInBounds_toArray, List.set_cons_zero, List.set_cons_succ, i64_w, i32_w]
     rfl
   refine pure_ (i := 9) (N := some 21) (v := undef) (a' := ?_) #[true, true, true, true, true, true, true, true, true, true, false, false, false, false, false, false, false, false] rfl rfl (any_of HT_.out (by kernel_rfl)) (fun _ _ _ h => h) (Or.inr ⟨by rfl, rfl⟩) ?_ ?_
   rotate_left
   · simp only [Act.put, List.setIfInBounds_toArray, List.set_cons_zero, List.set_cons_succ, i64_w, i32_w]
     rfl
   refine pure_ (i := 10) (N := some 22) (v := undef) (a' := ?_) #[true, true, true, true, true, true, true, true, true, true, true, false, false, false, false, false, false, false] rfl rfl (any_of HT_.out (by kernel_rfl)) (fun _ _ _ h => h) (Or.inr ⟨by rfl, rfl⟩) ?_ ?_
   rotate_left
   · simp only [Act.put, List.setIfInBounds_toArray, List.set_cons_zero, List.set_cons_succ, i64_w, i32_w]
     rfl
   refine pure_ (i := 11) (N := some 23) (v := undef) (a' := ?_) #[true, true, true, true, true, true, true, true, true, true, true, true, false, false, false, false, false, false] rfl rfl (any_of HT_.out (by kernel_rfl)) (fun _ _ _ h => h) (Or.inr ⟨by rfl, rfl⟩) ?_ ?_
   rotate_left
   · simp only [Act.put, List.setIfInBounds_toArray, List.set_cons_zero, List.set_cons_succ, i64_w, i32_w]
     rfl
   refine pure_ (i := 12) (N := some 24) (v := undef) (a' := ?_) #[true, true, true, true, true, true, true, true, true, true, true, true, true, false, false, false, false, false] rfl rfl (any_of HT_.out (by kernel_rfl)) (fun _ _ _ h => h) (Or.inr ⟨by rfl, rfl⟩) ?_ ?_
   rotate_left
   · simp only [Act.put, List.setIfInBounds_toArray, List.set_cons_zero, List.set_cons_succ, i64_w, i32_w]
     rfl
   refine pure_ (i := 13) (N := some 25) (v := undef) (a' := ?_) #[true, true, true, true, true, true, true, true, true, true, true, true, true, true, false, false, false, false] rfl rfl (any_of HT_.out (by kernel_rfl)) (fun _ _ _ h => h) (Or.inr ⟨by rfl, rfl⟩) ?_ ?_
   rotate_left
   · simp only [Act.put, List.setIfInBounds_toArray, List.set_cons_zero, List.set_cons_succ, i64_w, i32_w]
     rfl
   refine pure_ (i := 14) (N := some 26) (v := undef) (a' := ?_) #[true, true, true, true, true, true, true, true, true, true, true, true, true, true, true, false, false, false] rfl rfl (any_of HT_.out (by kernel_rfl)) (fun _ _ _ h => h) (Or.inr ⟨by rfl, rfl⟩) ?_ ?_
   rotate_left
   · simp only [Act.put, List.setIfInBounds_toArray, List.set_cons_zero, List.set_cons_succ, i64_w, i32_w]
     rfl
   refine pure_ (i := 15) (N := some 27) (v := undef) (a' := ?_) #[true, true, true, true, true, true, true, true, true, true, true, true, true, true, true, true, false, false] rfl rfl (any_of HT_.out (by kernel_rfl)) (fun _ _ _ h => h) (Or.inr ⟨by rfl, rfl⟩) ?_ ?_
   rotate_left
   · simp only [Act.put, List.setIfInBounds_toArray, List.set_cons_zero, List.set_cons_succ, i64_w, i32_w]
     rfl
   refine pure_ (i := 16) (N := some 28) (v := ?_) (a' := ?_) #[true, true, true, true, true, true, true, true, true, true, true, true, true, true, true, true, true, false] rfl rfl (any_of HT_.out (by kernel_rfl)) (fun _ _ _ h => h) (Or.inl ⟨by rfl, ?_⟩) ?_ ?_
   rotate_left
   · intro w'
     go_simp
     with_reducible rfl
   rotate_left
   · simp only [Act.put, List.setIfInBounds_toArray, List.set_cons_zero, List.set_cons_succ, i64_w, i32_w]
     rfl
   refine pure_ (i := 17) (N := some 29) (v := ?_) (a' := ?_) #[true, true, true, true, true, true, true, true, true, true, true, true, true, true, true, true, true, true] rfl rfl (any_of HT_.out (by kernel_rfl)) (fun _ _ _ h => h) (Or.inl ⟨by rfl, ?_⟩) ?_ ?_
   rotate_left
   · intro w'
     go_simp
     with_reducible rfl
   rotate_left
   · simp only [Act.put, List.setIfInBounds_toArray, List.set_cons_zero, List.set_cons_succ, i64_w, i32_w]
     rfl
   refine done_ (done_of HT_.out (by kernel_rfl)) ?_
   try go_wp2
   go_roundg k1
   case measure => have := HK1.out; omega
   case rel => exact ⟨(wrap64 (x7_1 + 1)), sqI, H', ⟨by have := HK1.out; omega⟩, ⟨sqB1 HB.out GE207.out⟩⟩
 rw [if_pos c7] at H
 have c7b0 : decide (0 < x7_1) = true := decide_eq_true c7
 clear c7
 obtain ⟨ji8, hji8⟩ : ∃ j_ : Int, (wrap64 (x7_1 - 1)) = j_ := ⟨_, rfl⟩
 replace H : (if 0 ≤ (ji8) then (if (ji8) < (l0.length : Int) then (if ((rd_T23 l0 (ji8)).f0) ≥ ((rd_T23 l0 x7_1).f0) then (some false) else (table_Right.l0 k1 l0 l0 (l0.length : Int) (wrap64 (x7_1 + 1)))) else (none)) else (none)) = some r := by first | (rw [hji8] at H; exact H) | (simp only [hji8] at H ⊢; exact H)
 (try rw [hji8] at A5)
 have hji8w : (IntKind.i64.wrap (x7_1 - 1)) = ji8 := (i64_w _).trans hji8
 by_cases c9 : 0 ≤ (ji8)
 rotate_left
 · rw [if_neg c9] at H
   exact absurd H (by simp)
 rw [if_pos c9] at H
 have c9b0 : decide (0 ≤ (ji8)) = true := decide_eq_true c9
 clear c9
 by_cases c10 : (ji8) < (l0.length : Int)
 rotate_left
 · rw [if_neg c10] at H
   exact absurd H (by simp)
 rw [if_pos c10] at H
 have c10b0 : decide ((ji8) < (l0.length : Int)) = true := decide_eq_true c10
 clear c10
 by_cases c11 : ((rd_T23 l0 (ji8)).f0) ≥ ((rd_T23 l0 x7_1).f0)
 · rw [if_pos c11] at H
   have c11b0 : decide (((rd_T23 l0 x7_1).f0) ≤ ((rd_T23 l0 (ji8)).f0)) = true := decide_eq_true c11
   clear c11
   obtain rfl := Option.some.inj H
   have p206 : 0 ≤ (x7_1 : Int) := of_decide_eq_true sqH
   have q206 : x7_1 < (l0.length : Int) := of_decide_eq_true sqH
   obtain ⟨ad206, e206, hx206_0, hx206_1, hx206_2, hx206_3⟩ := at_T23 HR0.out x7_1 p206 q206
   cases e206
   replace hx206_0 := sqx HB.out hx206_0
   replace hx206_1 := sqx HB.out hx206_1
   replace hx206_2 := sqx HB.out hx206_2
   replace hx206_3 := sqx HB.out hx206_3
   replace p206 := eq_true p206
   replace q206 := eq_true q206
   try go_wp2_with (first | ((with_reducible refine gate_dst (N := 4) rfl ?_); refine box_event rfl (N := 4) rfl (cs := #[.int .i64 0, .int .i64 0, .int .i64 0, .string (⟨#[]⟩ : ByteArray)]) (t := 23) sqs ?_; intro gb207 hg w12 hbox hb; have BK207 := sqM (hbox); have GW207 := sqM (sqZ hg (sqB HB.out)); have GE207 := sqM (sqZ hg (sqB HB.out)); replace HB := sqM (below_step (sqB HB.out) hb); clear hb hbox hg; obtain ⟨hcz13_0, hcz13_1, hcz13_2, hcz13_3, hfz13_0, hfz13_1, hfz13_2, hfz13_3⟩ := sqF4 BK207.out))
   have n0_ : Aside0 (((((w12.setCell ⟨gb207, 0, none⟩ (.int .i64 ((rd_T23 l0 x7_1).f0))).setCell ⟨gb207, 1, none⟩ (.int .i64 ((rd_T23 l0 x7_1).f1))).setCell ⟨gb207, 2, none⟩ (.int .i64 ((rd_T23 l0 x7_1).f2))).setCell ⟨gb207, 3, none⟩ (.string ((rd_T23 l0 x7_1).f3))).heap[gb207]? = some (.cells #[.int .i64 ((rd_T23 l0 x7_1).f0), .int .i64 ((rd_T23 l0 x7_1).f1), .int .i64 ((rd_T23 l0 x7_1).f2), .string ((rd_T23 l0 x7_1).f3)] 23 (0, 0))) := ⟨(sqK (sqP4 BK207.out))⟩
   have n1_ : Aside0 (Below w.heap.size w ((((w12.setCell ⟨gb207, 0, none⟩ (.int .i64 ((rd_T23 l0 x7_1).f0))).setCell ⟨gb207, 1, none⟩ (.int .i64 ((rd_T23 l0 x7_1).f1))).setCell ⟨gb207, 2, none⟩ (.int .i64 ((rd_T23 l0 x7_1).f2))).setCell ⟨gb207, 3, none⟩ (.string ((rd_T23 l0 x7_1).f3)))) := ⟨sqB1 HB.out GE207.out⟩
   (try clear BK207)
   (try clear HB)
   generalize ((((w12.setCell ⟨gb207, 0, none⟩ (.int .i64 ((rd_T23 l0 x7_1).f0))).setCell ⟨gb207, 1, none⟩ (.int .i64 ((rd_T23 l0 x7_1).f1))).setCell ⟨gb207, 2, none⟩ (.int .i64 ((rd_T23 l0 x7_1).f2))).setCell ⟨gb207, 3, none⟩ (.string ((rd_T23 l0 x7_1).f3))) = w14 at n0_ n1_ ⊢
   have BK207 := n0_
   have HB := n1_
   clear n0_ n1_
   replace BK207 := sqM (blk_drew BK207.out)
   replace HB := sqM (below_drew1 HB.out)
   have p209 : 0 ≤ ((ji8) : Int) := of_decide_eq_true sqH
   have q209 : (ji8) < (l0.length : Int) := of_decide_eq_true sqH
   obtain ⟨ad209, e209, hx209_0, hx209_1, hx209_2, hx209_3⟩ := at_T23 HR0.out (ji8) p209 q209
   have hw209_3 := hx209_3
   have hw209_2 := hx209_2
   have hw209_1 := hx209_1
   have hw209_0 := hx209_0
   obtain rfl : ad206 = ad209 := (by injection e209)
   replace hx209_0 := sqx HB.out hx209_0
   replace hx209_1 := sqx HB.out hx209_1
   replace hx209_2 := sqx HB.out hx209_2
   replace hx209_3 := sqx HB.out hx209_3
   replace p209 := eq_true p209
   replace q209 := eq_true q209
   refine start_ (n := 18) (S := fun w' => w'.cell? ⟨gb207, 0, none⟩ = some (.int .i64 ((rd_T23 l0 x7_1).f0)) ∧ w'.cell? ⟨gb207, 1, none⟩ = some (.int .i64 ((rd_T23 l0 x7_1).f1)) ∧ w'.cell? ⟨gb207, 2, none⟩ = some (.int .i64 ((rd_T23 l0 x7_1).f2)) ∧ w'.cell? ⟨gb207, 3, none⟩ = some (.string ((rd_T23 l0 x7_1).f3)) ∧ w'.cell? (ad206.add (((ji8)).toNat * 4)) = some (.int .i64 ((rd_T23 l0 (ji8)).f0)) ∧ w'.cell? ⟨(ad206.add (((ji8)).toNat * 4)).block, (ad206.add (((ji8)).toNat * 4)).off + 1, none⟩ = some (.int .i64 ((rd_T23 l0 (ji8)).f1)) ∧ w'.cell? ⟨(ad206.add (((ji8)).toNat * 4)).block, (ad206.add (((ji8)).toNat * 4)).off + 2, none⟩ = some (.int .i64 ((rd_T23 l0 (ji8)).f2)) ∧ w'.cell? ⟨(ad206.add (((ji8)).toNat * 4)).block, (ad206.add (((ji8)).toNat * 4)).off + 3, none⟩ = some (.string ((rd_T23 l0 (ji8)).f3))) (ds := []) #[false, false, false, false, false, false, false, false, false, false, false, false, false, false, false, false, false, false] (by kernel_rfl) rfl rfl ⟨(blk_cell BK207.out 0).trans rfl, (blk_cell BK207.out 1).trans rfl, (blk_cell BK207.out 2).trans rfl, (blk_cell BK207.out 3).trans rfl, ((HB.out.cell (World.block_lt_of_cell? w _ hw209_0)).trans hw209_0), ((HB.out.cell (World.block_lt_of_cell? w _ hw209_1)).trans hw209_1), ((HB.out.cell (World.block_lt_of_cell? w _ hw209_2)).trans hw209_2), ((HB.out.cell (World.block_lt_of_cell? w _ hw209_3)).trans hw209_3)⟩ (fun hHeld => ?_); refine with_tabW table_Right.tab4 table_Right.bits4 (fun HT_ HW_ => ?_)
   generalize w14.drew = w15 at BK207 HB hx209_0 hx209_1 hx209_2 hx209_3 hHeld ⊢
   refine take_ (i := 0) (N := some 12) (v := ?_) (a' := ?_) #[true, false, false, false, false, false, false, false, false, false, false, false, false, false, false, false, false, false] rfl rfl (take_ofW HT_.out HW_.out (by kernel_rfl)) (fun _ _ _ h => h) (Or.inl ⟨by rfl, ?_⟩) hHeld ?_ ?_
   rotate_left
   · rintro w' ⟨s0, s1, s2, s3, s4, s5, s6, s7⟩
     go_simp
     with_reducible rfl
   rotate_left
   · simp only [Act.put, List.setIfInBounds_toArray, List.set_cons_zero, List.set_cons_succ, i64_w, i32_w]
     rfl
   refine one_ (i := 1) (N := some 13) #[true, true, false, false, false, false, false, false, false, false, false, false, false, false, false, false, false, false] rfl rfl (one_of HT_.out (by kernel_rfl)) (by decide) (fun K hK => ?_)
   refine goes_ Tryd.func33 (by kernel_rfl) rfl #[.agg #[.int .i64 ((rd_T23 l0 x7_1).f0), .int .i64 ((rd_T23 l0 x7_1).f1), .int .i64 ((rd_T23 l0 x7_1).f2), .string ((rd_T23 l0 x7_1).f3)]] (by rfl) rfl rfl sqA ?_
   with_reducible refine (record_Right.calls _ _ _ _ _ _ A5.out).mono ?_
   rintro e w16 ⟨rfl, hb⟩
   refine ⟨_, rfl, ?_⟩
   replace BK207 := sqM (blk_below (sqK BK207.out) hb)
   replace HB := sqM (below_step (sqB1 HB.out GE207.out) hb)
   (try clear hb)
   (try clear hb2)
   (try clear hk)
   (try clear hi)
   refine hK.out _ _ ⟨(blk_cell BK207.out 0).trans rfl, (blk_cell BK207.out 1).trans rfl, (blk_cell BK207.out 2).trans rfl, (blk_cell BK207.out 3).trans rfl, ((HB.out.cell (World.block_lt_of_cell? w _ hw209_0)).trans hw209_0), ((HB.out.cell (World.block_lt_of_cell? w _ hw209_1)).trans hw209_1), ((HB.out.cell (World.block_lt_of_cell? w _ hw209_2)).trans hw209_2), ((HB.out.cell (World.block_lt_of_cell? w _ hw209_3)).trans hw209_3)⟩ (fun hHeld => ?_)
   clear hK K
   refine norm_ (a' := ?_) ?_ ?_
   rotate_left
   · show Act.put _ (some 13) _ = _
     simp only [Act.put, List.setIfInBounds_toArray, List.set_cons_zero, List.set_cons_succ, i64_w, i32_w]
     rfl
   refine pure_ (i := 2) (N := some 14) (v := ?_) (a' := ?_) #[true, true, true, false, false, false, false, false, false, false, false, false, false, false, false, false, false, false] rfl rfl (any_of HT_.out (by kernel_rfl)) (fun _ _ _ h => h) (Or.inl ⟨by rfl, ?_⟩) ?_ ?_
   rotate_left
   · intro w'
     go_simp
     with_reducible rfl
   rotate_left
   · simp only [Act.put, List.setIfInBounds_toArray, List.set_cons_zero, List.set_cons_succ, i64_w, i32_w]
     rfl
   refine pure_ (i := 3) (N := some 15) (v := ?_) (a' := ?_) #[true, true, true, true, false, false, false, false, false, false, false, false, false, false, false, false, false, false] rfl rfl (any_of HT_.out (by kernel_rfl)) (fun _ _ _ h => h) (Or.inl ⟨by rfl, ?_⟩) ?_ ?_
   rotate_left
   · intro w'
     go_simp
     with_reducible rfl
   rotate_left
   · simp only [Act.put, List.setIfInBounds_toArray, List.set_cons_zero, List.set_cons_succ, i64_w, i32_w]
     rfl
   refine pure_ (i := 4) (N := some 16) (v := ?_) (a' := ?_) #[true, true, true, true, true, false, false, false, false, false, false, false, false, false, false, false, false, false] rfl rfl (any_of HT_.out (by kernel_rfl)) (fun _ _ _ h => h) (Or.inl ⟨by rfl, ?_⟩) ?_ ?_
   rotate_left
   · intro w'
     go_simp
     with_reducible rfl
   rotate_left
   · simp only [Act.put, List.setIfInBounds_toArray, List.set_cons_zero, List.set_cons_succ, i64_w, i32_w]
     rfl
   refine pure_ (i := 5) (N := some 17) (v := ?_) (a' := ?_) #[true, true, true, true, true, true, false, false, false, false, false, false, false, false, false, false, false, false] rfl rfl (any_of HT_.out (by kernel_rfl)) (fun _ _ _ h => h) (Or.inl ⟨by rfl, ?_⟩) ?_ ?_
   rotate_left
   · intro w'
     go_simp
     with_reducible rfl
   rotate_left
   · simp only [Act.put, List.setIfInBounds_toArray, List.set_cons_zero, List.set_cons_succ, i64_w, i32_w]
     rfl
   refine pure_ (i := 6) (N := some 18) (v := ?_) (a' := ?_) #[true, true, true, true, true, true, true, false, false, false, false, false, false, false, false, false, false, false] rfl rfl (any_of HT_.out (by kernel_rfl)) (fun _ _ _ h => h) (Or.inl ⟨by rfl, ?_⟩) ?_ ?_
   rotate_left
   · intro w'
     go_simp
     with_reducible rfl
   rotate_left
   · simp only [Act.put, List.setIfInBounds_toArray, List.set_cons_zero, List.set_cons_succ, i64_w, i32_w]
     rfl
   refine pure_ (i := 7) (N := some 19) (v := ?_) (a' := ?_) #[true, true, true, true, true, true, true, true, false, false, false, false, false, false, false, false, false, false] rfl rfl (any_of HT_.out (by kernel_rfl)) (fun _ _ _ h => h) (Or.inl ⟨by rfl, ?_⟩) ?_ ?_
   rotate_left
   · intro w'
     go_simp
     with_reducible rfl
   rotate_left
   · simp only [Act.put, List.setIfInBounds_toArray, List.set_cons_zero, List.set_cons_succ, i64_w, i32_w]
     rfl
   refine pure_ (i := 8) (N := some 20) (v := ?_) (a' := ?_) #[true, true, true, true, true, true, true, true, true, false, false, false, false, false, false, false, false, false] rfl rfl (any_of HT_.out (by kernel_rfl)) (fun _ _ _ h => h) (Or.inl ⟨by rfl, ?_⟩) ?_ ?_
   rotate_left
   · intro w'
     go_simp
     with_reducible rfl
   rotate_left
   · simp only [Act.put, List.setIfInBounds_toArray, List.set_cons_zero, List.set_cons_succ, i64_w, i32_w]
     rfl
   refine pure_ (i := 9) (N := some 21) (v := ?_) (a' := ?_) #[true, true, true, true, true, true, true, true, true, true, false, false, false, false, false, false, false, false] rfl rfl (any_of HT_.out (by kernel_rfl)) (fun _ _ _ h => h) (Or.inl ⟨by rfl, ?_⟩) ?_ ?_
   rotate_left
   · intro w'
     go_simp
     with_reducible rfl
   rotate_left
   · simp only [Act.put, List.setIfInBounds_toArray, List.set_cons_zero, List.set_cons_succ, i64_w, i32_w]
     rfl
   refine pure_ (i := 10) (N := some 22) (v := ?_) (a' := ?_) #[true, true, true, true, true, true, true, true, true, true, true, false, false, false, false, false, false, false] rfl rfl (any_of HT_.out (by kernel_rfl)) (fun _ _ _ h => h) (Or.inl ⟨by rfl, ?_⟩) ?_ ?_
   rotate_left
   · intro w'
     go_simp
     with_reducible rfl
   rotate_left
   · simp only [Act.put, List.setIfInBounds_toArray, List.set_cons_zero, List.set_cons_succ, i64_w, i32_w]
     rfl
   refine pure_ (i := 11) (N := some 23) (v := ?_) (a' := ?_) #[true, true, true, true, true, true, true, true, true, true, true, true, false, false, false, false, false, false] rfl rfl (any_of HT_.out (by kernel_rfl)) (fun _ _ _ h => h) (Or.inl ⟨by rfl, ?_⟩) ?_ ?_
   rotate_left
   · intro w'
     go_simp
     with_reducible rfl
   rotate_left
   · simp only [Act.put, List.setIfInBounds_toArray, List.set_cons_zero, List.set_cons_succ, i64_w, i32_w]
     rfl
   refine pure_ (i := 13) (N := some 25) (v := ?_) (a' := ?_) #[true, true, true, true, true, true, true, true, true, true, true, true, false, true, false, false, false, false] rfl rfl (any_of HT_.out (by kernel_rfl)) (fun _ _ _ h => h) (Or.inl ⟨by rfl, ?_⟩) ?_ ?_
   rotate_left
   · intro w'
     go_simp
     with_reducible rfl
   rotate_left
   · simp only [Act.put, List.setIfInBounds_toArray, List.set_cons_zero, List.set_cons_succ, i64_w, i32_w]
     rfl
   refine take_ (i := 12) (N := some 24) (v := ?_) (a' := ?_) #[true, true, true, true, true, true, true, true, true, true, true, true, true, true, false, false, false, false] rfl rfl (take_ofW HT_.out HW_.out (by kernel_rfl)) (fun _ _ _ h => h) (Or.inl ⟨by rfl, ?_⟩) hHeld ?_ ?_
   rotate_left
   · rintro w' ⟨s0, s1, s2, s3, s4, s5, s6, s7⟩
     go_simp
     with_reducible rfl
   rotate_left
   · simp only [Act.put, List.setIfInBounds_toArray, List.set_cons_zero, List.set_cons_succ, i64_w, i32_w]
     rfl
   refine take_ (i := 14) (N := some 26) (v := ?_) (a' := ?_) #[true, true, true, true, true, true, true, true, true, true, true, true, true, true, true, false, false, false] rfl rfl (take_ofW HT_.out HW_.out (by kernel_rfl)) (fun _ _ _ h => h) (Or.inl ⟨by rfl, ?_⟩) hHeld ?_ ?_
   rotate_left
   · rintro w' ⟨s0, s1, s2, s3, s4, s5, s6, s7⟩
     go_simp
     with_reducible rfl
   rotate_left
   · simp only [Act.put, List.setIfInBounds_toArray, List.set_cons_zero, List.set_cons_succ, i64_w, i32_w]
     rfl
   refine pure_ (i := 15) (N := some 27) (v := ?_) (a' := ?_) #[true, true, true, true, true, true, true, true, true, true, true, true, true, true, true, true, false, false] rfl rfl (any_of HT_.out (by kernel_rfl)) (fun _ _ _ h => h) (Or.inl ⟨by rfl, ?_⟩) ?_ ?_
   rotate_left
   · intro w'
     go_simp
     with_reducible rfl
   rotate_left
   · simp only [Act.put, List.setIfInBounds_toArray, List.set_cons_zero, List.set_cons_succ, i64_w, i32_w]
     rfl
   refine pure_ (i := 16) (N := some 28) (v := ?_) (a' := ?_) #[true, true, true, true, true, true, true, true, true, true, true, true, true, true, true, true, true, false] rfl rfl (any_of HT_.out (by kernel_rfl)) (fun _ _ _ h => h) (Or.inl ⟨by rfl, ?_⟩) ?_ ?_
   rotate_left
   · intro w'
     go_simp
     with_reducible rfl
   rotate_left
   · simp only [Act.put, List.setIfInBounds_toArray, List.set_cons_zero, List.set_cons_succ, i64_w, i32_w]
     rfl
   refine pure_ (i := 17) (N := some 29) (v := ?_) (a' := ?_) #[true, true, true, true, true, true, true, true, true, true, true, true, true, true, true, true, true, true] rfl rfl (any_of HT_.out (by kernel_rfl)) (fun _ _ _ h => h) (Or.inl ⟨by rfl, ?_⟩) ?_ ?_
   rotate_left
   · intro w'
     go_simp
     with_reducible rfl
   rotate_left
   · simp only [Act.put, List.setIfInBounds_toArray, List.set_cons_zero, List.set_cons_succ, i64_w, i32_w]
     rfl
   refine done_ (done_of HT_.out (by kernel_rfl)) ?_
   try go_wp2
   go_ret
   exact ⟨by first | rfl | (simp [errW_none, errW_some] <;> rfl) | (simp only [← hji8]; first | rfl | (simp [errW_none, errW_some] <;> rfl)) | (simp [*, errW_none, errW_some] <;> rfl), sqB1 HB.out GE207.out⟩
 rw [if_neg c11] at H
 have c11b0 : decide (((rd_T23 l0 x7_1).f0) ≤ ((rd_T23 l0 (ji8)).f0)) = false := decide_eq_false c11
 clear c11
 have H' := Aside0.mk H
 clear H
 have p206 : 0 ≤ (x7_1 : Int) := of_decide_eq_true sqH
 have q206 : x7_1 < (l0.length : Int) := of_decide_eq_true sqH
 obtain ⟨ad206, e206, hx206_0, hx206_1, hx206_2, hx206_3⟩ := at_T23 HR0.out x7_1 p206 q206
 cases e206
 replace hx206_0 := sqx HB.out hx206_0
 replace hx206_1 := sqx HB.out hx206_1
 replace hx206_2 := sqx HB.out hx206_2
 replace hx206_3 := sqx HB.out hx206_3
 replace p206 := eq_true p206
 replace q206 := eq_true q206
 try go_wp2_with (first | ((with_reducible refine gate_dst (N := 4) rfl ?_); refine box_event rfl (N := 4) rfl (cs := #[.int .i64 0, .int .i64 0, .int .i64 0, .string (⟨#[]⟩ : ByteArray)]) (t := 23) sqs ?_; intro gb207 hg w17 hbox hb; have BK207 := sqM (hbox); have GW207 := sqM (sqZ hg (sqB HB.out)); have GE207 := sqM (sqZ hg (sqB HB.out)); replace HB := sqM (below_step (sqB HB.out) hb); clear hb hbox hg; obtain ⟨hcz18_0, hcz18_1, hcz18_2, hcz18_3, hfz18_0, hfz18_1, hfz18_2, hfz18_3⟩ := sqF4 BK207.out))
 have n0_ : Aside0 (((((w17.setCell ⟨gb207, 0, none⟩ (.int .i64 ((rd_T23 l0 x7_1).f0))).setCell ⟨gb207, 1, none⟩ (.int .i64 ((rd_T23 l0 x7_1).f1))).setCell ⟨gb207, 2, none⟩ (.int .i64 ((rd_T23 l0 x7_1).f2))).setCell ⟨gb207, 3, none⟩ (.string ((rd_T23 l0 x7_1).f3))).heap[gb207]? = some (.cells #[.int .i64 ((rd_T23 l0 x7_1).f0), .int .i64 ((rd_T23 l0 x7_1).f1), .int .i64 ((rd_T23 l0 x7_1).f2), .string ((rd_T23 l0 x7_1).f3)] 23 (0, 0))) := ⟨(sqK (sqP4 BK207.out))⟩
 have n1_ : Aside0 (Below w.heap.size w ((((w17.setCell ⟨gb207, 0, none⟩ (.int .i64 ((rd_T23 l0 x7_1).f0))).setCell ⟨gb207, 1, none⟩ (.int .i64 ((rd_T23 l0 x7_1).f1))).setCell ⟨gb207, 2, none⟩ (.int .i64 ((rd_T23 l0 x7_1).f2))).setCell ⟨gb207, 3, none⟩ (.string ((rd_T23 l0 x7_1).f3)))) := ⟨sqB1 HB.out GE207.out⟩
 (try clear BK207)
 (try clear HB)
 generalize ((((w17.setCell ⟨gb207, 0, none⟩ (.int .i64 ((rd_T23 l0 x7_1).f0))).setCell ⟨gb207, 1, none⟩ (.int .i64 ((rd_T23 l0 x7_1).f1))).setCell ⟨gb207, 2, none⟩ (.int .i64 ((rd_T23 l0 x7_1).f2))).setCell ⟨gb207, 3, none⟩ (.string ((rd_T23 l0 x7_1).f3))) = w19 at n0_ n1_ ⊢
 have BK207 := n0_
 have HB := n1_
 clear n0_ n1_
 replace BK207 := sqM (blk_drew BK207.out)
 replace HB := sqM (below_drew1 HB.out)
 have p209 : 0 ≤ ((ji8) : Int) := of_decide_eq_true sqH
 have q209 : (ji8) < (l0.length : Int) := of_decide_eq_true sqH
 obtain ⟨ad209, e209, hx209_0, hx209_1, hx209_2, hx209_3⟩ := at_T23 HR0.out (ji8) p209 q209
 have hw209_3 := hx209_3
 have hw209_2 := hx209_2
 have hw209_1 := hx209_1
 have hw209_0 := hx209_0
 obtain rfl : ad206 = ad209 := (by injection e209)
 replace hx209_0 := sqx HB.out hx209_0
 replace hx209_1 := sqx HB.out hx209_1
 replace hx209_2 := sqx HB.out hx209_2
 replace hx209_3 := sqx HB.out hx209_3
 replace p209 := eq_true p209
 replace q209 := eq_true q209
 refine start_ (n := 18) (S := fun w' => w'.cell? ⟨gb207, 0, none⟩ = some (.int .i64 ((rd_T23 l0 x7_1).f0)) ∧ w'.cell? ⟨gb207, 1, none⟩ = some (.int .i64 ((rd_T23 l0 x7_1).f1)) ∧ w'.cell? ⟨gb207, 2, none⟩ = some (.int .i64 ((rd_T23 l0 x7_1).f2)) ∧ w'.cell? ⟨gb207, 3, none⟩ = some (.string ((rd_T23 l0 x7_1).f3)) ∧ w'.cell? (ad206.add (((ji8)).toNat * 4)) = some (.int .i64 ((rd_T23 l0 (ji8)).f0)) ∧ w'.cell? ⟨(ad206.add (((ji8)).toNat * 4)).block, (ad206.add (((ji8)).toNat * 4)).off + 1, none⟩ = some (.int .i64 ((rd_T23 l0 (ji8)).f1)) ∧ w'.cell? ⟨(ad206.add (((ji8)).toNat * 4)).block, (ad206.add (((ji8)).toNat * 4)).off + 2, none⟩ = some (.int .i64 ((rd_T23 l0 (ji8)).f2)) ∧ w'.cell? ⟨(ad206.add (((ji8)).toNat * 4)).block, (ad206.add (((ji8)).toNat * 4)).off + 3, none⟩ = some (.string ((rd_T23 l0 (ji8)).f3))) (ds := []) #[false, false, false, false, false, false, false, false, false, false, false, false, false, false, false, false, false, false] (by kernel_rfl) rfl rfl ⟨(blk_cell BK207.out 0).trans rfl, (blk_cell BK207.out 1).trans rfl, (blk_cell BK207.out 2).trans rfl, (blk_cell BK207.out 3).trans rfl, ((HB.out.cell (World.block_lt_of_cell? w _ hw209_0)).trans hw209_0), ((HB.out.cell (World.block_lt_of_cell? w _ hw209_1)).trans hw209_1), ((HB.out.cell (World.block_lt_of_cell? w _ hw209_2)).trans hw209_2), ((HB.out.cell (World.block_lt_of_cell? w _ hw209_3)).trans hw209_3)⟩ (fun hHeld => ?_); refine with_tabW table_Right.tab4 table_Right.bits4 (fun HT_ HW_ => ?_)
 generalize w19.drew = w20 at BK207 HB hx209_0 hx209_1 hx209_2 hx209_3 hHeld ⊢
 refine take_ (i := 0) (N := some 12) (v := ?_) (a' := ?_) #[true, false, false, false, false, false, false, false, false, false, false, false, false, false, false, false, false, false] rfl rfl (take_ofW HT_.out HW_.out (by kernel_rfl)) (fun _ _ _ h => h) (Or.inl ⟨by rfl, ?_⟩) hHeld ?_ ?_
 rotate_left
 · rintro w' ⟨s0, s1, s2, s3, s4, s5, s6, s7⟩
   go_simp
   with_reducible rfl
 rotate_left
 · simp only [Act.put, List.setIfInBounds_toArray, List.set_cons_zero, List.set_cons_succ, i64_w, i32_w]
   rfl
 refine one_ (i := 1) (N := some 13) #[true, true, false, false, false, false, false, false, false, false, false, false, false, false, false, false, false, false] rfl rfl (one_of HT_.out (by kernel_rfl)) (by decide) (fun K hK => ?_)
 refine goes_ Tryd.func33 (by kernel_rfl) rfl #[.agg #[.int .i64 ((rd_T23 l0 x7_1).f0), .int .i64 ((rd_T23 l0 x7_1).f1), .int .i64 ((rd_T23 l0 x7_1).f2), .string ((rd_T23 l0 x7_1).f3)]] (by rfl) rfl rfl sqA ?_
 with_reducible refine (record_Right.calls _ _ _ _ _ _ A5.out).mono ?_
 rintro e w21 ⟨rfl, hb⟩
 refine ⟨_, rfl, ?_⟩
 replace BK207 := sqM (blk_below (sqK BK207.out) hb)
 replace HB := sqM (below_step (sqB1 HB.out GE207.out) hb)
 (try clear hb)
 (try clear hb2)
 (try clear hk)
 (try clear hi)
 refine hK.out _ _ ⟨(blk_cell BK207.out 0).trans rfl, (blk_cell BK207.out 1).trans rfl, (blk_cell BK207.out 2).trans rfl, (blk_cell BK207.out 3).trans rfl, ((HB.out.cell (World.block_lt_of_cell? w _ hw209_0)).trans hw209_0), ((HB.out.cell (World.block_lt_of_cell? w _ hw209_1)).trans hw209_1), ((HB.out.cell (World.block_lt_of_cell? w _ hw209_2)).trans hw209_2), ((HB.out.cell (World.block_lt_of_cell? w _ hw209_3)).trans hw209_3)⟩ (fun hHeld => ?_)
 clear hK K
 refine norm_ (a' := ?_) ?_ ?_
 rotate_left
 · show Act.put _ (some 13) _ = _
   simp only [Act.put, List.setIfInBounds_toArray, List.set_cons_zero, List.set_cons_succ, i64_w, i32_w]
   rfl
 refine pure_ (i := 2) (N := some 14) (v := ?_) (a' := ?_) #[true, true, true, false, false, false, false, false, false, false, false, false, false, false, false, false, false, false] rfl rfl (any_of HT_.out (by kernel_rfl)) (fun _ _ _ h => h) (Or.inl ⟨by rfl, ?_⟩) ?_ ?_
 rotate_left
 · intro w'
   go_simp
   with_reducible rfl
 rotate_left
 · simp only [Act.put, List.setIfInBounds_toArray, List.set_cons_zero, List.set_cons_succ, i64_w, i32_w]
   rfl
 refine pure_ (i := 3) (N := some 15) (v := ?_) (a' := ?_) #[true, true, true, true, false, false, false, false, false, false, false, false, false, false, false, false, false, false] rfl rfl (any_of HT_.out (by kernel_rfl)) (fun _ _ _ h => h) (Or.inl ⟨by rfl, ?_⟩) ?_ ?_
 rotate_left
 · intro w'
   go_simp
   with_reducible rfl
 rotate_left
 · simp only [Act.put, List.setIfInBounds_toArray, List.set_cons_zero, List.set_cons_succ, i64_w, i32_w]
   rfl
 refine pure_ (i := 4) (N := some 16) (v := ?_) (a' := ?_) #[true, true, true, true, true, false, false, false, false, false, false, false, false, false, false, false, false, false] rfl rfl (any_of HT_.out (by kernel_rfl)) (fun _ _ _ h => h) (Or.inl ⟨by rfl, ?_⟩) ?_ ?_
 rotate_left
 · intro w'
   go_simp
   with_reducible rfl
 rotate_left
 · simp only [Act.put, List.setIfInBounds_toArray, List.set_cons_zero, List.set_cons_succ, i64_w, i32_w]
   rfl
 refine pure_ (i := 5) (N := some 17) (v := ?_) (a' := ?_) #[true, true, true, true, true, true, false, false, false, false, false, false, false, false, false, false, false, false] rfl rfl (any_of HT_.out (by kernel_rfl)) (fun _ _ _ h => h) (Or.inl ⟨by rfl, ?_⟩) ?_ ?_
 rotate_left
 · intro w'
   go_simp
   with_reducible rfl
 rotate_left
 · simp only [Act.put, List.setIfInBounds_toArray, List.set_cons_zero, List.set_cons_succ, i64_w, i32_w]
   rfl
 refine pure_ (i := 6) (N := some 18) (v := ?_) (a' := ?_) #[true, true, true, true, true, true, true, false, false, false, false, false, false, false, false, false, false, false] rfl rfl (any_of HT_.out (by kernel_rfl)) (fun _ _ _ h => h) (Or.inl ⟨by rfl, ?_⟩) ?_ ?_
 rotate_left
 · intro w'
   go_simp
   with_reducible rfl
 rotate_left
 · simp only [Act.put, List.setIfInBounds_toArray, List.set_cons_zero, List.set_cons_succ, i64_w, i32_w]
   rfl
 refine pure_ (i := 7) (N := some 19) (v := ?_) (a' := ?_) #[true, true, true, true, true, true, true, true, false, false, false, false, false, false, false, false, false, false] rfl rfl (any_of HT_.out (by kernel_rfl)) (fun _ _ _ h => h) (Or.inl ⟨by rfl, ?_⟩) ?_ ?_
 rotate_left
 · intro w'
   go_simp
   with_reducible rfl
 rotate_left
 · simp only [Act.put, List.setIfInBounds_toArray, List.set_cons_zero, List.set_cons_succ, i64_w, i32_w]
   rfl
 refine pure_ (i := 8) (N := some 20) (v := ?_) (a' := ?_) #[true, true, true, true, true, true, true, true, true, false, false, false, false, false, false, false, false, false] rfl rfl (any_of HT_.out (by kernel_rfl)) (fun _ _ _ h => h) (Or.inl ⟨by rfl, ?_⟩) ?_ ?_
 rotate_left
 · intro w'
   go_simp
   with_reducible rfl
 rotate_left
 · simp only [Act.put, List.setIfInBounds_toArray, List.set_cons_zero, List.set_cons_succ, i64_w, i32_w]
   rfl
 refine pure_ (i := 9) (N := some 21) (v := ?_) (a' := ?_) #[true, true, true, true, true, true, true, true, true, true, false, false, false, false, false, false, false, false] rfl rfl (any_of HT_.out (by kernel_rfl)) (fun _ _ _ h => h) (Or.inl ⟨by rfl, ?_⟩) ?_ ?_
 rotate_left
 · intro w'
   go_simp
   with_reducible rfl
 rotate_left
 · simp only [Act.put, List.setIfInBounds_toArray, List.set_cons_zero, List.set_cons_succ, i64_w, i32_w]
   rfl
 refine pure_ (i := 10) (N := some 22) (v := ?_) (a' := ?_) #[true, true, true, true, true, true, true, true, true, true, true, false, false, false, false, false, false, false] rfl rfl (any_of HT_.out (by kernel_rfl)) (fun _ _ _ h => h) (Or.inl ⟨by rfl, ?_⟩) ?_ ?_
 rotate_left
 · intro w'
   go_simp
   with_reducible rfl
 rotate_left
 · simp only [Act.put, List.setIfInBounds_toArray, List.set_cons_zero, List.set_cons_succ, i64_w, i32_w]
   rfl
 refine pure_ (i := 11) (N := some 23) (v := ?_) (a' := ?_) #[true, true, true, true, true, true, true, true, true, true, true, true, false, false, false, false, false, false] rfl rfl (any_of HT_.out (by kernel_rfl)) (fun _ _ _ h => h) (Or.inl ⟨by rfl, ?_⟩) ?_ ?_
 rotate_left
 · intro w'
   go_simp
   with_reducible rfl
 rotate_left
 · simp only [Act.put, List.setIfInBounds_toArray, List.set_cons_zero, List.set_cons_succ, i64_w, i32_w]
   rfl
 refine pure_ (i := 13) (N := some 25) (v := ?_) (a' := ?_) #[true, true, true, true, true, true, true, true, true, true, true, true, false, true, false, false, false, false] rfl rfl (any_of HT_.out (by kernel_rfl)) (fun _ _ _ h => h) (Or.inl ⟨by rfl, ?_⟩) ?_ ?_
 rotate_left
 · intro w'
   go_simp
   with_reducible rfl
 rotate_left
 · simp only [Act.put, List.setIfInBounds_toArray, List.set_cons_zero, List.set_cons_succ, i64_w, i32_w]
   rfl
 refine take_ (i := 12) (N := some 24) (v := ?_) (a' := ?_) #[true, true, true, true, true, true, true, true, true, true, true, true, true, true, false, false, false, false] rfl rfl (take_ofW HT_.out HW_.out (by kernel_rfl)) (fun _ _ _ h => h) (Or.inl ⟨by rfl, ?_⟩) hHeld ?_ ?_
 rotate_left
 · rintro w' ⟨s0, s1, s2, s3, s4, s5, s6, s7⟩
   go_simp
   with_reducible rfl
 rotate_left
 · simp only [Act.put, List.setIfInBounds_toArray, List.set_cons_zero, List.set_cons_succ, i64_w, i32_w]
   rfl
 refine take_ (i := 14) (N := some 26) (v := ?_) (a' := ?_) #[true, true, true, true, true, true, true, true, true, true, true, true, true, true, true, false, false, false] rfl rfl (take_ofW HT_.out HW_.out (by kernel_rfl)) (fun _ _ _ h => h) (Or.inl ⟨by rfl, ?_⟩) hHeld ?_ ?_
 rotate_left
 · rintro w' ⟨s0, s1, s2, s3, s4, s5, s6, s7⟩
   go_simp
   with_reducible rfl
 rotate_left
 · simp only [Act.put, List.setIfInBounds_toArray, List.set_cons_zero, List.set_cons_succ, i64_w, i32_w]
   rfl
 refine pure_ (i := 15) (N := some 27) (v := ?_) (a' := ?_) #[true, true, true, true, true, true, true, true, true, true, true, true, true, true, true, true, false, false] rfl rfl (any_of HT_.out (by kernel_rfl)) (fun _ _ _ h => h) (Or.inl ⟨by rfl, ?_⟩) ?_ ?_
 rotate_left
 · intro w'
   go_simp
   with_reducible rfl
 rotate_left
 · simp only [Act.put, List.setIfInBounds_toArray, List.set_cons_zero, List.set_cons_succ, i64_w, i32_w]
   rfl
 refine pure_ (i := 16) (N := some 28) (v := ?_) (a' := ?_) #[true, true, true, true, true, true, true, true, true, true, true, true, true, true, true, true, true, false] rfl rfl (any_of HT_.out (by kernel_rfl)) (fun _ _ _ h => h) (Or.inl ⟨by rfl, ?_⟩) ?_ ?_
 rotate_left
 · intro w'
   go_simp
   with_reducible rfl
 rotate_left
 · simp only [Act.put, List.setIfInBounds_toArray, List.set_cons_zero, List.set_cons_succ, i64_w, i32_w]
   rfl
 refine pure_ (i := 17) (N := some 29) (v := ?_) (a' := ?_) #[true, true, true, true, true, true, true, true, true, true, true, true, true, true, true, true, true, true] rfl rfl (any_of HT_.out (by kernel_rfl)) (fun _ _ _ h => h) (Or.inl ⟨by rfl, ?_⟩) ?_ ?_
 rotate_left
 · intro w'
   go_simp
   with_reducible rfl
 rotate_left
 · simp only [Act.put, List.setIfInBounds_toArray, List.set_cons_zero, List.set_cons_succ, i64_w, i32_w]
   rfl
 refine done_ (done_of HT_.out (by kernel_rfl)) ?_
 try go_wp2
 go_roundg k1
 case measure => have := HK1.out; omega
 case rel => exact ⟨(wrap64 (x7_1 + 1)), sqI, H', ⟨by have := HK1.out; omega⟩, ⟨sqB1 HB.out GE207.out⟩⟩

/-! ### ltext_Print: function 19 -/
def ltext_Print.l0 : Nat → List Int → List (S23) → Int → Int → Option (ByteArray × Int)
  | 0, _, _, _, _ => none
  | k + 1, x4, x12, x13, x14 => if x14 < x13 then (if 0 ≤ x14 then (if x14 < (x12.length : Int) then ((ltext_Line.f k ((rd_T23 x12 x14).f0) ((rd_T23 x12 x14).f1) ((rd_T23 x12 x14).f2) ((rd_T23 x12 x14).f3)).bind fun bt213 => (if x4.length + bt213.1.size < 140737488355328 then ((some (x4 ++ bytesOf bt213.1 : List Int)).bind fun y215 => (if y215.length < 140737488355328 then (ltext_Print.l0 k (y215 ++ [10]) x12 x13 (wrap64 (x14 + 1))) else (none))) else (none))) else (none)) else (none)) else (some (strOfNums x4, 0))
def ltext_Print.f (k : Nat) (l0 : List (S23)) : Option (ByteArray × Int) := (table_Right.f k l0).bind fun t210 => (if t210 = true then (ltext_Print.l0 k ([] : List Int) l0 (l0.length : Int) 0) else (some ((⟨#[]⟩ : ByteArray), 1)))
theorem ltext_Print.mono_l : ∀ k, (∀ y0 y1 y2 y3, LeO (ltext_Print.l0 k y0 y1 y2 y3) (ltext_Print.l0 (k + 1) y0 y1 y2 y3))
  | 0 => fun _ _ _ _ r h => by simp [ltext_Print.l0] at h
  | k + 1 => by
    have ih0 := ltext_Print.mono_l k
    · intro y0 y1 y2 y3
      unfold ltext_Print.l0
      repeat' first
      | (with_reducible exact ih0 _ _ _ _)
      | (with_reducible exact ltext_Line.mono _ _ _ _ _)
      | (with_reducible exact table_Right.mono _ _)
      | (with_reducible exact LeO.refl _)
      | (with_reducible exact LeO.none _)
      | (with_reducible refine LeO.ite ?_ ?_)
      | (with_reducible refine LeO.bind ?_ (fun _ => ?_))
theorem ltext_Print.mono : ∀ a0 k, LeO (ltext_Print.f k a0) (ltext_Print.f (k + 1) a0) := by
 intro a0 k
 have ih0 := ltext_Print.mono_l k
 unfold ltext_Print.f
 repeat' first
  | (with_reducible exact ih0 _ _ _ _)
  | (with_reducible exact ltext_Line.mono _ _ _ _ _)
  | (with_reducible exact table_Right.mono _ _)
  | (with_reducible exact LeO.refl _)
  | (with_reducible exact LeO.none _)
  | (with_reducible refine LeO.ite ?_ ?_)
  | (with_reducible refine LeO.bind ?_ (fun _ => ?_))
set_option maxHeartbeats 8000000 in
set_option maxRecDepth 100000 in
theorem ltext_Print.calls (k : Nat) (A0 : Option Addr) (c0 : Nat) (l0 : List (S23)) (r1 : ByteArray) (r2 : Int) (w : World) (hr0 : Kd.C k23 w A0 l0.length l0) (hc0 : l0.length ≤ c0) (hT : TabW w) (h : ltext_Print.f k l0 = some (r1, r2)) :
    Calls Tryd.prog 19 #[.slice A0 l0.length c0] w fun e w' => e = .returned (.tuple #[.string r1, .int .i64 r2]) ∧ Below w.heap.size w w' := by
 have hu23 := Tryd.underlying23
 have HR0 := Aside0.mk hr0
 have HC0 := Aside0.mk hc0
 clear hr0 hc0
 have HT := Aside0.mk hT
 clear hT
 have HRT1 := Aside0.mk HT.out.t1
 have HRT0 := Aside0.mk HT.out.t0
 have HB := Aside0.mk (Below.refl w.heap.size w)
 have H : ((table_Right.f k l0).bind fun t210 => (if t210 = true then (ltext_Print.l0 k ([] : List Int) l0 (l0.length : Int) 0) else (some ((⟨#[]⟩ : ByteArray), 1)))) = some (r1, r2) := h
 clear h
 replace H := Option.bind_eq_some_iff.mp H
 obtain ⟨t210, A20, H⟩ := H
 replace H : (if t210 = true then (ltext_Print.l0 k ([] : List Int) l0 (l0.length : Int) 0) else (some ((⟨#[]⟩ : ByteArray), 1))) = some (r1, r2) := H
 have A2 := Aside0.mk A20
 clear A20
 by_cases c3 : t210 = true
 rotate_left
 · replace c3 := Bool.eq_false_iff.mpr c3
   subst c3
   have H1 : (some ((⟨#[]⟩ : ByteArray), 1)) = some (r1, r2) := by rw [if_neg (show ¬ (false = true) by decide)] at H; exact H
   clear H
   have H := H1
   clear H1
   simp only [Option.some.injEq, Prod.mk.injEq] at H
   obtain ⟨rfl, rfl⟩ := H
   go_enter Tryd.func19, Tryd.ntmps19
   go_wp2_with (first | ((with_reducible refine gate_callee (f := 51) rfl ?_); refine goesL_ (some 10) rfl rfl Tryd.func51 (by kernel_rfl) rfl #[.slice A0 l0.length c0] rfl sqA ?_; (with_reducible refine (table_Right.calls _ _ _ _ _ _ ?side1 ?side2 A2.out).mono ?_); (case side1 => repeat (first | exact HR0.out | (with_reducible refine Kd.C_alloc ?_ _) | (with_reducible refine Kd.C_drewN ?_ _) | (with_reducible refine Kd.C_drew ?_))); (case side2 => exact HC0.out); rintro e w18 ⟨rfl, hb⟩; refine ⟨_, rfl, ?_⟩; replace HB := sqM (below_step (sqB HB.out) hb); (try clear hb); (try clear hb2); (try clear hk); (try clear hi)))
   go_ret2
   exact ⟨sqE, sqB HB.out⟩
 subst c3
 have H1 : (ltext_Print.l0 k ([] : List Int) l0 (l0.length : Int) 0) = some (r1, r2) := by rw [if_pos rfl] at H; exact H
 clear H
 have H := H1
 clear H1
 have H' := Aside0.mk H
 clear H
 go_enter Tryd.func19, Tryd.ntmps19
 go_wp2_with (first | ((with_reducible refine gate_callee (f := 51) rfl ?_); refine goesL_ (some 10) rfl rfl Tryd.func51 (by kernel_rfl) rfl #[.slice A0 l0.length c0] rfl sqA ?_; (with_reducible refine (table_Right.calls _ _ _ _ _ _ ?side1 ?side2 A2.out).mono ?_); (case side1 => repeat (first | exact HR0.out | (with_reducible refine Kd.C_alloc ?_ _) | (with_reducible refine Kd.C_drewN ?_ _) | (with_reducible refine Kd.C_drew ?_))); (case side2 => exact HC0.out); rintro e w4 ⟨rfl, hb⟩; refine ⟨_, rfl, ?_⟩; replace HB := sqM (below_step (sqB HB.out) hb); (try clear hb); (try clear hb2); (try clear hk); (try clear hi)))
 go_loopg [4, 14] k (fun kq v4 v14 w' => ∃ (x4_1 : List Int) (x14_1 : Int), v14 = .int .i64 x14_1 ∧ Aside0 (ltext_Print.l0 kq x4_1 l0 (l0.length : Int) x14_1 = some (r1, r2)) ∧ Aside0 (kq ≤ k) ∧ Aside0 (Kd.R (Kd.int .u8) 5 w' w.heap.size (fun _ => True) v4 x4_1) ∧ Aside0 (Below w.heap.size w w'))
 case atStart => exact ⟨(([] : List Int)), (0), sqI, H', ⟨Nat.le_refl _⟩, ⟨by first | exact Kd.R_nil _ _ _ _ _ | exact Kd.N_nil _ _ _ _ _ | exact Kd.V_nil _ _ _ _ _ | exact Kd.Q_nil _ _ _ _ _ | exact Kd.S_nil _ _ _ _ _⟩, ⟨sqB HB.out⟩⟩
 clear H'
 try clear c1
 try clear p2
 try clear c3
 obtain ⟨x4_1, x14_1, rfl, HA, HK1, HO_4, HB⟩ := hrel
 cases gk with
 | zero => exact absurd HA.out (by simp [ltext_Print.l0])
 | succ k1 => ?_
 have H := HA.out
 clear HA
 simp only [ltext_Print.l0] at H
 by_cases c5 : x14_1 < (l0.length : Int)
 rotate_left
 · rw [if_neg c5] at H
   have c5b0 : decide (x14_1 < (l0.length : Int)) = false := decide_eq_false c5
   clear c5
   simp only [Option.some.injEq, Prod.mk.injEq] at H
   obtain ⟨rfl, rfl⟩ := H
   have hcv16 := own_string (P := Tryd.prog) Tryd.underlying59 Tryd.underlying5 Tryd.underlying9 (Kd.own_of_R HO_4.out)
   have hcw17 := fun n_ => own_string (P := Tryd.prog) Tryd.underlying59 Tryd.underlying5 Tryd.underlying9 (Kd.own_of_R (Kd.R_drewN HO_4.out n_))
   go_wp2
   go_ret2
   exact ⟨sqE, sqB HB.out⟩
 rw [if_pos c5] at H
 have c5b0 : decide (x14_1 < (l0.length : Int)) = true := decide_eq_true c5
 clear c5
 by_cases c6 : 0 ≤ x14_1
 rotate_left
 · rw [if_neg c6] at H
   exact absurd H (by simp)
 rw [if_pos c6] at H
 have c6b0 : decide (0 ≤ x14_1) = true := decide_eq_true c6
 clear c6
 by_cases c7 : x14_1 < (l0.length : Int)
 rotate_left
 · rw [if_neg c7] at H
   exact absurd H (by simp)
 rw [if_pos c7] at H
 have c7b0 : decide (x14_1 < (l0.length : Int)) = true := decide_eq_true c7
 clear c7
 replace H := Option.bind_eq_some_iff.mp H
 obtain ⟨⟨t213, t214⟩, A80, H⟩ := H
 replace H : (if x4_1.length + t213.size < 140737488355328 then ((some (x4_1 ++ bytesOf t213 : List Int)).bind fun y215 => (if y215.length < 140737488355328 then (ltext_Print.l0 k1 (y215 ++ [10]) l0 (l0.length : Int) (wrap64 (x14_1 + 1))) else (none))) else (none)) = some (r1, r2) := H
 have A8 := Aside0.mk A80
 clear A80
 by_cases c9 : x4_1.length + t213.size < 140737488355328
 rotate_left
 · rw [if_neg c9] at H
   exact absurd H (by simp)
 rw [if_pos c9] at H
 have LMc9 := Aside0.mk c9
 clear c9
 obtain ⟨y215, hy215⟩ : ∃ y_ : List Int, y_ = (x4_1 ++ bytesOf t213) := ⟨_, rfl⟩
 replace H : (if y215.length < 140737488355328 then (ltext_Print.l0 k1 (y215 ++ [10]) l0 (l0.length : Int) (wrap64 (x14_1 + 1))) else (none)) = some (r1, r2) := by first | (rw [hy215]; with_reducible exact H) | (have H2_ := (Option.bind_some _ _).symm.trans H; rw [hy215]; with_reducible exact H2_) | (have H2_ := (Option.bind_some _ _).symm.trans H; with_reducible exact H2_) | with_reducible exact H | (rw [hy215]; exact H) | exact H
 have Ny215 := Aside0.mk hy215
 clear hy215
 by_cases c10 : y215.length < 140737488355328
 rotate_left
 · rw [if_neg c10] at H
   exact absurd H (by simp)
 rw [if_pos c10] at H
 have LMc10 := Aside0.mk c10
 clear c10
 obtain ⟨y218, hy218⟩ : ∃ y_ : List Int, y_ = (y215 ++ [10]) := ⟨_, rfl⟩
 replace H : (ltext_Print.l0 k1 y218 l0 (l0.length : Int) (wrap64 (x14_1 + 1))) = some (r1, r2) := by first | (rw [hy218]; with_reducible exact H) | (have H2_ := (Option.bind_some _ _).symm.trans H; rw [hy218]; with_reducible exact H2_) | (have H2_ := (Option.bind_some _ _).symm.trans H; with_reducible exact H2_) | with_reducible exact H | (rw [hy218]; exact H) | exact H
 have Ny218 := Aside0.mk hy218
 clear hy218
 have H' := Aside0.mk H
 clear H
 have p211 : 0 ≤ (x14_1 : Int) := of_decide_eq_true sqH
 have q211 : x14_1 < (l0.length : Int) := of_decide_eq_true sqH
 obtain ⟨ad211, e211, hx211_0, hx211_1, hx211_2, hx211_3⟩ := at_T23 HR0.out x14_1 p211 q211
 cases e211
 replace hx211_0 := sqx HB.out hx211_0
 replace hx211_1 := sqx HB.out hx211_1
 replace hx211_2 := sqx HB.out hx211_2
 replace hx211_3 := sqx HB.out hx211_3
 replace p211 := eq_true p211
 replace q211 := eq_true q211
 go_wp2_with (first | ((with_reducible refine gate_dst (N := 6) rfl ?_); refine box_event rfl (N := 6) rfl (cs := #[.int .i64 0, .int .i64 0, .int .i64 0, .string (⟨#[]⟩ : ByteArray)]) (t := 23) sqs ?_; intro gb212 hg w11 hbox hb; have BK212 := sqM (hbox); have GW212 := sqM (sqZ hg (sqB HB.out)); have GE212 := sqM (sqZ hg (sqB HB.out)); replace HO_4 := sqM (Kd.R_below (sqR HO_4.out) hb); replace HB := sqM (below_step (sqB HB.out) hb); clear hb hbox hg; obtain ⟨hcz12_0, hcz12_1, hcz12_2, hcz12_3, hfz12_0, hfz12_1, hfz12_2, hfz12_3⟩ := sqF4 BK212.out) | ((with_reducible refine gate_callee (f := 13) rfl ?_); refine goesL_ (some 20) rfl rfl Tryd.func13 (by kernel_rfl) rfl #[.agg #[.int .i64 ((rd_T23 l0 x14_1).f0), .int .i64 ((rd_T23 l0 x14_1).f1), .int .i64 ((rd_T23 l0 x14_1).f2), .string ((rd_T23 l0 x14_1).f3)]] rfl sqA ?_; (with_reducible refine (ltext_Line.calls _ _ _ _ _ _ _ _ ?side1 A8.out).mono ?_); (case side1 => first | exact HT.out | exact TabW.below HT.out (sqB1 HB.out GE212.out) | exact TabW.drawn HT.out ⟨_, rfl⟩); rintro e w13 ⟨rfl, hb⟩; refine ⟨_, rfl, ?_⟩; replace HO_4 := sqM (Kd.R_below (by refine sqR ?_; exact (Kd.R_mono (sqR4 (Kd.R_types HO_4.out BK212.out (by decide)) (fun _ hk => hk.2)) (fun _ h_ => h_.1))) hb); replace BK212 := sqM (blk_below (sqK (sqP4 BK212.out)) hb); replace HB := sqM (below_step (sqB1 HB.out GE212.out) hb); (try clear hb); (try clear hb2); (try clear hk); (try clear hi)) | (at_builtin; refine print_append_str (w0 := w) w.heap.size rfl (.tmp 23) _ 59 9 5 rfl Tryd.underlying59 Tryd.underlying9 info5 u4 x4_1 t213 rfl rfl ?aO ?aB ?aS ?aL ?_; (case aB => exact (sqB1 HB.out GE212.out)); (case aO => exact (Kd.own_of_R (sqR HO_4.out))); (case aS => exact (below_size (sqB1 HB.out GE212.out))); (case aL => have := LMc9.out; omega); intro v216 w14 ho0 hb hg; have ho := Kd.R_of_own (h1 := fun _ => rfl) (ok := fun _ => True) ho0 (fun _ _ => trivial); clear ho0; have hat := True.intro; rw [← Ny215.out] at ho; change Kd.R (Kd.int .u8) 5 w14 w.heap.size (fun _ => True) v216 y215 at ho; have HO217 := sqM (ho); replace BK212 := sqM (blk_grown (g := gb212) (o := .cells #[.int .i64 ((rd_T23 l0 x14_1).f0), .int .i64 ((rd_T23 l0 x14_1).f1), .int .i64 ((rd_T23 l0 x14_1).f2), .string ((rd_T23 l0 x14_1).f3)] 23 (0, 0)) (sqK BK212.out) hg (Kd.R_ne HO_4.out BK212.out (by decide))); replace HB := sqM (hb); clear HO_4; clear ho hb hg hat) | ((with_reducible refine gate_builtin (b := .append) (xs := #[.tmp 25, .tmp 26]) rfl ?_); at_builtin; refine Kd.R_append (Kd.int .u8) (w0 := w) w.heap.size rfl (.tmp 25) (.tmp 26) 59 5 (.int .u8 0) 1 rfl Tryd.underlying59 info5 rfl (by decide) (by omega) v216 y215 10 [.int .u8 10] (fun _ => True) (fun _ => False) rfl rfl ?aP (fun _ hk => hk.elim) ?aF ?aO ?aB ?aS ?aL ?_; (case aP => exact rfl); (case aB => exact (sqB1 HB.out GE212.out)); (case aF => exact (fun _ _ => trivial)); (case aO => exact (sqR HO217.out)); (case aS => exact (below_size (sqB1 HB.out GE212.out))); (case aL => have := LMc10.out; omega); intro v219 w15 ho hb hg hat; rw [← Ny218.out] at ho; have HO220 := sqM (ho); replace BK212 := sqM (blk_grown (g := gb212) (o := .cells #[.int .i64 ((rd_T23 l0 x14_1).f0), .int .i64 ((rd_T23 l0 x14_1).f1), .int .i64 ((rd_T23 l0 x14_1).f2), .string ((rd_T23 l0 x14_1).f3)] 23 (0, 0)) (sqK BK212.out) hg (Kd.R_ne HO217.out BK212.out (by decide))); replace HB := sqM (hb); clear HO217; clear ho hb hg hat))
 go_roundg k1
 case measure => have := HK1.out; omega
 case rel => exact ⟨(y218), (wrap64 (x14_1 + 1)), sqI, H', ⟨by have := HK1.out; omega⟩, ⟨sqR HO220.out⟩, ⟨sqB1 HB.out GE212.out⟩⟩

/-! ### ltext_Parse: function 21 -/
def ltext_Parse.l0 : Nat → List (S23) → Int → List (List Int) → Int → Int → Option ((List (S23)) × Int × Int)
  | 0, _, _, _, _, _ => none
  | k + 1, x6, x7, x18, x19, x20 => if x20 < x19 then (if 0 ≤ x20 then (if x20 < (x18.length : Int) then (if x20 = x7 then (if ((rd_L1 x18 x20).length : Int) = 0 then (some (x6, 0, 0)) else ((ltext_Lease.f k (strOfNums (rd_L1 x18 x20))).bind fun bt228 => (if bt228.2.2.2.2 = 0 then (some (([] : List (S23)), wrap64 (x20 + 1), 2)) else (some (([] : List (S23)), wrap64 (x20 + 1), 2))))) else ((ltext_Lease.f k (strOfNums (rd_L1 x18 x20))).bind fun bt234 => (if bt234.2.2.2.2 = 0 then (if x6.length < 3518437208883 then ((some (x6 ++ [(⟨bt234.1, bt234.2.1, bt234.2.2.1, bt234.2.2.2.1⟩ : S23)] : List (S23))).bind fun y240 => ((table_Right.f k y240).bind fun t243 => (if t243 = true then (ltext_Parse.l0 k y240 x7 x18 x19 (wrap64 (x20 + 1))) else (some (([] : List (S23)), wrap64 (x20 + 1), 2))))) else (none)) else (some (([] : List (S23)), wrap64 (x20 + 1), 2))))) else (none)) else (none)) else (some (x6, 0, 0))
def ltext_Parse.f (k : Nat) (a0 : ByteArray) : Option ((List (S23)) × Int × Int) := if (a0.size : Int) ≤ 281474976710656 then ((ltext_split.f k (bytesOf a0) 10).bind fun t224 => (ltext_Parse.l0 k ([] : List (S23)) (wrap64 ((t224.length : Int) - 1)) t224 (t224.length : Int) 0)) else (none)
theorem ltext_Parse.mono_l : ∀ k, (∀ y0 y1 y2 y3 y4, LeO (ltext_Parse.l0 k y0 y1 y2 y3 y4) (ltext_Parse.l0 (k + 1) y0 y1 y2 y3 y4))
  | 0 => fun _ _ _ _ _ r h => by simp [ltext_Parse.l0] at h
  | k + 1 => by
    have ih0 := ltext_Parse.mono_l k
    · intro y0 y1 y2 y3 y4
      unfold ltext_Parse.l0
      repeat' first
      | (with_reducible exact ih0 _ _ _ _ _)
      | (with_reducible exact ltext_Lease.mono _ _)
      | (with_reducible exact ltext_split.mono _ _ _)
      | (with_reducible exact table_Right.mono _ _)
      | (with_reducible exact LeO.refl _)
      | (with_reducible exact LeO.none _)
      | (with_reducible refine LeO.ite ?_ ?_)
      | (with_reducible refine LeO.bind ?_ (fun _ => ?_))
theorem ltext_Parse.mono : ∀ a0 k, LeO (ltext_Parse.f k a0) (ltext_Parse.f (k + 1) a0) := by
 intro a0 k
 have ih0 := ltext_Parse.mono_l k
 unfold ltext_Parse.f
 repeat' first
  | (with_reducible exact ih0 _ _ _ _ _)
  | (with_reducible exact ltext_Lease.mono _ _)
  | (with_reducible exact ltext_split.mono _ _ _)
  | (with_reducible exact table_Right.mono _ _)
  | (with_reducible exact LeO.refl _)
  | (with_reducible exact LeO.none _)
  | (with_reducible refine LeO.ite ?_ ?_)
  | (with_reducible refine LeO.bind ?_ (fun _ => ?_))
set_option maxHeartbeats 8000000 in
set_option maxRecDepth 100000 in
theorem ltext_Parse.calls (k : Nat) (a0 : ByteArray) (r1 : List (S23)) (r2 : Int) (r3 : Int) (w : World) (hT : TabW w) (h : ltext_Parse.f k a0 = some (r1, r2, r3)) :
    Calls Tryd.prog 21 #[.string a0] w fun e w' => ∃ v0_ : Value, e = .returned (.tuple #[v0_, .int .i64 r2, .int .i64 r3]) ∧ Kd.R k23 23 w' w.heap.size (fun _ => True) v0_ r1 ∧ Below w.heap.size w w' := by
 have hu23 := Tryd.underlying23
 have HT := Aside0.mk hT
 clear hT
 have HRT1 := Aside0.mk HT.out.t1
 have HRT0 := Aside0.mk HT.out.t0
 have HB := Aside0.mk (Below.refl w.heap.size w)
 have H : (if (a0.size : Int) ≤ 281474976710656 then ((ltext_split.f k (bytesOf a0) 10).bind fun t224 => (ltext_Parse.l0 k ([] : List (S23)) (wrap64 ((t224.length : Int) - 1)) t224 (t224.length : Int) 0)) else (none)) = some (r1, r2, r3) := h
 clear h
 by_cases c2 : (a0.size : Int) ≤ 281474976710656
 rotate_left
 · rw [if_neg c2] at H
   exact absurd H (by simp)
 rw [if_pos c2] at H
 have c2b0 := eq_true c2
 have c2b1 : decide ((a0.size : Int) ≤ 281474976710656) = true := decide_eq_true c2
 clear c2
 obtain ⟨y221, hy221⟩ : ∃ y_ : List Int, y_ = (bytesOf a0) := ⟨_, rfl⟩
 replace H : ((ltext_split.f k y221 10).bind fun t224 => (ltext_Parse.l0 k ([] : List (S23)) (wrap64 ((t224.length : Int) - 1)) t224 (t224.length : Int) 0)) = some (r1, r2, r3) := by first | (rw [hy221]; with_reducible exact H) | (have H2_ := (Option.bind_some _ _).symm.trans H; rw [hy221]; with_reducible exact H2_) | (have H2_ := (Option.bind_some _ _).symm.trans H; with_reducible exact H2_) | with_reducible exact H | (rw [hy221]; exact H) | exact H
 have Ny221 := Aside0.mk hy221
 clear hy221
 replace H := Option.bind_eq_some_iff.mp H
 obtain ⟨t224, A30, H⟩ := H
 replace H : (ltext_Parse.l0 k ([] : List (S23)) (wrap64 ((t224.length : Int) - 1)) t224 (t224.length : Int) 0) = some (r1, r2, r3) := H
 have A3 := Aside0.mk A30
 clear A30
 have H' := Aside0.mk H
 clear H
 go_enter Tryd.func21, Tryd.ntmps21
 go_wp2_with (first | ((with_reducible refine gate_dst (N := 13) rfl ?_); (try (refine gate_guard (by rfl) ?_; dsimp only)); refine Kd.V_bytes _ 5 rfl (N := 13) rfl 9 59 _ rfl Tryd.underlying9 Tryd.underlying59 Tryd.underlying5 a0 rfl (by have h_ : (a0.size : Int) ≤ (281474976710656 : Int) := of_decide_eq_true sqH; omega) (ok := (fun _ => True)) (okp := (fun _ => True)) (fun _ hk => hk) ((show ∀ k_, w.heap.size ≤ k_ → (fun _ => True) k_ from fun k_ hk => trivial) _ (Nat.le_refl _)) (Below.refl _ _) (Nat.le_refl _) ?_; intro v222 w4 ho5 hb hg_ hnew_; clear hg_ hnew_; (first | rw [← Ny221.out] at ho5 | (simp only [Int.reduceToNat] at ho5; rw [← Ny221.out] at ho5)); have HO223 := sqM (Kd.V_lower ho5 (below_size (sqB HB.out))); replace HB := sqM (below_step (sqB HB.out) hb); clear hb ho5; obtain ⟨Ao6, co6, eo6⟩ := Kd.V_slice HO223.out; subst eo6) | ((with_reducible refine gate_callee (f := 43) rfl ?_); refine goesL_ (some 14) rfl rfl Tryd.func43 (by kernel_rfl) rfl #[.slice Ao6 y221.length co6, .int .u8 10] rfl sqA ?_; (with_reducible refine (ltext_split.calls _ (fun k_ => True) _ _ _ _ _ _ ?side1 A3.out).mono ?_); (case side1 => exact HO223.out); rintro e w7 ⟨v225, rfl, ho0, hb⟩; refine ⟨_, rfl, ?_⟩; have HO226 := sqM (Kd.N_lower (Kd.N_mono (ok' := fun k_ => True) ho0 (fun k_ hk_ => trivial)) (below_size (sqB HB.out))); replace HO223 := sqM (Kd.V_elder' (sqV HO223.out) (Kd.N_base ho0) hb); replace HB := sqM (below_step (sqB HB.out) hb); (try clear hb); (try clear hb2); (try clear hk); (try clear hi); (try clear ho0); obtain ⟨Ao8, co8, eo8⟩ := Kd.N_slice HO226.out; subst eo8))
 go_loopg [6, 20] k (fun kq v6 v20 w' => ∃ (x6_1 : List (S23)) (x20_1 : Int), v20 = .int .i64 x20_1 ∧ Aside0 (ltext_Parse.l0 kq x6_1 (wrap64 ((t224.length : Int) - 1)) t224 (t224.length : Int) x20_1 = some (r1, r2, r3)) ∧ Aside0 (kq ≤ k) ∧ Aside0 (Kd.R k23 23 w' w.heap.size (fun _ => True) v6 x6_1) ∧ Aside0 (Kd.N (Kd.slice 5 (Kd.int .u8)) 59 w' w.heap.size (fun k_ => some k_ ≠ (v6 : Value).ownBlock) (.slice Ao8 t224.length co8) t224) ∧ Aside0 (Below w.heap.size w w'))
 case atStart => exact ⟨(([] : List (S23))), (0), sqI, H', ⟨Nat.le_refl _⟩, ⟨by first | exact Kd.R_nil _ _ _ _ _ | exact Kd.N_nil _ _ _ _ _ | exact Kd.V_nil _ _ _ _ _ | exact Kd.Q_nil _ _ _ _ _ | exact Kd.S_nil _ _ _ _ _⟩, ⟨by refine sqN ?_; exact Kd.N_mono HO226.out (fun _ hk => (by simp [Value.ownBlock]))⟩, ⟨sqB HB.out⟩⟩
 clear H'
 try clear c2
 try clear c2b0
 try clear c2b1
 try clear p2
 try clear c4
 try clear p6
 obtain ⟨x6_1, x20_1, rfl, HA, HK1, HO_6, HO_18, HB⟩ := hrel
 cases gk with
 | zero => exact absurd HA.out (by simp [ltext_Parse.l0])
 | succ k1 => ?_
 have H := HA.out
 clear HA
 simp only [ltext_Parse.l0] at H
 by_cases c9 : x20_1 < (t224.length : Int)
 rotate_left
 · rw [if_neg c9] at H
   have c9b0 : decide (x20_1 < (t224.length : Int)) = false := decide_eq_false c9
   clear c9
   simp only [Option.some.injEq, Prod.mk.injEq] at H
   obtain ⟨rfl, rfl, rfl⟩ := H
   go_wp2
   go_ret3
   exact ⟨_, sqE, by refine sqR ?_; exact HO_6.out, sqB HB.out⟩
 rw [if_pos c9] at H
 have c9b0 : decide (x20_1 < (t224.length : Int)) = true := decide_eq_true c9
 clear c9
 by_cases c10 : 0 ≤ x20_1
 rotate_left
 · rw [if_neg c10] at H
   exact absurd H (by simp)
 rw [if_pos c10] at H
 have c10b0 : decide (0 ≤ x20_1) = true := decide_eq_true c10
 clear c10
 by_cases c11 : x20_1 < (t224.length : Int)
 rotate_left
 · rw [if_neg c11] at H
   exact absurd H (by simp)
 rw [if_pos c11] at H
 have c11b0 : decide (x20_1 < (t224.length : Int)) = true := decide_eq_true c11
 clear c11
 by_cases c12 : x20_1 = (wrap64 ((t224.length : Int) - 1))
 · rw [if_pos c12] at H
   have c12b0 : (x20_1 == (wrap64 ((t224.length : Int) - 1))) = true := beq_iff_eq.mpr c12
   have c12b1 : (x20_1 != (wrap64 ((t224.length : Int) - 1))) = false := bne_eq_false_iff_eq.mpr c12
   clear c12
   by_cases c13 : ((rd_L1 t224 x20_1).length : Int) = 0
   · rw [if_pos c13] at H
     have c13b0 : (((rd_L1 t224 x20_1).length : Int) == 0) = true := beq_iff_eq.mpr c13
     have c13b1 : (((rd_L1 t224 x20_1).length : Int) != 0) = false := bne_eq_false_iff_eq.mpr c13
     clear c13
     simp only [Option.some.injEq, Prod.mk.injEq] at H
     obtain ⟨rfl, rfl, rfl⟩ := H
     have p227 : 0 ≤ (x20_1 : Int) := of_decide_eq_true sqH
     have q227 : x20_1 < (t224.length : Int) := of_decide_eq_true sqH
     obtain ⟨ad227, A227_0, c227_0, e227, hx227_0, hl227_0, hi227_0⟩ := at_L1 (Kd.N_reads' HO_18.out).2.2 x20_1 p227 q227
     cases e227
     obtain ⟨ce227, hce227, hMe227, hcc227⟩ := Kd.N_get HO_18.out [] x20_1 p227 (by first | exact q227 | exact of_decide_eq_true sqH | (have e_ := (Kd.N_reads' HO_18.out).1; omega))
     obtain ⟨ua227_0, uc227_0, rfl, ul227_0, ge227_0⟩ := Kd.FK_slice_open hMe227
     have hv227_0 := hcc227 0 _ rfl
     rw [Nat.add_zero, show ((Kd.slice 5 (Kd.int .u8))).sz = 1 from rfl, Nat.mul_one] at hv227_0
     replace hv227_0 := Option.some.inj (hv227_0.symm.trans hx227_0)
     injection hv227_0 with hva_ hvn_ hvc_
     rw [hva_] at ge227_0
     rw [hvc_] at ul227_0
     have HL227_0 := sqM (show Kd.V (Kd.int .u8) 5 _ w.heap.size _ _ (rd_L1 t224 x20_1) from Kd.V_mk ul227_0 ge227_0)
     clear hva_ hvn_ hvc_ ge227_0 ul227_0
     clear hcc227 hce227
     have HR227_0 := Aside0.mk hi227_0
     have HC227_0 := Aside0.mk hl227_0
     clear hi227_0 hl227_0
     replace p227 := eq_true p227
     replace q227 := eq_true q227
     go_wp2
     go_ret3
     exact ⟨_, sqE, by refine sqR ?_; exact HO_6.out, sqB HB.out⟩
   rw [if_neg c13] at H
   have c13b0 : (((rd_L1 t224 x20_1).length : Int) == 0) = false := beq_eq_false_iff_ne.mpr c13
   have c13b1 : (((rd_L1 t224 x20_1).length : Int) != 0) = true := bne_iff_ne.mpr c13
   have c13b2 : ¬ ((rd_L1 t224 x20_1) = []) := fun h_ => c13 (by rw [h_]; rfl)
   replace H := Option.bind_eq_some_iff.mp H
   obtain ⟨⟨t228, t229, t230, t231, t232⟩, A140, H⟩ := H
   replace H : (if t232 = 0 then (some (([] : List (S23)), wrap64 (x20_1 + 1), 2)) else (some (([] : List (S23)), wrap64 (x20_1 + 1), 2))) = some (r1, r2, r3) := H
   have A14 := Aside0.mk A140
   clear A140
   by_cases c15 : t232 = 0
   rotate_left
   · rw [if_neg c15] at H
     have c15b0 : (t232 == 0) = false := beq_eq_false_iff_ne.mpr c15
     have c15b1 : (t232 != 0) = true := bne_iff_ne.mpr c15
     simp only [Option.some.injEq, Prod.mk.injEq] at H
     obtain ⟨rfl, rfl, rfl⟩ := H
     have p227 : 0 ≤ (x20_1 : Int) := of_decide_eq_true sqH
     have q227 : x20_1 < (t224.length : Int) := of_decide_eq_true sqH
     obtain ⟨ad227, A227_0, c227_0, e227, hx227_0, hl227_0, hi227_0⟩ := at_L1 (Kd.N_reads' HO_18.out).2.2 x20_1 p227 q227
     cases e227
     obtain ⟨ce227, hce227, hMe227, hcc227⟩ := Kd.N_get HO_18.out [] x20_1 p227 (by first | exact q227 | exact of_decide_eq_true sqH | (have e_ := (Kd.N_reads' HO_18.out).1; omega))
     obtain ⟨ua227_0, uc227_0, rfl, ul227_0, ge227_0⟩ := Kd.FK_slice_open hMe227
     have hv227_0 := hcc227 0 _ rfl
     rw [Nat.add_zero, show ((Kd.slice 5 (Kd.int .u8))).sz = 1 from rfl, Nat.mul_one] at hv227_0
     replace hv227_0 := Option.some.inj (hv227_0.symm.trans hx227_0)
     injection hv227_0 with hva_ hvn_ hvc_
     rw [hva_] at ge227_0
     rw [hvc_] at ul227_0
     have HL227_0 := sqM (show Kd.V (Kd.int .u8) 5 _ w.heap.size _ _ (rd_L1 t224 x20_1) from Kd.V_mk ul227_0 ge227_0)
     clear hva_ hvn_ hvc_ ge227_0 ul227_0
     clear hcc227 hce227
     have HR227_0 := Aside0.mk hi227_0
     have HC227_0 := Aside0.mk hl227_0
     clear hi227_0 hl227_0
     replace p227 := eq_true p227
     replace q227 := eq_true q227
     have hcv20 := Kd.C_string (P := Tryd.prog) (A := A227_0) (c := c227_0) Tryd.underlying59 Tryd.underlying5 Tryd.underlying9 (sqC HR227_0.out)
     go_wp2_with (first | ((with_reducible refine gate_callee (f := 16) rfl ?_); refine goesL_ (some 36) rfl rfl Tryd.func16 (by kernel_rfl) rfl #[.string (strOfNums (rd_L1 t224 x20_1))] rfl sqA ?_; (with_reducible refine (ltext_Lease.calls _ _ _ _ _ _ _ _ ?side1 A14.out).mono ?_); (case side1 => first | exact HT.out | exact TabW.below HT.out (sqB HB.out) | exact TabW.drawn HT.out ⟨_, rfl⟩); rintro e w21 ⟨rfl, hb⟩; refine ⟨_, rfl, ?_⟩; replace HO_6 := sqM (Kd.R_below (sqR HO_6.out) hb); replace HO_18 := sqM (Kd.N_below (sqN HO_18.out) hb); replace HL227_0 := sqM (Kd.V_below (sqV HL227_0.out) hb); replace HR227_0 := sqM (Kd.C_below (sqC HR227_0.out) hb); replace HB := sqM (below_step (sqB HB.out) hb); (try clear hb); (try clear hb2); (try clear hk); (try clear hi)) | ((with_reducible refine gate_dst (N := 10) rfl ?_); (try (refine gate_guard (by rfl) ?_; dsimp only)); refine box_event rfl (N := 10) rfl (cs := #[.int .i64 0, .int .i64 0, .int .i64 0, .string (⟨#[]⟩ : ByteArray)]) (t := 23) sqs ?_; intro gb233 hg w22 hbox hb; have BK233 := sqM (hbox); have GW233 := sqM (sqZ hg (sqB HB.out)); have GE233 := sqM (sqZ hg (sqB HB.out)); replace HO_6 := sqM (sqRe (sqR HO_6.out) hg hb); replace HO_18 := sqM (sqNe (sqN HO_18.out) hg hb); replace HL227_0 := sqM (sqVe (sqV HL227_0.out) hg hb); replace HR227_0 := sqM (Kd.C_below (sqC HR227_0.out) hb); replace HB := sqM (below_step (sqB HB.out) hb); clear hb hbox hg; obtain ⟨hcz23_0, hcz23_1, hcz23_2, hcz23_3, hfz23_0, hfz23_1, hfz23_2, hfz23_3⟩ := sqF4 BK233.out))
     go_ret3
     exact ⟨_, sqE, by first | exact Kd.R_nil _ _ _ _ _ | exact Kd.N_nil _ _ _ _ _ | exact Kd.V_nil _ _ _ _ _ | exact Kd.Q_nil _ _ _ _ _ | exact Kd.S_nil _ _ _ _ _, sqB1 HB.out GE233.out⟩
   rw [if_pos c15] at H
   have c15b0 : (t232 == 0) = true := beq_iff_eq.mpr c15
   have c15b1 : (t232 != 0) = false := bne_eq_false_iff_eq.mpr c15
   clear c15
   simp only [Option.some.injEq, Prod.mk.injEq] at H
   obtain ⟨rfl, rfl, rfl⟩ := H
   have p227 : 0 ≤ (x20_1 : Int) := of_decide_eq_true sqH
   have q227 : x20_1 < (t224.length : Int) := of_decide_eq_true sqH
   obtain ⟨ad227, A227_0, c227_0, e227, hx227_0, hl227_0, hi227_0⟩ := at_L1 (Kd.N_reads' HO_18.out).2.2 x20_1 p227 q227
   cases e227
   obtain ⟨ce227, hce227, hMe227, hcc227⟩ := Kd.N_get HO_18.out [] x20_1 p227 (by first | exact q227 | exact of_decide_eq_true sqH | (have e_ := (Kd.N_reads' HO_18.out).1; omega))
   obtain ⟨ua227_0, uc227_0, rfl, ul227_0, ge227_0⟩ := Kd.FK_slice_open hMe227
   have hv227_0 := hcc227 0 _ rfl
   rw [Nat.add_zero, show ((Kd.slice 5 (Kd.int .u8))).sz = 1 from rfl, Nat.mul_one] at hv227_0
   replace hv227_0 := Option.some.inj (hv227_0.symm.trans hx227_0)
   injection hv227_0 with hva_ hvn_ hvc_
   rw [hva_] at ge227_0
   rw [hvc_] at ul227_0
   have HL227_0 := sqM (show Kd.V (Kd.int .u8) 5 _ w.heap.size _ _ (rd_L1 t224 x20_1) from Kd.V_mk ul227_0 ge227_0)
   clear hva_ hvn_ hvc_ ge227_0 ul227_0
   clear hcc227 hce227
   have HR227_0 := Aside0.mk hi227_0
   have HC227_0 := Aside0.mk hl227_0
   clear hi227_0 hl227_0
   replace p227 := eq_true p227
   replace q227 := eq_true q227
   have hcv16 := Kd.C_string (P := Tryd.prog) (A := A227_0) (c := c227_0) Tryd.underlying59 Tryd.underlying5 Tryd.underlying9 (sqC HR227_0.out)
   go_wp2_with (first | ((with_reducible refine gate_callee (f := 16) rfl ?_); refine goesL_ (some 36) rfl rfl Tryd.func16 (by kernel_rfl) rfl #[.string (strOfNums (rd_L1 t224 x20_1))] rfl sqA ?_; (with_reducible refine (ltext_Lease.calls _ _ _ _ _ _ _ _ ?side1 A14.out).mono ?_); (case side1 => first | exact HT.out | exact TabW.below HT.out (sqB HB.out) | exact TabW.drawn HT.out ⟨_, rfl⟩); rintro e w17 ⟨rfl, hb⟩; refine ⟨_, rfl, ?_⟩; replace HO_6 := sqM (Kd.R_below (sqR HO_6.out) hb); replace HO_18 := sqM (Kd.N_below (sqN HO_18.out) hb); replace HL227_0 := sqM (Kd.V_below (sqV HL227_0.out) hb); replace HR227_0 := sqM (Kd.C_below (sqC HR227_0.out) hb); replace HB := sqM (below_step (sqB HB.out) hb); (try clear hb); (try clear hb2); (try clear hk); (try clear hi)) | ((with_reducible refine gate_dst (N := 10) rfl ?_); (try (refine gate_guard (by rfl) ?_; dsimp only)); refine box_event rfl (N := 10) rfl (cs := #[.int .i64 0, .int .i64 0, .int .i64 0, .string (⟨#[]⟩ : ByteArray)]) (t := 23) sqs ?_; intro gb233 hg w18 hbox hb; have BK233 := sqM (hbox); have GW233 := sqM (sqZ hg (sqB HB.out)); have GE233 := sqM (sqZ hg (sqB HB.out)); replace HO_6 := sqM (sqRe (sqR HO_6.out) hg hb); replace HO_18 := sqM (sqNe (sqN HO_18.out) hg hb); replace HL227_0 := sqM (sqVe (sqV HL227_0.out) hg hb); replace HR227_0 := sqM (Kd.C_below (sqC HR227_0.out) hb); replace HB := sqM (below_step (sqB HB.out) hb); clear hb hbox hg; obtain ⟨hcz19_0, hcz19_1, hcz19_2, hcz19_3, hfz19_0, hfz19_1, hfz19_2, hfz19_3⟩ := sqF4 BK233.out))
   go_ret3
   exact ⟨_, sqE, by first | exact Kd.R_nil _ _ _ _ _ | exact Kd.N_nil _ _ _ _ _ | exact Kd.V_nil _ _ _ _ _ | exact Kd.Q_nil _ _ _ _ _ | exact Kd.S_nil _ _ _ _ _, sqB1 HB.out GE233.out⟩
 rw [if_neg c12] at H
 have c12b0 : (x20_1 == (wrap64 ((t224.length : Int) - 1))) = false := beq_eq_false_iff_ne.mpr c12
 have c12b1 : (x20_1 != (wrap64 ((t224.length : Int) - 1))) = true := bne_iff_ne.mpr c12
 replace H := Option.bind_eq_some_iff.mp H
 obtain ⟨⟨t234, t235, t236, t237, t238⟩, A240, H⟩ := H
 replace H : (if t238 = 0 then (if x6_1.length < 3518437208883 then ((some (x6_1 ++ [(⟨t234, t235, t236, t237⟩ : S23)] : List (S23))).bind fun y240 => ((table_Right.f k1 y240).bind fun t243 => (if t243 = true then (ltext_Parse.l0 k1 y240 (wrap64 ((t224.length : Int) - 1)) t224 (t224.length : Int) (wrap64 (x20_1 + 1))) else (some (([] : List (S23)), wrap64 (x20_1 + 1), 2))))) else (none)) else (some (([] : List (S23)), wrap64 (x20_1 + 1), 2))) = some (r1, r2, r3) := H
 have A24 := Aside0.mk A240
 clear A240
 by_cases c25 : t238 = 0
 rotate_left
 · rw [if_neg c25] at H
   have c25b0 : (t238 == 0) = false := beq_eq_false_iff_ne.mpr c25
   have c25b1 : (t238 != 0) = true := bne_iff_ne.mpr c25
   simp only [Option.some.injEq, Prod.mk.injEq] at H
   obtain ⟨rfl, rfl, rfl⟩ := H
   have p227 : 0 ≤ (x20_1 : Int) := of_decide_eq_true sqH
   have q227 : x20_1 < (t224.length : Int) := of_decide_eq_true sqH
   obtain ⟨ad227, A227_0, c227_0, e227, hx227_0, hl227_0, hi227_0⟩ := at_L1 (Kd.N_reads' HO_18.out).2.2 x20_1 p227 q227
   cases e227
   obtain ⟨ce227, hce227, hMe227, hcc227⟩ := Kd.N_get HO_18.out [] x20_1 p227 (by first | exact q227 | exact of_decide_eq_true sqH | (have e_ := (Kd.N_reads' HO_18.out).1; omega))
   obtain ⟨ua227_0, uc227_0, rfl, ul227_0, ge227_0⟩ := Kd.FK_slice_open hMe227
   have hv227_0 := hcc227 0 _ rfl
   rw [Nat.add_zero, show ((Kd.slice 5 (Kd.int .u8))).sz = 1 from rfl, Nat.mul_one] at hv227_0
   replace hv227_0 := Option.some.inj (hv227_0.symm.trans hx227_0)
   injection hv227_0 with hva_ hvn_ hvc_
   rw [hva_] at ge227_0
   rw [hvc_] at ul227_0
   have HL227_0 := sqM (show Kd.V (Kd.int .u8) 5 _ w.heap.size _ _ (rd_L1 t224 x20_1) from Kd.V_mk ul227_0 ge227_0)
   clear hva_ hvn_ hvc_ ge227_0 ul227_0
   clear hcc227 hce227
   have HR227_0 := Aside0.mk hi227_0
   have HC227_0 := Aside0.mk hl227_0
   clear hi227_0 hl227_0
   replace p227 := eq_true p227
   replace q227 := eq_true q227
   have hcv43 := Kd.C_string (P := Tryd.prog) (A := A227_0) (c := c227_0) Tryd.underlying59 Tryd.underlying5 Tryd.underlying9 (sqC HR227_0.out)
   go_wp2_with (first | ((with_reducible refine gate_callee (f := 16) rfl ?_); refine goesL_ (some 36) rfl rfl Tryd.func16 (by kernel_rfl) rfl #[.string (strOfNums (rd_L1 t224 x20_1))] rfl sqA ?_; (with_reducible refine (ltext_Lease.calls _ _ _ _ _ _ _ _ ?side1 A24.out).mono ?_); (case side1 => first | exact HT.out | exact TabW.below HT.out (sqB HB.out) | exact TabW.drawn HT.out ⟨_, rfl⟩); rintro e w44 ⟨rfl, hb⟩; refine ⟨_, rfl, ?_⟩; replace HO_6 := sqM (Kd.R_below (sqR HO_6.out) hb); replace HO_18 := sqM (Kd.N_below (sqN HO_18.out) hb); replace HL227_0 := sqM (Kd.V_below (sqV HL227_0.out) hb); replace HR227_0 := sqM (Kd.C_below (sqC HR227_0.out) hb); replace HB := sqM (below_step (sqB HB.out) hb); (try clear hb); (try clear hb2); (try clear hk); (try clear hi)) | ((with_reducible refine gate_dst (N := 10) rfl ?_); (try (refine gate_guard (by rfl) ?_; dsimp only)); refine box_event rfl (N := 10) rfl (cs := #[.int .i64 0, .int .i64 0, .int .i64 0, .string (⟨#[]⟩ : ByteArray)]) (t := 23) sqs ?_; intro gb239 hg w45 hbox hb; have BK239 := sqM (hbox); have GW239 := sqM (sqZ hg (sqB HB.out)); have GE239 := sqM (sqZ hg (sqB HB.out)); replace HO_6 := sqM (sqRe (sqR HO_6.out) hg hb); replace HO_18 := sqM (sqNe (sqN HO_18.out) hg hb); replace HL227_0 := sqM (sqVe (sqV HL227_0.out) hg hb); replace HR227_0 := sqM (Kd.C_below (sqC HR227_0.out) hb); replace HB := sqM (below_step (sqB HB.out) hb); clear hb hbox hg; obtain ⟨hcz46_0, hcz46_1, hcz46_2, hcz46_3, hfz46_0, hfz46_1, hfz46_2, hfz46_3⟩ := sqF4 BK239.out))
   go_ret3
   exact ⟨_, sqE, by first | exact Kd.R_nil _ _ _ _ _ | exact Kd.N_nil _ _ _ _ _ | exact Kd.V_nil _ _ _ _ _ | exact Kd.Q_nil _ _ _ _ _ | exact Kd.S_nil _ _ _ _ _, sqB1 HB.out GE239.out⟩
 rw [if_pos c25] at H
 have c25b0 : (t238 == 0) = true := beq_iff_eq.mpr c25
 have c25b1 : (t238 != 0) = false := bne_eq_false_iff_eq.mpr c25
 clear c25
 by_cases c26 : x6_1.length < 3518437208883
 rotate_left
 · rw [if_neg c26] at H
   exact absurd H (by simp)
 rw [if_pos c26] at H
 have LMc26 := Aside0.mk c26
 clear c26
 obtain ⟨y240, hy240⟩ : ∃ y_ : List (S23), y_ = (x6_1 ++ [(⟨t234, t235, t236, t237⟩ : S23)]) := ⟨_, rfl⟩
 replace H : ((table_Right.f k1 y240).bind fun t243 => (if t243 = true then (ltext_Parse.l0 k1 y240 (wrap64 ((t224.length : Int) - 1)) t224 (t224.length : Int) (wrap64 (x20_1 + 1))) else (some (([] : List (S23)), wrap64 (x20_1 + 1), 2)))) = some (r1, r2, r3) := by first | (rw [hy240]; with_reducible exact H) | (have H2_ := (Option.bind_some _ _).symm.trans H; rw [hy240]; with_reducible exact H2_) | (have H2_ := (Option.bind_some _ _).symm.trans H; with_reducible exact H2_) | with_reducible exact H | (rw [hy240]; exact H) | exact H
 have Ny240 := Aside0.mk hy240
 clear hy240
 replace H := Option.bind_eq_some_iff.mp H
 obtain ⟨t243, A270, H⟩ := H
 replace H : (if t243 = true then (ltext_Parse.l0 k1 y240 (wrap64 ((t224.length : Int) - 1)) t224 (t224.length : Int) (wrap64 (x20_1 + 1))) else (some (([] : List (S23)), wrap64 (x20_1 + 1), 2))) = some (r1, r2, r3) := H
 have A27 := Aside0.mk A270
 clear A270
 by_cases c28 : t243 = true
 · subst c28
   have H1 : (ltext_Parse.l0 k1 y240 (wrap64 ((t224.length : Int) - 1)) t224 (t224.length : Int) (wrap64 (x20_1 + 1))) = some (r1, r2, r3) := by rw [if_pos rfl] at H; exact H
   clear H
   have H := H1
   clear H1
   have H' := Aside0.mk H
   clear H
   have p227 : 0 ≤ (x20_1 : Int) := of_decide_eq_true sqH
   have q227 : x20_1 < (t224.length : Int) := of_decide_eq_true sqH
   obtain ⟨ad227, A227_0, c227_0, e227, hx227_0, hl227_0, hi227_0⟩ := at_L1 (Kd.N_reads' HO_18.out).2.2 x20_1 p227 q227
   cases e227
   obtain ⟨ce227, hce227, hMe227, hcc227⟩ := Kd.N_get HO_18.out [] x20_1 p227 (by first | exact q227 | exact of_decide_eq_true sqH | (have e_ := (Kd.N_reads' HO_18.out).1; omega))
   obtain ⟨ua227_0, uc227_0, rfl, ul227_0, ge227_0⟩ := Kd.FK_slice_open hMe227
   have hv227_0 := hcc227 0 _ rfl
   rw [Nat.add_zero, show ((Kd.slice 5 (Kd.int .u8))).sz = 1 from rfl, Nat.mul_one] at hv227_0
   replace hv227_0 := Option.some.inj (hv227_0.symm.trans hx227_0)
   injection hv227_0 with hva_ hvn_ hvc_
   rw [hva_] at ge227_0
   rw [hvc_] at ul227_0
   have HL227_0 := sqM (show Kd.V (Kd.int .u8) 5 _ w.heap.size _ _ (rd_L1 t224 x20_1) from Kd.V_mk ul227_0 ge227_0)
   clear hva_ hvn_ hvc_ ge227_0 ul227_0
   clear hcc227 hce227
   have HR227_0 := Aside0.mk hi227_0
   have HC227_0 := Aside0.mk hl227_0
   clear hi227_0 hl227_0
   replace p227 := eq_true p227
   replace q227 := eq_true q227
   have hcv29 := Kd.C_string (P := Tryd.prog) (A := A227_0) (c := c227_0) Tryd.underlying59 Tryd.underlying5 Tryd.underlying9 (sqC HR227_0.out)
   go_wp2_with (first | ((with_reducible refine gate_callee (f := 16) rfl ?_); refine goesL_ (some 36) rfl rfl Tryd.func16 (by kernel_rfl) rfl #[.string (strOfNums (rd_L1 t224 x20_1))] rfl sqA ?_; (with_reducible refine (ltext_Lease.calls _ _ _ _ _ _ _ _ ?side1 A24.out).mono ?_); (case side1 => first | exact HT.out | exact TabW.below HT.out (sqB HB.out) | exact TabW.drawn HT.out ⟨_, rfl⟩); rintro e w30 ⟨rfl, hb⟩; refine ⟨_, rfl, ?_⟩; replace HO_6 := sqM (Kd.R_below (sqR HO_6.out) hb); replace HO_18 := sqM (Kd.N_below (sqN HO_18.out) hb); replace HL227_0 := sqM (Kd.V_below (sqV HL227_0.out) hb); replace HR227_0 := sqM (Kd.C_below (sqC HR227_0.out) hb); replace HB := sqM (below_step (sqB HB.out) hb); (try clear hb); (try clear hb2); (try clear hk); (try clear hi)) | ((with_reducible refine gate_dst (N := 10) rfl ?_); (try (refine gate_guard (by rfl) ?_; dsimp only)); refine box_event rfl (N := 10) rfl (cs := #[.int .i64 0, .int .i64 0, .int .i64 0, .string (⟨#[]⟩ : ByteArray)]) (t := 23) sqs ?_; intro gb239 hg w31 hbox hb; have BK239 := sqM (hbox); have GW239 := sqM (sqZ hg (sqB HB.out)); have GE239 := sqM (sqZ hg (sqB HB.out)); replace HO_6 := sqM (sqRe (sqR HO_6.out) hg hb); replace HO_18 := sqM (sqNe (sqN HO_18.out) hg hb); replace HL227_0 := sqM (sqVe (sqV HL227_0.out) hg hb); replace HR227_0 := sqM (Kd.C_below (sqC HR227_0.out) hb); replace HB := sqM (below_step (sqB HB.out) hb); clear hb hbox hg; obtain ⟨hcz32_0, hcz32_1, hcz32_2, hcz32_3, hfz32_0, hfz32_1, hfz32_2, hfz32_3⟩ := sqF4 BK239.out) | ((with_reducible refine gate_builtin (b := .append) (xs := #[.tmp 47, .tmp 49]) rfl ?_); (try (refine gate_guard (by rfl) ?_; dsimp only)); at_builtin; refine Kd.R_append_two k23 (w0 := w) w.heap.size rfl (.tmp 47) (.tmp 49) 36 23 (.agg #[(.int .i64 0), (.int .i64 0), (.int .i64 0), (.string ⟨#[]⟩)]) 40 rfl Tryd.underlying36 info23 rfl (by decide) (by omega) u6 x6_1 (⟨t234, t235, t236, t237⟩ : S23) [.int .i64 t234, .int .i64 t235, .int .i64 t236, .string t237] (fun k_ => k_ ≠ gb239) (fun _ => False) rfl (by first | (go_simp; done) | (go_simp; rfl)) ?aP (fun _ hk => hk.elim) ?aF ?aO ?aB ?aS ?aL ?_; (case aP => exact k23_mkM _ _ _ (⟨t234, t235, t236, t237⟩ : S23)); (case aB => exact (sqB1 HB.out GE239.out)); (case aF => exact (fun k_ hk => Kd.freshB (g := gb239) (o := .cells #[.int .i64 t234, .int .i64 t235, .int .i64 t236, .string t237] 23 (0, 0)) (by exact (sqK (sqP4 BK239.out))) k_ hk)); (case aO => exact (by refine sqR ?_; exact Kd.R_mono (sqR4 (Kd.R_mono HO_6.out (fun k_ hk => (⟨hk, hk.2⟩ : _ ∧ k_ ≠ gb239))) (fun _ hk => hk.2)) (fun _ hk => hk.1.2))); (case aS => exact (below_size (sqB1 HB.out GE239.out))); (case aL => have := LMc26.out; omega); intro v241 w33 ho ho2 hb hg hat; rw [← Ny240.out] at ho; have HO242 := sqM (ho); replace HO_18 := sqM (Kd.N_afterv (ok := (fun k_ => k_ ≠ gb239 ∧ some k_ ≠ (u6 : Value).ownBlock)) (by refine sqN ?_; exact Kd.N_mono (sqN4 (Kd.N_mono HO_18.out (fun k_ hk => (⟨hk, hk.2⟩ : _ ∧ k_ ≠ gb239))) (fun _ hk => hk.2)) (fun _ hk => ⟨⟨hk.1.2, hk.1.1⟩, hk.1.1⟩)) hg hat); replace BK239 := sqM (blk_grown (g := gb239) (o := .cells #[.int .i64 t234, .int .i64 t235, .int .i64 t236, .string t237] 23 (0, 0)) (by exact (sqK (sqP4 BK239.out))) hg (Kd.R_away HO_6.out (fun _ hk => hk.2))); replace HB := sqM (hb); replace HO_6 := sqM (ho2); clear ho ho2 hb hg hat; obtain ⟨Ao34, co34, eo34⟩ := Kd.R_slice HO242.out; subst eo34) | (go_at_call 51; (with_reducible refine (table_Right.calls _ _ _ _ _ _ ?side1 ?side2 A27.out).mono ?_); (case side1 => repeat (first | exact (Kd.R_reads' HO242.out).2.2 | (with_reducible refine Kd.C_alloc ?_ _) | (with_reducible refine Kd.C_drewN ?_ _) | (with_reducible refine Kd.C_drew ?_))); (case side2 => exact (Kd.R_reads' HO242.out).2.1); rintro e w35 ⟨rfl, hb⟩; replace HO_18 := sqM (Kd.N_below (sqN HO_18.out) hb); replace HO_6 := sqM (Kd.R_below (sqR HO_6.out) hb); replace HO242 := sqM (Kd.R_below (sqR HO242.out) hb); replace BK239 := sqM (blk_below (sqK BK239.out) hb); replace HB := sqM (below_step (sqB1 HB.out GE239.out) hb); (try clear hb); (try clear hb2); (try clear hk); (try clear hi); obtain ⟨hcza_0, hcza_1, hcza_2, hcza_3, hfza_0, hfza_1, hfza_2, hfza_3⟩ := sqF4 BK239.out) | ((with_reducible refine gate_builtin (b := .append) (xs := #[.tmp 56, .tmp 58]) rfl ?_); (try (refine gate_guard (by rfl) ?_; dsimp only)); at_builtin; refine Kd.R_append k23 (w0 := w) w.heap.size rfl (.tmp 56) (.tmp 58) 36 23 (.agg #[(.int .i64 0), (.int .i64 0), (.int .i64 0), (.string ⟨#[]⟩)]) 40 rfl Tryd.underlying36 info23 rfl (by decide) (by omega) u6 x6_1 (⟨t234, t235, t236, t237⟩ : S23) [.int .i64 t234, .int .i64 t235, .int .i64 t236, .string t237] (fun k_ => k_ ≠ gb239) (fun _ => False) rfl (by first | (go_simp; done) | (go_simp; rfl)) ?aP (fun _ hk => hk.elim) ?aF ?aO ?aB ?aS ?aL ?_; (case aP => exact k23_mkM _ _ _ (⟨t234, t235, t236, t237⟩ : S23)); (case aB => exact (sqB HB.out)); (case aF => exact (fun k_ hk => Kd.freshB (g := gb239) (o := .cells #[.int .i64 t234, .int .i64 t235, .int .i64 t236, .string t237] 23 (0, 0)) (by exact (sqK BK239.out)) k_ hk)); (case aO => exact (by refine sqR ?_; exact HO_6.out)); (case aS => exact (below_size (sqB HB.out))); (case aL => have := LMc26.out; omega); intro vsec wsec ho hb hg hat; rw [← Ny240.out] at ho; have HOsec := sqM (ho); replace HO_18 := sqM (Kd.N_afterv (ok := (fun k_ => k_ ≠ gb239)) (by refine sqN ?_; exact Kd.N_mono HO_18.out (fun _ hk => ⟨hk.1.1, hk.1.2⟩)) hg hat); replace BK239 := sqM (blk_grown (g := gb239) (o := .cells #[.int .i64 t234, .int .i64 t235, .int .i64 t236, .string t237] 23 (0, 0)) (by exact (sqK BK239.out)) hg (Kd.R_away HO_6.out (fun _ hk => hk))); replace HB := sqM (hb); clear HO_6; clear ho hb hg hat; obtain ⟨Aosec, cosec, eosec⟩ := Kd.R_slice HOsec.out; subst eosec))
   go_roundg k1
   case measure => have := HK1.out; omega
   case rel => exact ⟨(y240), (wrap64 (x20_1 + 1)), sqI, H', ⟨by have := HK1.out; omega⟩, ⟨by refine sqR ?_; exact Kd.R_mono HOsec.out (fun _ hk => trivial)⟩, ⟨by refine sqN ?_; exact Kd.N_mono HO_18.out (fun _ hk => hk.2)⟩, ⟨sqB HB.out⟩⟩
 replace c28 := Bool.eq_false_iff.mpr c28
 subst c28
 have H1 : (some (([] : List (S23)), wrap64 (x20_1 + 1), 2)) = some (r1, r2, r3) := by rw [if_neg (show ¬ (false = true) by decide)] at H; exact H
 clear H
 have H := H1
 clear H1
 simp only [Option.some.injEq, Prod.mk.injEq] at H
 obtain ⟨rfl, rfl, rfl⟩ := H
 have p227 : 0 ≤ (x20_1 : Int) := of_decide_eq_true sqH
 have q227 : x20_1 < (t224.length : Int) := of_decide_eq_true sqH
 obtain ⟨ad227, A227_0, c227_0, e227, hx227_0, hl227_0, hi227_0⟩ := at_L1 (Kd.N_reads' HO_18.out).2.2 x20_1 p227 q227
 cases e227
 obtain ⟨ce227, hce227, hMe227, hcc227⟩ := Kd.N_get HO_18.out [] x20_1 p227 (by first | exact q227 | exact of_decide_eq_true sqH | (have e_ := (Kd.N_reads' HO_18.out).1; omega))
 obtain ⟨ua227_0, uc227_0, rfl, ul227_0, ge227_0⟩ := Kd.FK_slice_open hMe227
 have hv227_0 := hcc227 0 _ rfl
 rw [Nat.add_zero, show ((Kd.slice 5 (Kd.int .u8))).sz = 1 from rfl, Nat.mul_one] at hv227_0
 replace hv227_0 := Option.some.inj (hv227_0.symm.trans hx227_0)
 injection hv227_0 with hva_ hvn_ hvc_
 rw [hva_] at ge227_0
 rw [hvc_] at ul227_0
 have HL227_0 := sqM (show Kd.V (Kd.int .u8) 5 _ w.heap.size _ _ (rd_L1 t224 x20_1) from Kd.V_mk ul227_0 ge227_0)
 clear hva_ hvn_ hvc_ ge227_0 ul227_0
 clear hcc227 hce227
 have HR227_0 := Aside0.mk hi227_0
 have HC227_0 := Aside0.mk hl227_0
 clear hi227_0 hl227_0
 replace p227 := eq_true p227
 replace q227 := eq_true q227
 have hcv36 := Kd.C_string (P := Tryd.prog) (A := A227_0) (c := c227_0) Tryd.underlying59 Tryd.underlying5 Tryd.underlying9 (sqC HR227_0.out)
 go_wp2_with (first | ((with_reducible refine gate_callee (f := 16) rfl ?_); refine goesL_ (some 36) rfl rfl Tryd.func16 (by kernel_rfl) rfl #[.string (strOfNums (rd_L1 t224 x20_1))] rfl sqA ?_; (with_reducible refine (ltext_Lease.calls _ _ _ _ _ _ _ _ ?side1 A24.out).mono ?_); (case side1 => first | exact HT.out | exact TabW.below HT.out (sqB HB.out) | exact TabW.drawn HT.out ⟨_, rfl⟩); rintro e w37 ⟨rfl, hb⟩; refine ⟨_, rfl, ?_⟩; replace HO_6 := sqM (Kd.R_below (sqR HO_6.out) hb); replace HO_18 := sqM (Kd.N_below (sqN HO_18.out) hb); replace HL227_0 := sqM (Kd.V_below (sqV HL227_0.out) hb); replace HR227_0 := sqM (Kd.C_below (sqC HR227_0.out) hb); replace HB := sqM (below_step (sqB HB.out) hb); (try clear hb); (try clear hb2); (try clear hk); (try clear hi)) | ((with_reducible refine gate_dst (N := 10) rfl ?_); (try (refine gate_guard (by rfl) ?_; dsimp only)); refine box_event rfl (N := 10) rfl (cs := #[.int .i64 0, .int .i64 0, .int .i64 0, .string (⟨#[]⟩ : ByteArray)]) (t := 23) sqs ?_; intro gb239 hg w38 hbox hb; have BK239 := sqM (hbox); have GW239 := sqM (sqZ hg (sqB HB.out)); have GE239 := sqM (sqZ hg (sqB HB.out)); replace HO_6 := sqM (sqRe (sqR HO_6.out) hg hb); replace HO_18 := sqM (sqNe (sqN HO_18.out) hg hb); replace HL227_0 := sqM (sqVe (sqV HL227_0.out) hg hb); replace HR227_0 := sqM (Kd.C_below (sqC HR227_0.out) hb); replace HB := sqM (below_step (sqB HB.out) hb); clear hb hbox hg; obtain ⟨hcz39_0, hcz39_1, hcz39_2, hcz39_3, hfz39_0, hfz39_1, hfz39_2, hfz39_3⟩ := sqF4 BK239.out) | ((with_reducible refine gate_builtin (b := .append) (xs := #[.tmp 47, .tmp 49]) rfl ?_); (try (refine gate_guard (by rfl) ?_; dsimp only)); at_builtin; refine Kd.R_append k23 (w0 := w) w.heap.size rfl (.tmp 47) (.tmp 49) 36 23 (.agg #[(.int .i64 0), (.int .i64 0), (.int .i64 0), (.string ⟨#[]⟩)]) 40 rfl Tryd.underlying36 info23 rfl (by decide) (by omega) u6 x6_1 (⟨t234, t235, t236, t237⟩ : S23) [.int .i64 t234, .int .i64 t235, .int .i64 t236, .string t237] (fun k_ => k_ ≠ gb239) (fun _ => False) rfl (by first | (go_simp; done) | (go_simp; rfl)) ?aP (fun _ hk => hk.elim) ?aF ?aO ?aB ?aS ?aL ?_; (case aP => exact k23_mkM _ _ _ (⟨t234, t235, t236, t237⟩ : S23)); (case aB => exact (sqB1 HB.out GE239.out)); (case aF => exact (fun k_ hk => Kd.freshB (g := gb239) (o := .cells #[.int .i64 t234, .int .i64 t235, .int .i64 t236, .string t237] 23 (0, 0)) (by exact (sqK (sqP4 BK239.out))) k_ hk)); (case aO => exact (by refine sqR ?_; exact Kd.R_mono (sqR4 (Kd.R_mono HO_6.out (fun k_ hk => (⟨hk, hk.2⟩ : _ ∧ k_ ≠ gb239))) (fun _ hk => hk.2)) (fun _ hk => hk.1.2))); (case aS => exact (below_size (sqB1 HB.out GE239.out))); (case aL => have := LMc26.out; omega); intro v241 w40 ho hb hg hat; rw [← Ny240.out] at ho; have HO242 := sqM (ho); replace HO_18 := sqM (Kd.N_afterv (ok := (fun k_ => k_ ≠ gb239)) (by refine sqN ?_; exact Kd.N_mono (sqN4 (Kd.N_mono HO_18.out (fun k_ hk => (⟨hk, hk.2⟩ : _ ∧ k_ ≠ gb239))) (fun _ hk => hk.2)) (fun _ hk => ⟨hk.1.2, hk.1.1⟩)) hg hat); replace HL227_0 := sqM (Kd.V_afterv (ok := (fun k_ => some k_ ≠ (.slice (some ad227) t224.length co8 : Value).ownBlock ∧ k_ ≠ gb239)) (by refine sqV ?_; exact Kd.V_mono (sqV4 (Kd.V_mono HL227_0.out (fun k_ hk => (⟨hk, hk.2⟩ : _ ∧ k_ ≠ gb239))) (fun _ hk => hk.2)) (fun _ hk => ⟨⟨hk.1.1.2, hk.1.2⟩, hk.1.1.1⟩)) hg hat); replace BK239 := sqM (blk_grown (g := gb239) (o := .cells #[.int .i64 t234, .int .i64 t235, .int .i64 t236, .string t237] 23 (0, 0)) (by exact (sqK (sqP4 BK239.out))) hg (Kd.R_away HO_6.out (fun _ hk => hk.2))); replace HB := sqM (hb); clear HO_6; clear ho hb hg hat; obtain ⟨Ao41, co41, eo41⟩ := Kd.R_slice HO242.out; subst eo41) | (go_at_call 51; (with_reducible refine (table_Right.calls _ _ _ _ _ _ ?side1 ?side2 A27.out).mono ?_); (case side1 => repeat (first | exact (Kd.R_reads' HO242.out).2.2 | (with_reducible refine Kd.C_alloc ?_ _) | (with_reducible refine Kd.C_drewN ?_ _) | (with_reducible refine Kd.C_drew ?_))); (case side2 => exact (Kd.R_reads' HO242.out).2.1); rintro e w42 ⟨rfl, hb⟩; replace HO_18 := sqM (Kd.N_below (sqN HO_18.out) hb); replace HL227_0 := sqM (Kd.V_below (sqV HL227_0.out) hb); replace HO242 := sqM (Kd.R_below (sqR HO242.out) hb); replace BK239 := sqM (blk_below (sqK BK239.out) hb); replace HB := sqM (below_step (sqB1 HB.out GE239.out) hb); (try clear hb); (try clear hb2); (try clear hk); (try clear hi)))
 go_ret3
 exact ⟨_, sqE, by first | exact Kd.R_nil _ _ _ _ _ | exact Kd.N_nil _ _ _ _ _ | exact Kd.V_nil _ _ _ _ _ | exact Kd.Q_nil _ _ _ _ _ | exact Kd.S_nil _ _ _ _ _, sqB1 HB.out GE239.out⟩

end Go.Proofs.YtdajdpgnhjlbaaaDoor.PLease
