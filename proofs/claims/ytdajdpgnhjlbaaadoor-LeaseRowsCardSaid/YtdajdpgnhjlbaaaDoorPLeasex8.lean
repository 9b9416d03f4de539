/- Lean functions for Go functions of the given program, and proofs that the code computes them, each under its theorem's own conditions. Written by a program of this session. -/
import Derived.Test.YtdajdpgnhjlbaaaDoorPLeasex0
import Derived.Test.YtdajdpgnhjlbaaaDoorPLeasex1
import Derived.Test.YtdajdpgnhjlbaaaDoorPLeasex6
namespace Go.Proofs.YtdajdpgnhjlbaaaDoor.PLease
open Go.RowKit Go.Proofs.YtdajdpgnhjlbaaaDoorW.PrintWords Go.Proofs.YtdajdpgnhjlbaaaDoorW.PrintLast Go.Proofs.YtdajdpgnhjlbaaaDoorW.PrintMore
attribute [local go_sem] max2_int min2_int max_two min_two max_three min_three max_four min_four   -- for this text's walks alone
set_option linter.unusedVariables false
set_option linter.unusedSimpArgs false

attribute [local go_sem high] eqA23
/-! ### boarderref12_Right: function 20 -/
def boarderref12_Right.l0 : Nat → List (S23) → Int → Option (Bool)
  | 0, _, _ => none
  | k + 1, x0, x3 => if x3 < (x0.length : Int) then (if 0 ≤ x3 then ((boarderref09_Right.f ((rd_T23 x0 x3).f0) ((rd_T23 x0 x3).f1) ((rd_T23 x0 x3).f2) ((rd_T23 x0 x3).f3)).bind fun t374 => (if t374 = true then (if (wrap64 (x3 + 1)) < (x0.length : Int) then (if 0 ≤ (wrap64 (x3 + 1)) then (if ((rd_T23 x0 (wrap64 (x3 + 1))).f0) ≤ ((rd_T23 x0 x3).f0) then (some false) else (boarderref12_Right.l0 k x0 (wrap64 (x3 + 1)))) else (none)) else (boarderref12_Right.l0 k x0 (wrap64 (x3 + 1)))) else (some false))) else (none)) else (some true)
def boarderref12_Right.f (k : Nat) (l0 : List (S23)) : Option (Bool) := if (l0.length : Int) > 64 then (some false) else (boarderref12_Right.l0 k l0 0)
def boarderref12_Right.T6 : Bool × List (List Nat × List Nat) := (true, [([], []), ([], []), ([0, 1], [0, 1]), ([2], [2]), ([3], [3]), ([4], [4]), ([5, 4], [5]), ([6], [6]), ([7, 6], [6, 7]), ([6], [6]), ([9, 6], [6, 9]), ([8, 10, 6], [6, 8, 10]), ([11, 6, 6], [6, 11]), ([12], [12]), ([12], [12]), ([14, 12], [12, 14]), ([13, 15, 12], [12, 13, 15]), ([16, 12], [12, 16]), ([17, 12], [12, 17]), ([12], [12]), ([12], [12]), ([19, 20, 12], [12, 19, 20]), ([21, 12], [12, 21]), ([22, 12], [12, 22]), ([18, 23, 12], [12, 18, 23]), ([12, 24, 6], [6, 12, 24]), ([6, 25], [6, 25])])
def boarderref12_Right.B6 : List Nat := [0, 0, 3, 7, 15, 31, 63, 127, 255, 127, 639, 2047, 4095, 8191, 8191, 24575, 65535, 131071, 262143, 8191, 8191, 1581055, 3678207, 7872511, 16777215, 33554431, 67108863]
theorem boarderref12_Right.tab6 : rtab .any (opsOf Tryd.f20 6) = boarderref12_Right.T6 := by kernel_rfl
theorem boarderref12_Right.bits6 : waitsOk boarderref12_Right.T6.2 boarderref12_Right.B6 = true := by kernel_rfl
set_option maxHeartbeats 8000000 in
set_option maxRecDepth 100000 in
theorem boarderref12_Right.calls (k : Nat) (A0 : Option Addr) (c0 : Nat) (l0 : List (S23)) (r : Bool) (w : World) (hr0 : Kd.C k23 w A0 l0.length l0) (hc0 : l0.length ≤ c0) (h : boarderref12_Right.f k l0 = some r) :
    Calls Tryd.prog 20 #[.slice A0 l0.length c0] w fun e w' => e = .returned (.bool r) ∧ Below w.heap.size w w' := by
 have hu23 := Tryd.underlying23
 have HR0 := Aside0.mk hr0
 have HC0 := Aside0.mk hc0
 clear hr0 hc0
 have HB := Aside0.mk (Below.refl w.heap.size w)
 have H : (if (l0.length : Int) > 64 then (some false) else (boarderref12_Right.l0 k l0 0)) = some r := h
 clear h
 by_cases c2 : (l0.length : Int) > 64
 · rw [if_pos c2] at H
   have c2b0 : decide (64 < (l0.length : Int)) = true := decide_eq_true c2
   have c2b1 : decide (64 < l0.length) = true := decide_eq_true (by omega)
   clear c2
   obtain rfl := Option.some.inj H
   go_enter Tryd.func20, Tryd.ntmps20
   go_wp2
   go_ret
   exact ⟨sqE, sqB HB.out⟩
 rw [if_neg c2] at H
 have c2b0 : decide (64 < (l0.length : Int)) = false := decide_eq_false c2
 have c2b1 : decide (64 < l0.length) = false := decide_eq_false (by omega)
 clear c2
 have H' := Aside0.mk H
 clear H
 go_enter Tryd.func20, Tryd.ntmps20
 go_wp2
 go_loopg [3] k (fun kq v3 w' => ∃ (x3_1 : Int), v3 = .int .i64 x3_1 ∧ Aside0 (boarderref12_Right.l0 kq l0 x3_1 = some r) ∧ Aside0 (kq ≤ k) ∧ Aside0 (Below w.heap.size w w'))
 case atStart => exact ⟨(0), sqI, H', ⟨Nat.le_refl _⟩, ⟨sqB HB.out⟩⟩
 clear H'
 try clear c2
 try clear c2b0
 try clear c2b1
 try clear p2
 obtain ⟨x3_1, rfl, HA, HK1, HB⟩ := hrel
 cases gk with
 | zero => exact absurd HA.out (by simp [boarderref12_Right.l0])
 | succ k1 => ?_
 have H := HA.out
 clear HA
 simp only [boarderref12_Right.l0] at H
 by_cases c3 : x3_1 < (l0.length : Int)
 rotate_left
 · rw [if_neg c3] at H
   have c3b0 : decide (x3_1 < (l0.length : Int)) = false := decide_eq_false c3
   clear c3
   obtain rfl := Option.some.inj H
   go_wp2
   go_ret
   exact ⟨sqE, sqB HB.out⟩
 rw [if_pos c3] at H
 have c3b0 : decide (x3_1 < (l0.length : Int)) = true := decide_eq_true c3
 clear c3
 by_cases c4 : 0 ≤ x3_1
 rotate_left
 · rw [if_neg c4] at H
   exact absurd H (by simp)
 rw [if_pos c4] at H
 have c4b0 : decide (0 ≤ x3_1) = true := decide_eq_true c4
 clear c4
 replace H := Option.bind_eq_some_iff.mp H
 obtain ⟨t374, A50, H⟩ := H
 replace H : (if t374 = true then (if (wrap64 (x3_1 + 1)) < (l0.length : Int) then (if 0 ≤ (wrap64 (x3_1 + 1)) then (if ((rd_T23 l0 (wrap64 (x3_1 + 1))).f0) ≤ ((rd_T23 l0 x3_1).f0) then (some false) else (boarderref12_Right.l0 k1 l0 (wrap64 (x3_1 + 1)))) else (none)) else (boarderref12_Right.l0 k1 l0 (wrap64 (x3_1 + 1)))) else (some false)) = some r := H
 have A5 := Aside0.mk A50
 clear A50
 by_cases c6 : t374 = true
 rotate_left
 · replace c6 := Bool.eq_false_iff.mpr c6
   subst c6
   have H1 : (some false) = some r := by rw [if_neg (show ¬ (false = true) by decide)] at H; exact H
   clear H
   have H := H1
   clear H1
   obtain rfl := Option.some.inj H
   try go_wp2
   replace HB := Aside0.mk (below_drew1 HB.out)
   have p373 : 0 ≤ (x3_1 : Int) := of_decide_eq_true sqH
   have q373 : x3_1 < (l0.length : Int) := of_decide_eq_true sqH
   obtain ⟨ad373, e373, hx373_0, hx373_1, hx373_2, hx373_3⟩ := at_T23 HR0.out x3_1 p373 q373
   have hw373_3 := hx373_3
   have hw373_2 := hx373_2
   have hw373_1 := hx373_1
   have hw373_0 := hx373_0
   cases e373
   replace hx373_0 := sqx HB.out hx373_0
   replace hx373_1 := sqx HB.out hx373_1
   replace hx373_2 := sqx HB.out hx373_2
   replace hx373_3 := sqx HB.out hx373_3
   replace p373 := eq_true p373
   replace q373 := eq_true q373
   refine start_ (n := 27) (S := fun w' => w'.cell? (ad373.add ((x3_1).toNat * 4)) = some (.int .i64 ((rd_T23 l0 x3_1).f0)) ∧ w'.cell? ⟨(ad373.add ((x3_1).toNat * 4)).block, (ad373.add ((x3_1).toNat * 4)).off + 1, none⟩ = some (.int .i64 ((rd_T23 l0 x3_1).f1)) ∧ w'.cell? ⟨(ad373.add ((x3_1).toNat * 4)).block, (ad373.add ((x3_1).toNat * 4)).off + 2, none⟩ = some (.int .i64 ((rd_T23 l0 x3_1).f2)) ∧ w'.cell? ⟨(ad373.add ((x3_1).toNat * 4)).block, (ad373.add ((x3_1).toNat * 4)).off + 3, none⟩ = some (.string ((rd_T23 l0 x3_1).f3))) (ds := []) #[false, false, false, false, false, false, false, false, false, false, false, false, false, false, false, false, false, false, false, false, false, false, false, false, false, false, false] (by kernel_rfl) rfl rfl ⟨((HB.out.cell (World.block_lt_of_cell? w _ hw373_0)).trans hw373_0), ((HB.out.cell (World.block_lt_of_cell? w _ hw373_1)).trans hw373_1), ((HB.out.cell (World.block_lt_of_cell? w _ hw373_2)).trans hw373_2), ((HB.out.cell (World.block_lt_of_cell? w _ hw373_3)).trans hw373_3)⟩ (fun hHeld => ?_); refine with_tabW boarderref12_Right.tab6 boarderref12_Right.bits6 (fun HT_ HW_ => ?_)
   generalize wr.drew = w17 at HB hx373_0 hx373_1 hx373_2 hx373_3 hHeld ⊢
   refine pure_ (i := 0) (N := some 13) (v := ?_) (a' := ?_) #[true, false, false, false, false, false, false, false, false, false, false, false, false, false, false, false, false, false, false, false, false, false, false, false, false, false, false] rfl rfl (any_of HT_.out (by kernel_rfl)) (fun _ _ _ h => h) (Or.inl ⟨by rfl, ?_⟩) ?_ ?_
   rotate_left
   · intro w'
     go_simp
     with_reducible rfl
   rotate_left
   · simp only [Act.put, List.setIfInBounds_toArray, List.set_cons_zero, List.set_cons_succ, i64_w, i32_w]
     rfl
   refine pure_ (i := 1) (N := some 14) (v := ?_) (a' := ?_) #[true, true, false, false, false, false, false, false, false, false, false, false, false, false, false, false, false, false, false, false, false, false, false, false, false, false, false] rfl rfl (any_of HT_.out (by kernel_rfl)) (fun _ _ _ h => h) (Or.inl ⟨by rfl, ?_⟩) ?_ ?_
   rotate_left
   · intro w'
     go_simp
     with_reducible rfl
   rotate_left
   · simp only [Act.put, List.setIfInBounds_toArray, List.set_cons_zero, List.set_cons_succ, i64_w, i32_w]
     rfl
   refine pure_ (i := 2) (N := some 15) (v := ?_) (a' := ?_) #[true, true, true, false, false, false, false, false, false, false, false, false, false, false, false, false, false, false, false, false, false, false, false, false, false, false, false] rfl rfl (any_of HT_.out (by kernel_rfl)) (fun _ _ _ h => h) (Or.inl ⟨by rfl, ?_⟩) ?_ ?_
   rotate_left
   · intro w'
     go_simp
     with_reducible rfl
   rotate_left
   · simp only [Act.put, List.setIfInBounds_toArray, List.set_cons_zero, List.set_cons_succ, i64_w, i32_w]
     rfl
   refine take_ (i := 3) (N := some 16) (v := ?_) (a' := ?_) #[true, true, true, true, false, false, false, false, false, false, false, false, false, false, false, false, false, false, false, false, false, false, false, false, false, false, false] rfl rfl (take_ofW HT_.out HW_.out (by kernel_rfl)) (fun _ _ _ h => h) (Or.inl ⟨by rfl, ?_⟩) hHeld ?_ ?_
   rotate_left
   · rintro w' ⟨s0, s1, s2, s3⟩
     go_simp
     with_reducible rfl
   rotate_left
   · simp only [Act.put, List.setIfInBounds_toArray, List.set_cons_zero, List.set_cons_succ, i64_w, i32_w]
     rfl
   refine one_ (i := 4) (N := some 17) #[true, true, true, true, true, false, false, false, false, false, false, false, false, false, false, false, false, false, false, false, false, false, false, false, false, false, false] rfl rfl (one_of HT_.out (by kernel_rfl)) (by decide) (fun K hK => ?_)
   refine goes_ Tryd.func14 (by kernel_rfl) rfl #[.agg #[.int .i64 ((rd_T23 l0 x3_1).f0), .int .i64 ((rd_T23 l0 x3_1).f1), .int .i64 ((rd_T23 l0 x3_1).f2), .string ((rd_T23 l0 x3_1).f3)]] (by rfl) rfl rfl sqA ?_
   with_reducible refine (boarderref09_Right.calls _ _ _ _ _ _ A5.out).mono ?_
   rintro e w18 ⟨rfl, hb⟩
   refine ⟨_, rfl, ?_⟩
   replace HB := sqM (below_step (sqB HB.out) hb)
   (try clear hb)
   (try clear hb2)
   (try clear hk)
   (try clear hi)
   refine hK.out _ _ ⟨((HB.out.cell (World.block_lt_of_cell? w _ hw373_0)).trans hw373_0), ((HB.out.cell (World.block_lt_of_cell? w _ hw373_1)).trans hw373_1), ((HB.out.cell (World.block_lt_of_cell? w _ hw373_2)).trans hw373_2), ((HB.out.cell (World.block_lt_of_cell? w _ hw373_3)).trans hw373_3)⟩ (fun hHeld => ?_)
   clear hK K
   refine norm_ (a' := ?_) ?_ ?_
   rotate_left
   · show Act.put _ (some 17) _ = _
     simp only [Act.put, List.setIfInBounds_toArray, List.set_cons_zero, List.set_cons_succ, i64_w, i32_w]
     rfl
   refine pure_ (i := 5) (N := some 18) (v := ?_) (a' := ?_) #[true, true, true, true, true, true, false, false, false, false, false, false, false, false, false, false, false, false, false, false, false, false, false, false, false, false, false] rfl rfl (any_of HT_.out (by kernel_rfl)) (fun _ _ _ h => h) (Or.inl ⟨by rfl, ?_⟩) ?_ ?_
   rotate_left
   · intro w'
     go_simp
     with_reducible rfl
   rotate_left
   · simp only [Act.put, List.setIfInBounds_toArray, List.set_cons_zero, List.set_cons_succ, i64_w, i32_w]
     rfl
   refine pure_ (i := 6) (N := some 19) (v := ?_) (a' := ?_) #[true, true, true, true, true, true, true, false, false, false, false, false, false, false, false, false, false, false, false, false, false, false, false, false, false, false, false] rfl rfl (any_of HT_.out (by kernel_rfl)) (fun _ _ _ h => h) (Or.inl ⟨by rfl, ?_⟩) ?_ ?_
   rotate_left
   · intro w'
     go_simp
     with_reducible rfl
   rotate_left
   · simp only [Act.put, List.setIfInBounds_toArray, List.set_cons_zero, List.set_cons_succ, i64_w, i32_w]
     rfl
   refine pure_ (i := 7) (N := some 20) (v := undef) (a' := ?_) #[true, true, true, true, true, true, true, true, false, false, false, false, false, false, false, false, false, false, false, false, false, false, false, false, false, false, false] rfl rfl (any_of HT_.out (by kernel_rfl)) (fun _ _ _ h => h) (Or.inr ⟨by rfl, rfl⟩) ?_ ?_
   rotate_left
   · simp only [Act.put, List.setIfInBounds_toArray, List.set_cons_zero, List.set_cons_succ, i64_w, i32_w]
     rfl
   refine pure_ (i := 8) (N := some 21) (v := undef) (a' := ?_) #[true, true, true, true, true, true, true, true, true, false, false, false, false, false, false, false, false, false, false, false, false, false, false, false, false, false, false] rfl rfl (any_of HT_.out (by kernel_rfl)) (fun _ _ _ h => h) (Or.inr ⟨by rfl, rfl⟩) ?_ ?_
   rotate_left
   · simp only [Act.put, List.setIfInBounds_toArray, List.set_cons_zero, List.set_cons_succ, i64_w, i32_w]
     rfl
   refine pure_ (i := 9) (N := some 22) (v := undef) (a' := ?_) #[true, true, true, true, true, true, true, true, true, true, false, false, false, false, false, false, false, false, false, false, false, false, false, false, false, false, false] rfl rfl (any_of HT_.out (by kernel_rfl)) (fun _ _ _ h => h) (Or.inr ⟨by rfl, rfl⟩) ?_ ?_
   rotate_left
   · simp only [Act.put, List.setIfInBounds_toArray, List.set_cons_zero, List.set_cons_succ, i64_w, i32_w]
     rfl
   refine pure_ (i := 10) (N := some 23) (v := undef) (a' := ?_) #[true, true, true, true, true, true, true, true, true, true, true, false, false, false, false, false, false, false, false, false, false, false, false, false, false, false, false] rfl rfl (any_of HT_.out (by kernel_rfl)) (fun _ _ _ h => h) (Or.inr ⟨by rfl, rfl⟩) ?_ ?_
   rotate_left
   · simp only [Act.put, List.setIfInBounds_toArray, List.set_cons_zero, List.set_cons_succ, i64_w, i32_w]
     rfl
   refine pure_ (i := 11) (N := some 24) (v := undef) (a' := ?_) #[true, true, true, true, true, true, true, true, true, true, true, true, false, false, false, false, false, false, false, false, false, false, false, false, false, false, false] rfl rfl (any_of HT_.out (by kernel_rfl)) (fun _ _ _ h => h) (Or.inr ⟨by rfl, rfl⟩) ?_ ?_
   rotate_left
   · simp only [Act.put, List.setIfInBounds_toArray, List.set_cons_zero, List.set_cons_succ, i64_w, i32_w]
     rfl
   refine pure_ (i := 12) (N := some 25) (v := undef) (a' := ?_) #[true, true, true, true, true, true, true, true, true, true, true, true, true, false, false, false, false, false, false, false, false, false, false, false, false, false, false] rfl rfl (any_of HT_.out (by kernel_rfl)) (fun _ _ _ h => h) (Or.inr ⟨by rfl, rfl⟩) ?_ ?_
   rotate_left
   · simp only [Act.put, List.setIfInBounds_toArray, List.set_cons_zero, List.set_cons_succ, i64_w, i32_w]
     rfl
   refine pure_ (i := 13) (N := some 26) (v := undef) (a' := ?_) #[true, true, true, true, true, true, true, true, true, true, true, true, true, true, false, false, false, false, false, false, false, false, false, false, false, false, false] rfl rfl (any_of HT_.out (by kernel_rfl)) (fun _ _ _ h => h) (Or.inr ⟨by rfl, rfl⟩) ?_ ?_
   rotate_left
   · simp only [Act.put, List.setIfInBounds_toArray, List.set_cons_zero, List.set_cons_succ, i64_w, i32_w]
     rfl
   refine pure_ (i := 14) (N := some 27) (v := undef) (a' := ?_) #[true, true, true, true, true, true, true, true, true, true, true, true, true, true, true, false, false, false, false, false, false, false, false, false, false, false, false] rfl rfl (any_of HT_.out (by kernel_rfl)) (fun _ _ _ h => h) (Or.inr ⟨by rfl, rfl⟩) ?_ ?_
   rotate_left
   · simp only [Act.put, List.setIfInBounds_toArray, List.set_cons_zero, List.set_cons_succ, i64_w, i32_w]
     rfl
   refine pure_ (i := 15) (N := some 28) (v := undef) (a' := ?_) #[true, true, true, true, true, true, true, true, true, true, true, true, true, true, true, true, false, false, false, false, false, false, false, false, false, false, false] rfl rfl (any_of HT_.out (by kernel_rfl)) (fun _ _ _ h => h) (Or.inr ⟨by rfl, rfl⟩) ?_ ?_
   rotate_left
   · simp only [Act.put, List.setIfInBounds_toArray, List.set_cons_zero, List.set_cons_succ, i64_w, i32_w]
     rfl
   refine pure_ (i := 16) (N := some 29) (v := undef) (a' := ?_) #[true, true, true, true, true, true, true, true, true, true, true, true, true, true, true, true, true, false, false, false, false, false, false, false, false, false, false] rfl rfl (any_of HT_.out (by kernel_rfl)) (fun _ _ _ h => h) (Or.inr ⟨by rfl, rfl⟩) ?_ ?_
   rotate_left
   · simp only [Act.put, List.setIfInBounds_toArray, List.set_cons_zero, List.set_cons_succ, i64_w, i32_w]
     rfl
   refine pure_ (i := 17) (N := some 30) (v := undef) (a' := ?_) #[true, true, true, true, true, true, true, true, true, true, true, true, true, true, true, true, true, true, false, false, false, false, false, false, false, false, false] rfl rfl (any_of HT_.out (by kernel_rfl)) (fun _ _ _ h => h) (Or.inr ⟨by rfl, rfl⟩) ?_ ?_
   rotate_left
   · simp only [Act.put, List.setIfInBounds_toArray, List.set_cons_zero, List.set_cons_succ, i64_w, i32_w]
     rfl
   refine pure_ (i := 18) (N := some 31) (v := undef) (a' := ?_) #[true, true, true, true, true, true, true, true, true, true, true, true, true, true, true, true, true, true, true, false, false, false, false, false, false, false, false] rfl rfl (any_of HT_.out (by kernel_rfl)) (fun _ _ _ h => h) (Or.inr ⟨by rfl, rfl⟩) ?_ ?_
   rotate_left
   · simp only [Act.put, List.setIfInBounds_toArray, List.set_cons_zero, List.set_cons_succ, i64_w, i32_w]
     rfl
   refine pure_ (i := 19) (N := some 32) (v := undef) (a' := ?_) #[true, true, true, true, true, true, true, true, true, true, true, true, true, true, true, true, true, true, true, true, false, false, false, false, false, false, false] rfl rfl (any_of HT_.out (by kernel_rfl)) (fun _ _ _ h => h) (Or.inr ⟨by rfl, rfl⟩) ?_ ?_
   rotate_left
   · simp only [Act.put, List.setIfInBounds_toArray, List.set_cons_zero, List.set_cons_succ, i64_w, i32_w]
     rfl
   refine pure_ (i := 20) (N := some 33) (v := undef) (a' := ?_) #[true, true, true, true, true, true, true, true, true, true, true, true, true, true, true, true, true, true, true, true, true, false, false, false, false, false, false] rfl rfl (any_of HT_.out (by kernel_rfl)) (fun _ _ _ h => h) (Or.inr ⟨by rfl, rfl⟩) ?_ ?_
   rotate_left
   · simp only [Act.put, List.setIfInBounds_toArray, List.set_cons_zero, List.set_cons_succ, i64_w, i32_w]
     rfl
   refine pure_ (i := 21) (N := some 34) (v := undef) (a' := ?_) #[true, true, true, true, true, true, true, true, true, true, true, true, true, true, true, true, true, true, true, true, true, true, false, false, false, false, false] rfl rfl (any_of HT_.out (by kernel_rfl)) (fun _ _ _ h => h) (Or.inr ⟨by rfl, rfl⟩) ?_ ?_
   rotate_left
   · simp only [Act.put, List.setIfInBounds_toArray, List.set_cons_zero, List.set_cons_succ, i64_w, i32_w]
     rfl
   refine pure_ (i := 22) (N := some 35) (v := undef) (a' := ?_) #[true, true, true, true, true, true, true, true, true, true, true, true, true, true, true, true, true, true, true, true, true, true, true, false, false, false, false] rfl rfl (any_of HT_.out (by kernel_rfl)) (fun _ _ _ h => h) (Or.inr ⟨by rfl, rfl⟩) ?_ ?_
   rotate_left
   · simp only [Act.put, List.setIfInBounds_toArray, List.set_cons_zero, List.set_cons_succ, i64_w, i32_w]
     rfl
   refine pure_ (i := 23) (N := some 36) (v := undef) (a' := ?_) #[true, true, true, true, true, true, true, true, true, true, true, true, true, true, true, true, true, true, true, true, true, true, true, true, false, false, false] rfl rfl (any_of HT_.out (by kernel_rfl)) (fun _ _ _ h => h) (Or.inr ⟨by rfl, rfl⟩) ?_ ?_
   rotate_left
   · simp only [Act.put, List.setIfInBounds_toArray, List.set_cons_zero, List.set_cons_succ, i64_w, i32_w]
     rfl
   refine pure_ (i := 24) (N := some 37) (v := undef) (a' := ?_) #[true, true, true, true, true, true, true, true, true, true, true, true, true, true, true, true, true, true, true, true, true, true, true, true, true, false, false] rfl rfl (any_of HT_.out (by kernel_rfl)) (fun _ _ _ h => h) (Or.inr ⟨by rfl, rfl⟩) ?_ ?_
   rotate_left
   · simp only [Act.put, List.setIfInBounds_toArray, List.set_cons_zero, List.set_cons_succ, i64_w, i32_w]
     rfl
   refine pure_ (i := 25) (N := some 38) (v := undef) (a' := ?_) #[true, true, true, true, true, true, true, true, true, true, true, true, true, true, true, true, true, true, true, true, true, true, true, true, true, true, false] rfl rfl (any_of HT_.out (by kernel_rfl)) (fun _ _ _ h => h) (Or.inr ⟨by rfl, rfl⟩) ?_ ?_
   rotate_left
   · simp only [Act.put, List.setIfInBounds_toArray, List.set_cons_zero, List.set_cons_succ, i64_w, i32_w]
     rfl
   refine pure_ (i := 26) (N := some 39) (v := ?_) (a' := ?_) #[true, true, true, true, true, true, true, true, true, true, true, true, true, true, true, true, true, true, true, true, true, true, true, true, true, true, true] rfl rfl (any_of HT_.out (by kernel_rfl)) (fun _ _ _ h => h) (Or.inl ⟨by rfl, ?_⟩) ?_ ?_
   rotate_left
   · intro w'
     go_simp
     with_reducible rfl
   rotate_left
   · simp only [Act.put, List.setIfInBounds_toArray, List.set_cons_zero, List.set_cons_succ, i64_w, i32_w]
     rfl
   refine done_ (done_of HT_.out (by kernel_rfl)) ?_
   try go_wp2
   go_ret
   exact ⟨sqE, sqB HB.out⟩
 subst c6
 have H1 : (if (wrap64 (x3_1 + 1)) < (l0.length : Int) then (if 0 ≤ (wrap64 (x3_1 + 1)) then (if ((rd_T23 l0 (wrap64 (x3_1 + 1))).f0) ≤ ((rd_T23 l0 x3_1).f0) then (some false) else (boarderref12_Right.l0 k1 l0 (wrap64 (x3_1 + 1)))) else (none)) else (boarderref12_Right.l0 k1 l0 (wrap64 (x3_1 + 1)))) = some r := by rw [if_pos rfl] at H; exact H
 clear H
 have H := H1
 clear H1
 by_cases c7 : (wrap64 (x3_1 + 1)) < (l0.length : Int)
 rotate_left
 · rw [if_neg c7] at H
   have c7b0 : decide ((wrap64 (x3_1 + 1)) < (l0.length : Int)) = false := decide_eq_false c7
   clear c7
   have H' := Aside0.mk H
   clear H
   try go_wp2
   replace HB := Aside0.mk (below_drew1 HB.out)
   have p373 : 0 ≤ (x3_1 : Int) := of_decide_eq_true sqH
   have q373 : x3_1 < (l0.length : Int) := of_decide_eq_true sqH
   obtain ⟨ad373, e373, hx373_0, hx373_1, hx373_2, hx373_3⟩ := at_T23 HR0.out x3_1 p373 q373
   have hw373_3 := hx373_3
   have hw373_2 := hx373_2
   have hw373_1 := hx373_1
   have hw373_0 := hx373_0
   cases e373
   replace hx373_0 := sqx HB.out hx373_0
   replace hx373_1 := sqx HB.out hx373_1
   replace hx373_2 := sqx HB.out hx373_2
   replace hx373_3 := sqx HB.out hx373_3
   replace p373 := eq_true p373
   replace q373 := eq_true q373
   refine start_ (n := 27) (S := fun w' => w'.cell? (ad373.add ((x3_1).toNat * 4)) = some (.int .i64 ((rd_T23 l0 x3_1).f0)) ∧ w'.cell? ⟨(ad373.add ((x3_1).toNat * 4)).block, (ad373.add ((x3_1).toNat * 4)).off + 1, none⟩ = some (.int .i64 ((rd_T23 l0 x3_1).f1)) ∧ w'.cell? ⟨(ad373.add ((x3_1).toNat * 4)).block, (ad373.add ((x3_1).toNat * 4)).off + 2, none⟩ = some (.int .i64 ((rd_T23 l0 x3_1).f2)) ∧ w'.cell? ⟨(ad373.add ((x3_1).toNat * 4)).block, (ad373.add ((x3_1).toNat * 4)).off + 3, none⟩ = some (.string ((rd_T23 l0 x3_1).f3))) (ds := []) #[false, false, false, false, false, false, false, false, false, false, false, false, false, false, false, false, false, false, false, false, false, false, false, false, false, false, false] (by kernel_rfl) rfl rfl ⟨((HB.out.cell (World.block_lt_of_cell? w _ hw373_0)).trans hw373_0), ((HB.out.cell (World.block_lt_of_cell? w _ hw373_1)).trans hw373_1), ((HB.out.cell (World.block_lt_of_cell? w _ hw373_2)).trans hw373_2), ((HB.out.cell (World.block_lt_of_cell? w _ hw373_3)).trans hw373_3)⟩ (fun hHeld => ?_); refine with_tabW boarderref12_Right.tab6 boarderref12_Right.bits6 (fun HT_ HW_ => ?_)
   generalize wr.drew = w15 at HB hx373_0 hx373_1 hx373_2 hx373_3 hHeld ⊢
   refine pure_ (i := 0) (N := some 13) (v := ?_) (a' := ?_) #[true, false, false, false, false, false, false, false, false, false, false, false, false, false, false, false, false, false, false, false, false, false, false, false, false, false, false] rfl rfl (any_of HT_.out (by kernel_rfl)) (fun _ _ _ h => h) (Or.inl ⟨by rfl, ?_⟩) ?_ ?_
   rotate_left
   · intro w'
     go_simp
     with_reducible rfl
   rotate_left
   · simp only [Act.put, List.setIfInBounds_toArray, List.set_cons_zero, List.set_cons_succ, i64_w, i32_w]
     rfl
   refine pure_ (i := 1) (N := some 14) (v := ?_) (a' := ?_) #[true, true, false, false, false, false, false, false, false, false, false, false, false, false, false, false, false, false, false, false, false, false, false, false, false, false, false] rfl rfl (any_of HT_.out (by kernel_rfl)) (fun _ _ _ h => h) (Or.inl ⟨by rfl, ?_⟩) ?_ ?_
   rotate_left
   · intro w'
     go_simp
     with_reducible rfl
   rotate_left
   · simp only [Act.put, List.setIfInBounds_toArray, List.set_cons_zero, List.set_cons_succ, i64_w, i32_w]
     rfl
   refine pure_ (i := 2) (N := some 15) (v := ?_) (a' := ?_) #[true, true, true, false, false, false, false, false, false, false, false, false, false, false, false, false, false, false, false, false, false, false, false, false, false, false, false] rfl rfl (any_of HT_.out (by kernel_rfl)) (fun _ _ _ h => h) (Or.inl ⟨by rfl, ?_⟩) ?_ ?_
   rotate_left
   · intro w'
     go_simp
     with_reducible rfl
   rotate_left
   · simp only [Act.put, List.setIfInBounds_toArray, List.set_cons_zero, List.set_cons_succ, i64_w, i32_w]
     rfl
   refine take_ (i := 3) (N := some 16) (v := ?_) (a' := ?_) #[true, true, true, true, false, false, false, false, false, false, false, false, false, false, false, false, false, false, false, false, false, false, false, false, false, false, false] rfl rfl (take_ofW HT_.out HW_.out (by kernel_rfl)) (fun _ _ _ h => h) (Or.inl ⟨by rfl, ?_⟩) hHeld ?_ ?_
   rotate_left
   · rintro w' ⟨s0, s1, s2, s3⟩
     go_simp
     with_reducible rfl
   rotate_left
   · simp only [Act.put, List.setIfInBounds_toArray, List.set_cons_zero, List.set_cons_succ, i64_w, i32_w]
     rfl
   refine one_ (i := 4) (N := some 17) #[true, true, true, true, true, false, false, false, false, false, false, false, false, false, false, false, false, false, false, false, false, false, false, false, false, false, false] rfl rfl (one_of HT_.out (by kernel_rfl)) (by decide) (fun K hK => ?_)
   refine goes_ Tryd.func14 (by kernel_rfl) rfl #[.agg #[.int .i64 ((rd_T23 l0 x3_1).f0), .int .i64 ((rd_T23 l0 x3_1).f1), .int .i64 ((rd_T23 l0 x3_1).f2), .string ((rd_T23 l0 x3_1).f3)]] (by rfl) rfl rfl sqA ?_
   with_reducible refine (boarderref09_Right.calls _ _ _ _ _ _ A5.out).mono ?_
   rintro e w16 ⟨rfl, hb⟩
   refine ⟨_, rfl, ?_⟩
   replace HB := sqM (below_step (sqB HB.out) hb)
   (try clear hb)
   (try clear hb2)
   (try clear hk)
   (try clear hi)
   refine hK.out _ _ ⟨((HB.out.cell (World.block_lt_of_cell? w _ hw373_0)).trans hw373_0), ((HB.out.cell (World.block_lt_of_cell? w _ hw373_1)).trans hw373_1), ((HB.out.cell (World.block_lt_of_cell? w _ hw373_2)).trans hw373_2), ((HB.out.cell (World.block_lt_of_cell? w _ hw373_3)).trans hw373_3)⟩ (fun hHeld => ?_)
   clear hK K
   refine norm_ (a' := ?_) ?_ ?_
   rotate_left
   · show Act.put _ (some 17) _ = _
     simp only [Act.put, List.setIfInBounds_toArray, List.set_cons_zero, List.set_cons_succ, i64_w, i32_w]
     rfl
   refine pure_ (i := 5) (N := some 18) (v := ?_) (a' := ?_) #[true, true, true, true, true, true, false, false, false, false, false, false, false, false, false, false, false, false, false, false, false, false, false, false, false, false, false] rfl rfl (any_of HT_.out (by kernel_rfl)) (fun _ _ _ h => h) (Or.inl ⟨by rfl, ?_⟩) ?_ ?_
   rotate_left
   · intro w'
     go_simp
     with_reducible rfl
   rotate_left
   · simp only [Act.put, List.setIfInBounds_toArray, List.set_cons_zero, List.set_cons_succ, i64_w, i32_w]
     rfl
   refine pure_ (i := 6) (N := some 19) (v := ?_) (a' := ?_) #[true, true, true, true, true, true, true, false, false, false, false, false, false, false, false, false, false, false, false, false, false, false, false, false, false, false, false] rfl rfl (any_of HT_.out (by kernel_rfl)) (fun _ _ _ h => h) (Or.inl ⟨by rfl, ?_⟩) ?_ ?_
   rotate_left
   · intro w'
     go_simp
     with_reducible rfl
   rotate_left
   · simp only [Act.put, List.setIfInBounds_toArray, List.set_cons_zero, List.set_cons_succ, i64_w, i32_w]
     rfl
   refine pure_ (i := 7) (N := some 20) (v := ?_) (a' := ?_) #[true, true, true, true, true, true, true, true, false, false, false, false, false, false, false, false, false, false, false, false, false, false, false, false, false, false, false] rfl rfl (any_of HT_.out (by kernel_rfl)) (fun _ _ _ h => h) (Or.inl ⟨by rfl, ?_⟩) ?_ ?_
   rotate_left
   · intro w'
     go_simp
     with_reducible rfl
   rotate_left
   · simp only [Act.put, List.setIfInBounds_toArray, List.set_cons_zero, List.set_cons_succ, i64_w, i32_w]
     rfl
   refine pure_ (i := 8) (N := some 21) (v := ?_) (a' := ?_) #[true, true, true, true, true, true, true, true, true, false, false, false, false, false, false, false, false, false, false, false, false, false, false, false, false, false, false] rfl rfl (any_of HT_.out (by kernel_rfl)) (fun _ _ _ h => h) (Or.inl ⟨by rfl, ?_⟩) ?_ ?_
   rotate_left
   · intro w'
     go_simp
     with_reducible rfl
   rotate_left
   · simp only [Act.put, List.setIfInBounds_toArray, List.set_cons_zero, List.set_cons_succ, i64_w, i32_w]
     rfl
   refine pure_ (i := 9) (N := some 22) (v := ?_) (a' := ?_) #[true, true, true, true, true, true, true, true, true, true, false, false, false, false, false, false, false, false, false, false, false, false, false, false, false, false, false] rfl rfl (any_of HT_.out (by kernel_rfl)) (fun _ _ _ h => h) (Or.inl ⟨by rfl, ?_⟩) ?_ ?_
   rotate_left
   · intro w'
     go_simp
     with_reducible rfl
   rotate_left
   · simp only [Act.put, List.setIfInBounds_toArray, List.set_cons_zero, List.set_cons_succ, i64_w, i32_w]
     rfl
   refine pure_ (i := 10) (N := some 23) (v := ?_) (a' := ?_) #[true, true, true, true, true, true, true, true, true, true, true, false, false, false, false, false, false, false, false, false, false, false, false, false, false, false, false] rfl rfl (any_of HT_.out (by kernel_rfl)) (fun _ _ _ h => h) (Or.inl ⟨by rfl, ?_⟩) ?_ ?_
   rotate_left
   · intro w'
     go_simp
     with_reducible rfl
   rotate_left
   · simp only [Act.put, List.setIfInBounds_toArray, List.set_cons_zero, List.set_cons_succ, i64_w, i32_w]
     rfl
   refine pure_ (i := 11) (N := some 24) (v := ?_) (a' := ?_) #[true, true, true, true, true, true, true, true, true, true, true, true, false, false, false, false, false, false, false, false, false, false, false, false, false, false, false] rfl rfl (any_of HT_.out (by kernel_rfl)) (fun _ _ _ h => h) (Or.inl ⟨by rfl, ?_⟩) ?_ ?_
   rotate_left
   · intro w'
     go_simp
     with_reducible rfl
   rotate_left
   · simp only [Act.put, List.setIfInBounds_toArray, List.set_cons_zero, List.set_cons_succ, i64_w, i32_w]
     rfl
   refine pure_ (i := 12) (N := some 25) (v := ?_) (a' := ?_) #[true, true, true, true, true, true, true, true, true, true, true, true, true, false, false, false, false, false, false, false, false, false, false, false, false, false, false] rfl rfl (any_of HT_.out (by kernel_rfl)) (fun _ _ _ h => h) (Or.inl ⟨by rfl, ?_⟩) ?_ ?_
   rotate_left
   · intro w'
     go_simp
     with_reducible rfl
   rotate_left
   · simp only [Act.put, List.setIfInBounds_toArray, List.set_cons_zero, List.set_cons_succ, i64_w, i32_w]
     rfl
   refine pure_ (i := 13) (N := some 26) (v := undef) (a' := ?_) #[true, true, true, true, true, true, true, true, true, true, true, true, true, true, false, false, false, false, false, false, false, false, false, false, false, false, false] rfl rfl (any_of HT_.out (by kernel_rfl)) (fun _ _ _ h => h) (Or.inr ⟨by rfl, rfl⟩) ?_ ?_
   rotate_left
   · simp only [Act.put, List.setIfInBounds_toArray, List.set_cons_zero, List.set_cons_succ, i64_w, i32_w]
     rfl
   refine pure_ (i := 14) (N := some 27) (v := undef) (a' := ?_) #[true, true, true, true, true, true, true, true, true, true, true, true, true, true, true, false, false, false, false, false, false, false, false, false, false, false, false] rfl rfl (any_of HT_.out (by kernel_rfl)) (fun _ _ _ h => h) (Or.inr ⟨by rfl, rfl⟩) ?_ ?_
   rotate_left
   · simp only [Act.put, List.setIfInBounds_toArray, List.set_cons_zero, List.set_cons_succ, i64_w, i32_w]
     rfl
   refine pure_ (i := 15) (N := some 28) (v := undef) (a' := ?_) #[true, true, true, true, true, true, true, true, true, true, true, true, true, true, true, true, false, false, false, false, false, false, false, false, false, false, false] rfl rfl (any_of HT_.out (by kernel_rfl)) (fun _ _ _ h => h) (Or.inr ⟨by rfl, rfl⟩) ?_ ?_
   rotate_left
   · simp only [Act.put, List.setIfInBounds_toArray, List.set_cons_zero, List.set_cons_succ, i64_w, i32_w]
     rfl
   refine pure_ (i := 16) (N := some 29) (v := undef) (a' := ?_) #[true, true, true, true, true, true, true, true, true, true, true, true, true, true, true, true, true, false, false, false, false, false, false, false, false, false, false] rfl rfl (any_of HT_.out (by kernel_rfl)) (fun _ _ _ h => h) (Or.inr ⟨by rfl, rfl⟩) ?_ ?_
   rotate_left
   · simp only [Act.put, List.setIfInBounds_toArray, List.set_cons_zero, List.set_cons_succ, i64_w, i32_w]
     rfl
   refine pure_ (i := 17) (N := some 30) (v := undef) (a' := ?_) #[true, true, true, true, true, true, true, true, true, true, true, true, true, true, true, true, true, true, false, false, false, false, false, false, false, false, false] rfl rfl (any_of HT_.out (by kernel_rfl)) (fun _ _ _ h => h) (Or.inr ⟨by rfl, rfl⟩) ?_ ?_
   rotate_left
   · simp only [Act.put, List.setIfInBounds_toArray, List.set_cons_zero, List.set_cons_succ, i64_w, i32_w]
     rfl
   refine pure_ (i := 18) (N := some 31) (v := undef) (a' := ?_) #[true, true, true, true, true, true, true, true, true, true, true, true, true, true, true, true, true, true, true, false, false, false, false, false, false, false, false] rfl rfl (any_of HT_.out (by kernel_rfl)) (fun _ _ _ h => h) (Or.inr ⟨by rfl, rfl⟩) ?_ ?_
   rotate_left
   · simp only [Act.put, List.setIfInBounds_toArray, List.set_cons_zero, List.set_cons_succ, i64_w, i32_w]
     rfl
   refine pure_ (i := 19) (N := some 32) (v := undef) (a' := ?_) #[true, true, true, true, true, true, true, true, true, true, true, true, true, true, true, true, true, true, true, true, false, false, false, false, false, false, false] rfl rfl (any_of HT_.out (by kernel_rfl)) (fun _ _ _ h => h) (Or.inr ⟨by rfl, rfl⟩) ?_ ?_
   rotate_left
   · simp only [Act.put, List.setIfInBounds_toArray, List.set_cons_zero, List.set_cons_succ, i64_w, i32_w]
     rfl
   refine pure_ (i := 20) (N := some 33) (v := undef) (a' := ?_) #[true, true, true, true, true, true, true, true, true, true, true, true, true, true, true, true, true, true, true, true, true, false, false, false, false, false, false] rfl rfl (any_of HT_.out (by kernel_rfl)) (fun _ _ _ h => h) (Or.inr ⟨by rfl, rfl⟩) ?_ ?_
   rotate_left
   · simp only [Act.put, List.setIfInBounds_toArray, List.set_cons_zero, List.set_cons_succ, i64_w, i32_w]
     rfl
   refine pure_ (i := 21) (N := some 34) (v := undef) (a' := ?_) #[true, true, true, true, true, true, true, true, true, true, true, true, true, true, true, true, true, true, true, true, true, true, false, false, false, false, false] rfl rfl (any_of HT_.out (by kernel_rfl)) (fun _ _ _ h => h) (Or.inr ⟨by rfl, rfl⟩) ?_ ?_
   rotate_left
   · simp only [Act.put, List.setIfInBounds_toArray, List.set_cons_zero, List.set_cons_succ, i64_w, i32_w]
     rfl
   refine pure_ (i := 22) (N := some 35) (v := undef) (a' := ?_) #[true, true, true, true, true, true, true, true, true, true, true, true, true, true, true, true, true, true, true, true, true, true, true, false, false, false, false] rfl rfl (any_of HT_.out (by kernel_rfl)) (fun _ _ _ h => h) (Or.inr ⟨by rfl, rfl⟩) ?_ ?_
   rotate_left
   · simp only [Act.put, List.setIfInBounds_toArray, List.set_cons_zero, List.set_cons_succ, i64_w, i32_w]
     rfl
   refine pure_ (i := 23) (N := some 36) (v := undef) (a' := ?_) #[true, true, true, true, true, true, true, true, true, true, true, true, true, true, true, true, true, true, true, true, true, true, true, true, false, false, false] rfl rfl (any_of HT_.out (by kernel_rfl)) (fun _ _ _ h => h) (Or.inr ⟨by rfl, rfl⟩) ?_ ?_
   rotate_left
   · simp only [Act.put, List.setIfInBounds_toArray, List.set_cons_zero, List.set_cons_succ, i64_w, i32_w]
     rfl
   refine pure_ (i := 24) (N := some 37) (v := undef) (a' := ?_) #[true, true, true, true, true, true, true, true, true, true, true, true, true, true, true, true, true, true, true, true, true, true, true, true, true, false, false] rfl rfl (any_of HT_.out (by kernel_rfl)) (fun _ _ _ h => h) (Or.inr ⟨by rfl, rfl⟩) ?_ ?_
   rotate_left
   · simp only [Act.put, List.setIfInBounds_toArray, List.set_cons_zero, List.set_cons_succ, i64_w, i32_w]
     rfl
   refine pure_ (i := 25) (N := some 38) (v := ?_) (a' := ?_) #[true, true, true, true, true, true, true, true, true, true, true, true, true, true, true, true, true, true, true, true, true, true, true, true, true, true, false] rfl rfl (any_of HT_.out (by kernel_rfl)) (fun _ _ _ h => h) (Or.inl ⟨by rfl, ?_⟩) ?_ ?_
   rotate_left
   · intro w'
     go_simp
     with_reducible rfl
   rotate_left
   · simp only [Act.put, List.setIfInBounds_toArray, List.set_cons_zero, List.set_cons_succ, i64_w, i32_w]
     rfl
   refine pure_ (i := 26) (N := some 39) (v := ?_) (a' := ?_) #[true, true, true, true, true, true, true, true, true, true, true, true, true, true, true, true, true, true, true, true, true, true, true, true, true, true, true] rfl rfl (any_of HT_.out (by kernel_rfl)) (fun _ _ _ h => h) (Or.inl ⟨by rfl, ?_⟩) ?_ ?_
   rotate_left
   · intro w'
     go_simp
     with_reducible rfl
   rotate_left
   · simp only [Act.put, List.setIfInBounds_toArray, List.set_cons_zero, List.set_cons_succ, i64_w, i32_w]
     rfl
   refine done_ (done_of HT_.out (by kernel_rfl)) ?_
   try go_wp2
   go_roundg k1
   case measure => have := HK1.out; omega
   case rel => exact ⟨(wrap64 (x3_1 + 1)), sqI, H', ⟨by have := HK1.out; omega⟩, ⟨sqB HB.out⟩⟩
 rw [if_pos c7] at H
 have c7b0 : decide ((wrap64 (x3_1 + 1)) < (l0.length : Int)) = true := decide_eq_true c7
 clear c7
 obtain ⟨ji8, hji8⟩ : ∃ j_ : Int, (wrap64 (x3_1 + 1)) = j_ := ⟨_, rfl⟩
 replace H : (if 0 ≤ (ji8) then (if ((rd_T23 l0 (ji8)).f0) ≤ ((rd_T23 l0 x3_1).f0) then (some false) else (boarderref12_Right.l0 k1 l0 ji8)) else (none)) = some r := by first | (rw [hji8] at H; exact H) | (simp only [hji8] at H ⊢; exact H)
 (try rw [hji8] at c7b0)
 (try rw [hji8] at A5)
 have hji8w : (IntKind.i64.wrap (x3_1 + 1)) = ji8 := (i64_w _).trans hji8
 by_cases c9 : 0 ≤ (ji8)
 rotate_left
 · rw [if_neg c9] at H
   exact absurd H (by simp)
 rw [if_pos c9] at H
 have c9b0 : decide (0 ≤ (ji8)) = true := decide_eq_true c9
 clear c9
 by_cases c10 : ((rd_T23 l0 (ji8)).f0) ≤ ((rd_T23 l0 x3_1).f0)
 · rw [if_pos c10] at H
   have c10b0 : decide (((rd_T23 l0 (ji8)).f0) ≤ ((rd_T23 l0 x3_1).f0)) = true := decide_eq_true c10
   clear c10
   obtain rfl := Option.some.inj H
   try go_wp2
   replace HB := sqM (below_drew1 HB.out)
   have p373 : 0 ≤ (x3_1 : Int) := of_decide_eq_true sqH
   have q373 : x3_1 < (l0.length : Int) := of_decide_eq_true sqH
   obtain ⟨ad373, e373, hx373_0, hx373_1, hx373_2, hx373_3⟩ := at_T23 HR0.out x3_1 p373 q373
   have hw373_3 := hx373_3
   have hw373_2 := hx373_2
   have hw373_1 := hx373_1
   have hw373_0 := hx373_0
   cases e373
   replace hx373_0 := sqx HB.out hx373_0
   replace hx373_1 := sqx HB.out hx373_1
   replace hx373_2 := sqx HB.out hx373_2
   replace hx373_3 := sqx HB.out hx373_3
   replace p373 := eq_true p373
   replace q373 := eq_true q373
   have p375 : 0 ≤ ((ji8) : Int) := of_decide_eq_true sqH
   have q375 : (ji8) < (l0.length : Int) := of_decide_eq_true sqH
   obtain ⟨ad375, e375, hx375_0, hx375_1, hx375_2, hx375_3⟩ := at_T23 HR0.out (ji8) p375 q375
   have hw375_3 := hx375_3
   have hw375_2 := hx375_2
   have hw375_1 := hx375_1
   have hw375_0 := hx375_0
   obtain rfl : ad373 = ad375 := (by injection e375)
   replace hx375_0 := sqx HB.out hx375_0
   replace hx375_1 := sqx HB.out hx375_1
   replace hx375_2 := sqx HB.out hx375_2
   replace hx375_3 := sqx HB.out hx375_3
   replace p375 := eq_true p375
   replace q375 := eq_true q375
   have p376 : 0 ≤ (x3_1 : Int) := of_decide_eq_true sqH
   have q376 : x3_1 < (l0.length : Int) := of_decide_eq_true sqH
   obtain ⟨ad376, e376, hx376_0, hx376_1, hx376_2, hx376_3⟩ := at_T23 HR0.out x3_1 p376 q376
   have hw376_3 := hx376_3
   have hw376_2 := hx376_2
   have hw376_1 := hx376_1
   have hw376_0 := hx376_0
   obtain rfl : ad373 = ad376 := (by injection e376)
   replace hx376_0 := sqx HB.out hx376_0
   replace hx376_1 := sqx HB.out hx376_1
   replace hx376_2 := sqx HB.out hx376_2
   replace hx376_3 := sqx HB.out hx376_3
   replace p376 := eq_true p376
   replace q376 := eq_true q376
   refine start_ (n := 27) (S := fun w' => w'.cell? (ad373.add ((x3_1).toNat * 4)) = some (.int .i64 ((rd_T23 l0 x3_1).f0)) ∧ w'.cell? ⟨(ad373.add ((x3_1).toNat * 4)).block, (ad373.add ((x3_1).toNat * 4)).off + 1, none⟩ = some (.int .i64 ((rd_T23 l0 x3_1).f1)) ∧ w'.cell? ⟨(ad373.add ((x3_1).toNat * 4)).block, (ad373.add ((x3_1).toNat * 4)).off + 2, none⟩ = some (.int .i64 ((rd_T23 l0 x3_1).f2)) ∧ w'.cell? ⟨(ad373.add ((x3_1).toNat * 4)).block, (ad373.add ((x3_1).toNat * 4)).off + 3, none⟩ = some (.string ((rd_T23 l0 x3_1).f3)) ∧ w'.cell? (ad373.add (((ji8)).toNat * 4)) = some (.int .i64 ((rd_T23 l0 (ji8)).f0)) ∧ w'.cell? ⟨(ad373.add (((ji8)).toNat * 4)).block, (ad373.add (((ji8)).toNat * 4)).off + 1, none⟩ = some (.int .i64 ((rd_T23 l0 (ji8)).f1)) ∧ w'.cell? ⟨(ad373.add (((ji8)).toNat * 4)).block, (ad373.add (((ji8)).toNat * 4)).off + 2, none⟩ = some (.int .i64 ((rd_T23 l0 (ji8)).f2)) ∧ w'.cell? ⟨(ad373.add (((ji8)).toNat * 4)).block, (ad373.add (((ji8)).toNat * 4)).off + 3, none⟩ = some (.string ((rd_T23 l0 (ji8)).f3)) ∧ w'.cell? (ad373.add ((x3_1).toNat * 4)) = some (.int .i64 ((rd_T23 l0 x3_1).f0)) ∧ w'.cell? ⟨(ad373.add ((x3_1).toNat * 4)).block, (ad373.add ((x3_1).toNat * 4)).off + 1, none⟩ = some (.int .i64 ((rd_T23 l0 x3_1).f1)) ∧ w'.cell? ⟨(ad373.add ((x3_1).toNat * 4)).block, (ad373.add ((x3_1).toNat * 4)).off + 2, none⟩ = some (.int .i64 ((rd_T23 l0 x3_1).f2)) ∧ w'.cell? ⟨(ad373.add ((x3_1).toNat * 4)).block, (ad373.add ((x3_1).toNat * 4)).off + 3, none⟩ = some (.string ((rd_T23 l0 x3_1).f3))) (ds := []) #[false, false, false, false, false, false, false, false, false, false, false, false, false, false, false, false, false, false, false, false, false, false, false, false, false, false, false] (by kernel_rfl) rfl rfl ⟨((HB.out.cell (World.block_lt_of_cell? w _ hw373_0)).trans hw373_0), ((HB.out.cell (World.block_lt_of_cell? w _ hw373_1)).trans hw373_1), ((HB.out.cell (World.block_lt_of_cell? w _ hw373_2)).trans hw373_2), ((HB.out.cell (World.block_lt_of_cell? w _ hw373_3)).trans hw373_3), ((HB.out.cell (World.block_lt_of_cell? w _ hw375_0)).trans hw375_0), ((HB.out.cell (World.block_lt_of_cell? w _ hw375_1)).trans hw375_1), ((HB.out.cell (World.block_lt_of_cell? w _ hw375_2)).trans hw375_2), ((HB.out.cell (World.block_lt_of_cell? w _ hw375_3)).trans hw375_3), ((HB.out.cell (World.block_lt_of_cell? w _ hw376_0)).trans hw376_0), ((HB.out.cell (World.block_lt_of_cell? w _ hw376_1)).trans hw376_1), ((HB.out.cell (World.block_lt_of_cell? w _ hw376_2)).trans hw376_2), ((HB.out.cell (World.block_lt_of_cell? w _ hw376_3)).trans hw376_3)⟩ (fun hHeld => ?_); refine with_tabW boarderref12_Right.tab6 boarderref12_Right.bits6 (fun HT_ HW_ => ?_)
   generalize wr.drew = w11 at HB hx373_0 hx373_1 hx373_2 hx373_3 hx375_0 hx375_1 hx375_2 hx375_3 hx376_0 hx376_1 hx376_2 hx376_3 hHeld ⊢
   refine pure_ (i := 0) (N := some 13) (v := ?_) (a' := ?_) #[true, false, false, false, false, false, false, false, false, false, false, false, false, false, false, false, false, false, false, false, false, false, false, false, false, false, false] rfl rfl (any_of HT_.out (by kernel_rfl)) (fun _ _ _ h => h) (Or.inl ⟨by rfl, ?_⟩) ?_ ?_
   rotate_left
   · intro w'
     go_simp
     with_reducible rfl
   rotate_left
   · simp only [Act.put, List.setIfInBounds_toArray, List.set_cons_zero, List.set_cons_succ, i64_w, i32_w]
     rfl
   refine pure_ (i := 1) (N := some 14) (v := ?_) (a' := ?_) #[true, true, false, false, false, false, false, false, false, false, false, false, false, false, false, false, false, false, false, false, false, false, false, false, false, false, false] rfl rfl (any_of HT_.out (by kernel_rfl)) (fun _ _ _ h => h) (Or.inl ⟨by rfl, ?_⟩) ?_ ?_
   rotate_left
   · intro w'
     go_simp
     with_reducible rfl
   rotate_left
   · simp only [Act.put, List.setIfInBounds_toArray, List.set_cons_zero, List.set_cons_succ, i64_w, i32_w]
     rfl
   refine pure_ (i := 2) (N := some 15) (v := ?_) (a' := ?_) #[true, true, true, false, false, false, false, false, false, false, false, false, false, false, false, false, false, false, false, false, false, false, false, false, false, false, false] rfl rfl (any_of HT_.out (by kernel_rfl)) (fun _ _ _ h => h) (Or.inl ⟨by rfl, ?_⟩) ?_ ?_
   rotate_left
   · intro w'
     go_simp
     with_reducible rfl
   rotate_left
   · simp only [Act.put, List.setIfInBounds_toArray, List.set_cons_zero, List.set_cons_succ, i64_w, i32_w]
     rfl
   refine take_ (i := 3) (N := some 16) (v := ?_) (a' := ?_) #[true, true, true, true, false, false, false, false, false, false, false, false, false, false, false, false, false, false, false, false, false, false, false, false, false, false, false] rfl rfl (take_ofW HT_.out HW_.out (by kernel_rfl)) (fun _ _ _ h => h) (Or.inl ⟨by rfl, ?_⟩) hHeld ?_ ?_
   rotate_left
   · rintro w' ⟨s0, s1, s2, s3, s4, s5, s6, s7, s8, s9, s10, s11⟩
     go_simp
     with_reducible rfl
   rotate_left
   · simp only [Act.put, List.setIfInBounds_toArray, List.set_cons_zero, List.set_cons_succ, i64_w, i32_w]
     rfl
   refine one_ (i := 4) (N := some 17) #[true, true, true, true, true, false, false, false, false, false, false, false, false, false, false, false, false, false, false, false, false, false, false, false, false, false, false] rfl rfl (one_of HT_.out (by kernel_rfl)) (by decide) (fun K hK => ?_)
   refine goes_ Tryd.func14 (by kernel_rfl) rfl #[.agg #[.int .i64 ((rd_T23 l0 x3_1).f0), .int .i64 ((rd_T23 l0 x3_1).f1), .int .i64 ((rd_T23 l0 x3_1).f2), .string ((rd_T23 l0 x3_1).f3)]] (by rfl) rfl rfl sqA ?_
   with_reducible refine (boarderref09_Right.calls _ _ _ _ _ _ A5.out).mono ?_
   rintro e w12 ⟨rfl, hb⟩
   refine ⟨_, rfl, ?_⟩
   replace HB := sqM (below_step (sqB HB.out) hb)
   (try clear hb)
   (try clear hb2)
   (try clear hk)
   (try clear hi)
   refine hK.out _ _ ⟨((HB.out.cell (World.block_lt_of_cell? w _ hw373_0)).trans hw373_0), ((HB.out.cell (World.block_lt_of_cell? w _ hw373_1)).trans hw373_1), ((HB.out.cell (World.block_lt_of_cell? w _ hw373_2)).trans hw373_2), ((HB.out.cell (World.block_lt_of_cell? w _ hw373_3)).trans hw373_3), ((HB.out.cell (World.block_lt_of_cell? w _ hw375_0)).trans hw375_0), ((HB.out.cell (World.block_lt_of_cell? w _ hw375_1)).trans hw375_1), ((HB.out.cell (World.block_lt_of_cell? w _ hw375_2)).trans hw375_2), ((HB.out.cell (World.block_lt_of_cell? w _ hw375_3)).trans hw375_3), ((HB.out.cell (World.block_lt_of_cell? w _ hw376_0)).trans hw376_0), ((HB.out.cell (World.block_lt_of_cell? w _ hw376_1)).trans hw376_1), ((HB.out.cell (World.block_lt_of_cell? w _ hw376_2)).trans hw376_2), ((HB.out.cell (World.block_lt_of_cell? w _ hw376_3)).trans hw376_3)⟩ (fun hHeld => ?_)
   clear hK K
   refine norm_ (a' := ?_) ?_ ?_
   rotate_left
   · show Act.put _ (some 17) _ = _
     simp only [Act.put, List.setIfInBounds_toArray, List.set_cons_zero, List.set_cons_succ, i64_w, i32_w]
     rfl
   refine pure_ (i := 5) (N := some 18) (v := ?_) (a' := ?_) #[true, true, true, true, true, true, false, false, false, false, false, false, false, false, false, false, false, false, false, false, false, false, false, false, false, false, false] rfl rfl (any_of HT_.out (by kernel_rfl)) (fun _ _ _ h => h) (Or.inl ⟨by rfl, ?_⟩) ?_ ?_
   rotate_left
   · intro w'
     go_simp
     with_reducible rfl
   rotate_left
   · simp only [Act.put, List.setIfInBounds_toArray, List.set_cons_zero, List.set_cons_succ, i64_w, i32_w]
     rfl
   refine pure_ (i := 6) (N := some 19) (v := ?_) (a' := ?_) #[true, true, true, true, true, true, true, false, false, false, false, false, false, false, false, false, false, false, false, false, false, false, false, false, false, false, false] rfl rfl (any_of HT_.out (by kernel_rfl)) (fun _ _ _ h => h) (Or.inl ⟨by rfl, ?_⟩) ?_ ?_
   rotate_left
   · intro w'
     go_simp
     with_reducible rfl
   rotate_left
   · simp only [Act.put, List.setIfInBounds_toArray, List.set_cons_zero, List.set_cons_succ, i64_w, i32_w]
     rfl
   refine pure_ (i := 7) (N := some 20) (v := ?_) (a' := ?_) #[true, true, true, true, true, true, true, true, false, false, false, false, false, false, false, false, false, false, false, false, false, false, false, false, false, false, false] rfl rfl (any_of HT_.out (by kernel_rfl)) (fun _ _ _ h => h) (Or.inl ⟨by rfl, ?_⟩) ?_ ?_
   rotate_left
   · intro w'
     go_simp
     with_reducible rfl
   rotate_left
   · simp only [Act.put, List.setIfInBounds_toArray, List.set_cons_zero, List.set_cons_succ, i64_w, i32_w]
     rfl
   refine pure_ (i := 8) (N := some 21) (v := ?_) (a' := ?_) #[true, true, true, true, true, true, true, true, true, false, false, false, false, false, false, false, false, false, false, false, false, false, false, false, false, false, false] rfl rfl (any_of HT_.out (by kernel_rfl)) (fun _ _ _ h => h) (Or.inl ⟨by rfl, ?_⟩) ?_ ?_
   rotate_left
   · intro w'
     go_simp
     with_reducible rfl
   rotate_left
   · simp only [Act.put, List.setIfInBounds_toArray, List.set_cons_zero, List.set_cons_succ, i64_w, i32_w]
     rfl
   refine pure_ (i := 9) (N := some 22) (v := ?_) (a' := ?_) #[true, true, true, true, true, true, true, true, true, true, false, false, false, false, false, false, false, false, false, false, false, false, false, false, false, false, false] rfl rfl (any_of HT_.out (by kernel_rfl)) (fun _ _ _ h => h) (Or.inl ⟨by rfl, ?_⟩) ?_ ?_
   rotate_left
   · intro w'
     go_simp
     with_reducible rfl
   rotate_left
   · simp only [Act.put, List.setIfInBounds_toArray, List.set_cons_zero, List.set_cons_succ, i64_w, i32_w]
     rfl
   refine pure_ (i := 10) (N := some 23) (v := ?_) (a' := ?_) #[true, true, true, true, true, true, true, true, true, true, true, false, false, false, false, false, false, false, false, false, false, false, false, false, false, false, false] rfl rfl (any_of HT_.out (by kernel_rfl)) (fun _ _ _ h => h) (Or.inl ⟨by rfl, ?_⟩) ?_ ?_
   rotate_left
   · intro w'
     go_simp
     with_reducible rfl
   rotate_left
   · simp only [Act.put, List.setIfInBounds_toArray, List.set_cons_zero, List.set_cons_succ, i64_w, i32_w]
     rfl
   refine pure_ (i := 11) (N := some 24) (v := ?_) (a' := ?_) #[true, true, true, true, true, true, true, true, true, true, true, true, false, false, false, false, false, false, false, false, false, false, false, false, false, false, false] rfl rfl (any_of HT_.out (by kernel_rfl)) (fun _ _ _ h => h) (Or.inl ⟨by rfl, ?_⟩) ?_ ?_
   rotate_left
   · intro w'
     go_simp
     with_reducible rfl
   rotate_left
   · simp only [Act.put, List.setIfInBounds_toArray, List.set_cons_zero, List.set_cons_succ, i64_w, i32_w]
     rfl
   refine pure_ (i := 12) (N := some 25) (v := ?_) (a' := ?_) #[true, true, true, true, true, true, true, true, true, true, true, true, true, false, false, false, false, false, false, false, false, false, false, false, false, false, false] rfl rfl (any_of HT_.out (by kernel_rfl)) (fun _ _ _ h => h) (Or.inl ⟨by rfl, ?_⟩) ?_ ?_
   rotate_left
   · intro w'
     go_simp
     with_reducible rfl
   rotate_left
   · simp only [Act.put, List.setIfInBounds_toArray, List.set_cons_zero, List.set_cons_succ, i64_w, i32_w]
     rfl
   refine pure_ (i := 13) (N := some 26) (v := ?_) (a' := ?_) #[true, true, true, true, true, true, true, true, true, true, true, true, true, true, false, false, false, false, false, false, false, false, false, false, false, false, false] rfl rfl (any_of HT_.out (by kernel_rfl)) (fun _ _ _ h => h) (Or.inl ⟨by rfl, ?_⟩) ?_ ?_
   rotate_left
   · intro w'
     go_simp
     with_reducible rfl
   rotate_left
   · simp only [Act.put, List.setIfInBounds_toArray, List.set_cons_zero, List.set_cons_succ, i64_w, i32_w]
     rfl
   refine pure_ (i := 14) (N := some 27) (v := ?_) (a' := ?_) #[true, true, true, true, true, true, true, true, true, true, true, true, true, true, true, false, false, false, false, false, false, false, false, false, false, false, false] rfl rfl (any_of HT_.out (by kernel_rfl)) (fun _ _ _ h => h) (Or.inl ⟨by rfl, ?_⟩) ?_ ?_
   rotate_left
   · intro w'
     go_simp
     with_reducible rfl
   rotate_left
   · simp only [Act.put, List.setIfInBounds_toArray, List.set_cons_zero, List.set_cons_succ, i64_w, i32_w]
     rfl
   refine pure_ (i := 15) (N := some 28) (v := ?_) (a' := ?_) #[true, true, true, true, true, true, true, true, true, true, true, true, true, true, true, true, false, false, false, false, false, false, false, false, false, false, false] rfl rfl (any_of HT_.out (by kernel_rfl)) (fun _ _ _ h => h) (Or.inl ⟨by rfl, ?_⟩) ?_ ?_
   rotate_left
   · intro w'
     go_simp
     with_reducible rfl
   rotate_left
   · simp only [Act.put, List.setIfInBounds_toArray, List.set_cons_zero, List.set_cons_succ, i64_w, i32_w]
     rfl
   refine pure_ (i := 16) (N := some 29) (v := ?_) (a' := ?_) #[true, true, true, true, true, true, true, true, true, true, true, true, true, true, true, true, true, false, false, false, false, false, false, false, false, false, false] rfl rfl (any_of HT_.out (by kernel_rfl)) (fun _ _ _ h => h) (Or.inl ⟨by rfl, ?_⟩) ?_ ?_
   rotate_left
   · intro w'
     go_simp
     with_reducible rfl
   rotate_left
   · simp only [Act.put, List.setIfInBounds_toArray, List.set_cons_zero, List.set_cons_succ, i64_w, i32_w]
     rfl
   refine pure_ (i := 17) (N := some 30) (v := ?_) (a' := ?_) #[true, true, true, true, true, true, true, true, true, true, true, true, true, true, true, true, true, true, false, false, false, false, false, false, false, false, false] rfl rfl (any_of HT_.out (by kernel_rfl)) (fun _ _ _ h => h) (Or.inl ⟨by rfl, ?_⟩) ?_ ?_
   rotate_left
   · intro w'
     go_simp
     with_reducible rfl
   rotate_left
   · simp only [Act.put, List.setIfInBounds_toArray, List.set_cons_zero, List.set_cons_succ, i64_w, i32_w]
     rfl
   refine pure_ (i := 19) (N := some 32) (v := ?_) (a' := ?_) #[true, true, true, true, true, true, true, true, true, true, true, true, true, true, true, true, true, true, false, true, false, false, false, false, false, false, false] rfl rfl (any_of HT_.out (by kernel_rfl)) (fun _ _ _ h => h) (Or.inl ⟨by rfl, ?_⟩) ?_ ?_
   rotate_left
   · intro w'
     go_simp
     with_reducible rfl
   rotate_left
   · simp only [Act.put, List.setIfInBounds_toArray, List.set_cons_zero, List.set_cons_succ, i64_w, i32_w]
     rfl
   refine pure_ (i := 20) (N := some 33) (v := ?_) (a' := ?_) #[true, true, true, true, true, true, true, true, true, true, true, true, true, true, true, true, true, true, false, true, true, false, false, false, false, false, false] rfl rfl (any_of HT_.out (by kernel_rfl)) (fun _ _ _ h => h) (Or.inl ⟨by rfl, ?_⟩) ?_ ?_
   rotate_left
   · intro w'
     go_simp
     with_reducible rfl
   rotate_left
   · simp only [Act.put, List.setIfInBounds_toArray, List.set_cons_zero, List.set_cons_succ, i64_w, i32_w]
     rfl
   refine pure_ (i := 21) (N := some 34) (v := ?_) (a' := ?_) #[true, true, true, true, true, true, true, true, true, true, true, true, true, true, true, true, true, true, false, true, true, true, false, false, false, false, false] rfl rfl (any_of HT_.out (by kernel_rfl)) (fun _ _ _ h => h) (Or.inl ⟨by rfl, ?_⟩) ?_ ?_
   rotate_left
   · intro w'
     go_simp
     with_reducible rfl
   rotate_left
   · simp only [Act.put, List.setIfInBounds_toArray, List.set_cons_zero, List.set_cons_succ, i64_w, i32_w]
     rfl
   refine pure_ (i := 22) (N := some 35) (v := ?_) (a' := ?_) #[true, true, true, true, true, true, true, true, true, true, true, true, true, true, true, true, true, true, false, true, true, true, true, false, false, false, false] rfl rfl (any_of HT_.out (by kernel_rfl)) (fun _ _ _ h => h) (Or.inl ⟨by rfl, ?_⟩) ?_ ?_
   rotate_left
   · intro w'
     go_simp
     with_reducible rfl
   rotate_left
   · simp only [Act.put, List.setIfInBounds_toArray, List.set_cons_zero, List.set_cons_succ, i64_w, i32_w]
     rfl
   refine take_ (i := 18) (N := some 31) (v := ?_) (a' := ?_) #[true, true, true, true, true, true, true, true, true, true, true, true, true, true, true, true, true, true, true, true, true, true, true, false, false, false, false] rfl rfl (take_ofW HT_.out HW_.out (by kernel_rfl)) (fun _ _ _ h => h) (Or.inl ⟨by rfl, ?_⟩) hHeld ?_ ?_
   rotate_left
   · rintro w' ⟨s0, s1, s2, s3, s4, s5, s6, s7, s8, s9, s10, s11⟩
     go_simp
     with_reducible rfl
   rotate_left
   · simp only [Act.put, List.setIfInBounds_toArray, List.set_cons_zero, List.set_cons_succ, i64_w, i32_w]
     rfl
   refine take_ (i := 23) (N := some 36) (v := ?_) (a' := ?_) #[true, true, true, true, true, true, true, true, true, true, true, true, true, true, true, true, true, true, true, true, true, true, true, true, false, false, false] rfl rfl (take_ofW HT_.out HW_.out (by kernel_rfl)) (fun _ _ _ h => h) (Or.inl ⟨by rfl, ?_⟩) hHeld ?_ ?_
   rotate_left
   · rintro w' ⟨s0, s1, s2, s3, s4, s5, s6, s7, s8, s9, s10, s11⟩
     go_simp
     with_reducible rfl
   rotate_left
   · simp only [Act.put, List.setIfInBounds_toArray, List.set_cons_zero, List.set_cons_succ, i64_w, i32_w]
     rfl
   refine pure_ (i := 24) (N := some 37) (v := ?_) (a' := ?_) #[true, true, true, true, true, true, true, true, true, true, true, true, true, true, true, true, true, true, true, true, true, true, true, true, true, false, false] rfl rfl (any_of HT_.out (by kernel_rfl)) (fun _ _ _ h => h) (Or.inl ⟨by rfl, ?_⟩) ?_ ?_
   rotate_left
   · intro w'
     go_simp
     with_reducible rfl
   rotate_left
   · simp only [Act.put, List.setIfInBounds_toArray, List.set_cons_zero, List.set_cons_succ, i64_w, i32_w]
     rfl
   refine pure_ (i := 25) (N := some 38) (v := ?_) (a' := ?_) #[true, true, true, true, true, true, true, true, true, true, true, true, true, true, true, true, true, true, true, true, true, true, true, true, true, true, false] rfl rfl (any_of HT_.out (by kernel_rfl)) (fun _ _ _ h => h) (Or.inl ⟨by rfl, ?_⟩) ?_ ?_
   rotate_left
   · intro w'
     go_simp
     with_reducible rfl
   rotate_left
   · simp only [Act.put, List.setIfInBounds_toArray, List.set_cons_zero, List.set_cons_succ, i64_w, i32_w]
     rfl
   refine pure_ (i := 26) (N := some 39) (v := ?_) (a' := ?_) #[true, true, true, true, true, true, true, true, true, true, true, true, true, true, true, true, true, true, true, true, true, true, true, true, true, true, true] rfl rfl (any_of HT_.out (by kernel_rfl)) (fun _ _ _ h => h) (Or.inl ⟨by rfl, ?_⟩) ?_ ?_
   rotate_left
   · intro w'
     go_simp
     with_reducible rfl
   rotate_left
   · simp only [Act.put, List.setIfInBounds_toArray, List.set_cons_zero, List.set_cons_succ, i64_w, i32_w]
     rfl
   refine done_ (done_of HT_.out (by kernel_rfl)) ?_
   try go_wp2
   go_ret
   exact ⟨by first | rfl | (simp [errW_none, errW_some] <;> rfl) | (simp only [← hji8]; first | rfl | (simp [errW_none, errW_some] <;> rfl)) | (simp [*, errW_none, errW_some] <;> rfl), sqB HB.out⟩
 rw [if_neg c10] at H
 have c10b0 : decide (((rd_T23 l0 (ji8)).f0) ≤ ((rd_T23 l0 x3_1).f0)) = false := decide_eq_false c10
 clear c10
 have H' := Aside0.mk H
 clear H
 try go_wp2
 replace HB := sqM (below_drew1 HB.out)
 have p373 : 0 ≤ (x3_1 : Int) := of_decide_eq_true sqH
 have q373 : x3_1 < (l0.length : Int) := of_decide_eq_true sqH
 obtain ⟨ad373, e373, hx373_0, hx373_1, hx373_2, hx373_3⟩ := at_T23 HR0.out x3_1 p373 q373
 have hw373_3 := hx373_3
 have hw373_2 := hx373_2
 have hw373_1 := hx373_1
 have hw373_0 := hx373_0
 cases e373
 replace hx373_0 := sqx HB.out hx373_0
 replace hx373_1 := sqx HB.out hx373_1
 replace hx373_2 := sqx HB.out hx373_2
 replace hx373_3 := sqx HB.out hx373_3
 replace p373 := eq_true p373
 replace q373 := eq_true q373
 have p375 : 0 ≤ ((ji8) : Int) := of_decide_eq_true sqH
 have q375 : (ji8) < (l0.length : Int) := of_decide_eq_true sqH
 obtain ⟨ad375, e375, hx375_0, hx375_1, hx375_2, hx375_3⟩ := at_T23 HR0.out (ji8) p375 q375
 have hw375_3 := hx375_3
 have hw375_2 := hx375_2
 have hw375_1 := hx375_1
 have hw375_0 := hx375_0
 obtain rfl : ad373 = ad375 := (by injection e375)
 replace hx375_0 := sqx HB.out hx375_0
 replace hx375_1 := sqx HB.out hx375_1
 replace hx375_2 := sqx HB.out hx375_2
 replace hx375_3 := sqx HB.out hx375_3
 replace p375 := eq_true p375
 replace q375 := eq_true q375
 have p376 : 0 ≤ (x3_1 : Int) := of_decide_eq_true sqH
 have q376 : x3_1 < (l0.length : Int) := of_decide_eq_true sqH
 obtain ⟨ad376, e376, hx376_0, hx376_1, hx376_2, hx376_3⟩ := at_T23 HR0.out x3_1 p376 q376
 have hw376_3 := hx376_3
 have hw376_2 := hx376_2
 have hw376_1 := hx376_1
 have hw376_0 := hx376_0
 obtain rfl : ad373 = ad376 := (by injection e376)
 replace hx376_0 := sqx HB.out hx376_0
 replace hx376_1 := sqx HB.out hx376_1
 replace hx376_2 := sqx HB.out hx376_2
 replace hx376_3 := sqx HB.out hx376_3
 replace p376 := eq_true p376
 replace q376 := eq_true q376
 refine start_ (n := 27) (S := fun w' => w'.cell? (ad373.add ((x3_1).toNat * 4)) = some (.int .i64 ((rd_T23 l0 x3_1).f0)) ∧ w'.cell? ⟨(ad373.add ((x3_1).toNat * 4)).block, (ad373.add ((x3_1).toNat * 4)).off + 1, none⟩ = some (.int .i64 ((rd_T23 l0 x3_1).f1)) ∧ w'.cell? ⟨(ad373.add ((x3_1).toNat * 4)).block, (ad373.add ((x3_1).toNat * 4)).off + 2, none⟩ = some (.int .i64 ((rd_T23 l0 x3_1).f2)) ∧ w'.cell? ⟨(ad373.add ((x3_1).toNat * 4)).block, (ad373.add ((x3_1).toNat * 4)).off + 3, none⟩ = some (.string ((rd_T23 l0 x3_1).f3)) ∧ w'.cell? (ad373.add (((ji8)).toNat * 4)) = some (.int .i64 ((rd_T23 l0 (ji8)).f0)) ∧ w'.cell? ⟨(ad373.add (((ji8)).toNat * 4)).block, (ad373.add (((ji8)).toNat * 4)).off + 1, none⟩ = some (.int .i64 ((rd_T23 l0 (ji8)).f1)) ∧ w'.cell? ⟨(ad373.add (((ji8)).toNat * 4)).block, (ad373.add (((ji8)).toNat * 4)).off + 2, none⟩ = some (.int .i64 ((rd_T23 l0 (ji8)).f2)) ∧ w'.cell? ⟨(ad373.add (((ji8)).toNat * 4)).block, (ad373.add (((ji8)).toNat * 4)).off + 3, none⟩ = some (.string ((rd_T23 l0 (ji8)).f3)) ∧ w'.cell? (ad373.add ((x3_1).toNat * 4)) = some (.int .i64 ((rd_T23 l0 x3_1).f0)) ∧ w'.cell? ⟨(ad373.add ((x3_1).toNat * 4)).block, (ad373.add ((x3_1).toNat * 4)).off + 1, none⟩ = some (.int .i64 ((rd_T23 l0 x3_1).f1)) ∧ w'.cell? ⟨(ad373.add ((x3_1).toNat * 4)).block, (ad373.add ((x3_1).toNat * 4)).off + 2, none⟩ = some (.int .i64 ((rd_T23 l0 x3_1).f2)) ∧ w'.cell? ⟨(ad373.add ((x3_1).toNat * 4)).block, (ad373.add ((x3_1).toNat * 4)).off + 3, none⟩ = some (.string ((rd_T23 l0 x3_1).f3))) (ds := []) #[false, false, false, false, false, false, false, false, false, false, false, false, false, false, false, false, false, false, false, false, false, false, false, false, false, false, false] (by kernel_rfl) rfl rfl ⟨((HB.out.cell (World.block_lt_of_cell? w _ hw373_0)).trans hw373_0), ((HB.out.cell (World.block_lt_of_cell? w _ hw373_1)).trans hw373_1), ((HB.out.cell (World.block_lt_of_cell? w _ hw373_2)).trans hw373_2), ((HB.out.cell (World.block_lt_of_cell? w _ hw373_3)).trans hw373_3), ((HB.out.cell (World.block_lt_of_cell? w _ hw375_0)).trans hw375_0), ((HB.out.cell (World.block_lt_of_cell? w _ hw375_1)).trans hw375_1), ((HB.out.cell (World.block_lt_of_cell? w _ hw375_2)).trans hw375_2), ((HB.out.cell (World.block_lt_of_cell? w _ hw375_3)).trans hw375_3), ((HB.out.cell (World.block_lt_of_cell? w _ hw376_0)).trans hw376_0), ((HB.out.cell (World.block_lt_of_cell? w _ hw376_1)).trans hw376_1), ((HB.out.cell (World.block_lt_of_cell? w _ hw376_2)).trans hw376_2), ((HB.out.cell (World.block_lt_of_cell? w _ hw376_3)).trans hw376_3)⟩ (fun hHeld => ?_); refine with_tabW boarderref12_Right.tab6 boarderref12_Right.bits6 (fun HT_ HW_ => ?_)
 generalize wr.drew = w13 at HB hx373_0 hx373_1 hx373_2 hx373_3 hx375_0 hx375_1 hx375_2 hx375_3 hx376_0 hx376_1 hx376_2 hx376_3 hHeld ⊢
 refine pure_ (i := 0) (N := some 13) (v := ?_) (a' := ?_) #[true, false, false, false, false, false, false, false, false, false, false, false, false, false, false, false, false, false, false, false, false, false, false, false, false, false, false] rfl rfl (any_of HT_.out (by kernel_rfl)) (fun _ _ _ h => h) (Or.inl ⟨by rfl, ?_⟩) ?_ ?_
 rotate_left
 · intro w'
   go_simp
   with_reducible rfl
 rotate_left
 · simp only [Act.put, List.setIfInBounds_toArray, List.set_cons_zero, List.set_cons_succ, i64_w, i32_w]
   rfl
 refine pure_ (i := 1) (N := some 14) (v := ?_) (a' := ?_) #[true, true, false, false, false, false, false, false, false, false, false, false, false, false, false, false, false, false, false, false, false, false, false, false, false, false, false] rfl rfl (any_of HT_.out (by kernel_rfl)) (fun _ _ _ h => h) (Or.inl ⟨by rfl, ?_⟩) ?_ ?_
 rotate_left
 · intro w'
   go_simp
   with_reducible rfl
 rotate_left
 · simp only [Act.put, List.setIfInBounds_toArray, List.set_cons_zero, List.set_cons_succ, i64_w, i32_w]
   rfl
 refine pure_ (i := 2) (N := some 15) (v := ?_) (a' := ?_) #[true, true, true, false, false, false, false, false, false, false, false, false, false, false, false, false, false, false, false, false, false, false, false, false, false, false, false] rfl rfl (any_of HT_.out (by kernel_rfl)) (fun _ _ _ h => h) (Or.inl ⟨by rfl, ?_⟩) ?_ ?_
 rotate_left
 · intro w'
   go_simp
   with_reducible rfl
 rotate_left
 · simp only [Act.put, List.setIfInBounds_toArray, List.set_cons_zero, List.set_cons_succ, i64_w, i32_w]
   rfl
 refine take_ (i := 3) (N := some 16) (v := ?_) (a' := ?_) #[true, true, true, true, false, false, false, false, false, false, false, false, false, false, false, false, false, false, false, false, false, false, false, false, false, false, false] rfl rfl (take_ofW HT_.out HW_.out (by kernel_rfl)) (fun _ _ _ h => h) (Or.inl ⟨by rfl, ?_⟩) hHeld ?_ ?_
 rotate_left
 · rintro w' ⟨s0, s1, s2, s3, s4, s5, s6, s7, s8, s9, s10, s11⟩
   go_simp
   with_reducible rfl
 rotate_left
 · simp only [Act.put, List.setIfInBounds_toArray, List.set_cons_zero, List.set_cons_succ, i64_w, i32_w]
   rfl
 refine one_ (i := 4) (N := some 17) #[true, true, true, true, true, false, false, false, false, false, false, false, false, false, false, false, false, false, false, false, false, false, false, false, false, false, false] rfl rfl (one_of HT_.out (by kernel_rfl)) (by decide) (fun K hK => ?_)
 refine goes_ Tryd.func14 (by kernel_rfl) rfl #[.agg #[.int .i64 ((rd_T23 l0 x3_1).f0), .int .i64 ((rd_T23 l0 x3_1).f1), .int .i64 ((rd_T23 l0 x3_1).f2), .string ((rd_T23 l0 x3_1).f3)]] (by rfl) rfl rfl sqA ?_
 with_reducible refine (boarderref09_Right.calls _ _ _ _ _ _ A5.out).mono ?_
 rintro e w14 ⟨rfl, hb⟩
 refine ⟨_, rfl, ?_⟩
 replace HB := sqM (below_step (sqB HB.out) hb)
 (try clear hb)
 (try clear hb2)
 (try clear hk)
 (try clear hi)
 refine hK.out _ _ ⟨((HB.out.cell (World.block_lt_of_cell? w _ hw373_0)).trans hw373_0), ((HB.out.cell (World.block_lt_of_cell? w _ hw373_1)).trans hw373_1), ((HB.out.cell (World.block_lt_of_cell? w _ hw373_2)).trans hw373_2), ((HB.out.cell (World.block_lt_of_cell? w _ hw373_3)).trans hw373_3), ((HB.out.cell (World.block_lt_of_cell? w _ hw375_0)).trans hw375_0), ((HB.out.cell (World.block_lt_of_cell? w _ hw375_1)).trans hw375_1), ((HB.out.cell (World.block_lt_of_cell? w _ hw375_2)).trans hw375_2), ((HB.out.cell (World.block_lt_of_cell? w _ hw375_3)).trans hw375_3), ((HB.out.cell (World.block_lt_of_cell? w _ hw376_0)).trans hw376_0), ((HB.out.cell (World.block_lt_of_cell? w _ hw376_1)).trans hw376_1), ((HB.out.cell (World.block_lt_of_cell? w _ hw376_2)).trans hw376_2), ((HB.out.cell (World.block_lt_of_cell? w _ hw376_3)).trans hw376_3)⟩ (fun hHeld => ?_)
 clear hK K
 refine norm_ (a' := ?_) ?_ ?_
 rotate_left
 · show Act.put _ (some 17) _ = _
   simp only [Act.put, List.setIfInBounds_toArray, List.set_cons_zero, List.set_cons_succ, i64_w, i32_w]
   rfl
 refine pure_ (i := 5) (N := some 18) (v := ?_) (a' := ?_) #[true, true, true, true, true, true, false, false, false, false, false, false, false, false, false, false, false, false, false, false, false, false, false, false, false, false, false] rfl rfl (any_of HT_.out (by kernel_rfl)) (fun _ _ _ h => h) (Or.inl ⟨by rfl, ?_⟩) ?_ ?_
 rotate_left
 · intro w'
   go_simp
   with_reducible rfl
 rotate_left
 · simp only [Act.put, List.setIfInBounds_toArray, List.set_cons_zero, List.set_cons_succ, i64_w, i32_w]
   rfl
 refine pure_ (i := 6) (N := some 19) (v := ?_) (a' := ?_) #[true, true, true, true, true, true, true, false, false, false, false, false, false, false, false, false, false, false, false, false, false, false, false, false, false, false, false] rfl rfl (any_of HT_.out (by kernel_rfl)) (fun _ _ _ h => h) (Or.inl ⟨by rfl, ?_⟩) ?_ ?_
 rotate_left
 · intro w'
   go_simp
   with_reducible rfl
 rotate_left
 · simp only [Act.put, List.setIfInBounds_toArray, List.set_cons_zero, List.set_cons_succ, i64_w, i32_w]
   rfl
 refine pure_ (i := 7) (N := some 20) (v := ?_) (a' := ?_) #[true, true, true, true, true, true, true, true, false, false, false, false, false, false, false, false, false, false, false, false, false, false, false, false, false, false, false] rfl rfl (any_of HT_.out (by kernel_rfl)) (fun _ _ _ h => h) (Or.inl ⟨by rfl, ?_⟩) ?_ ?_
 rotate_left
 · intro w'
   go_simp
   with_reducible rfl
 rotate_left
 · simp only [Act.put, List.setIfInBounds_toArray, List.set_cons_zero, List.set_cons_succ, i64_w, i32_w]
   rfl
 refine pure_ (i := 8) (N := some 21) (v := ?_) (a' := ?_) #[true, true, true, true, true, true, true, true, true, false, false, false, false, false, false, false, false, false, false, false, false, false, false, false, false, false, false] rfl rfl (any_of HT_.out (by kernel_rfl)) (fun _ _ _ h => h) (Or.inl ⟨by rfl, ?_⟩) ?_ ?_
 rotate_left
 · intro w'
   go_simp
   with_reducible rfl
 rotate_left
 · simp only [Act.put, List.setIfInBounds_toArray, List.set_cons_zero, List.set_cons_succ, i64_w, i32_w]
   rfl
 refine pure_ (i := 9) (N := some 22) (v := ?_) (a' := ?_) #[true, true, true, true, true, true, true, true, true, true, false, false, false, false, false, false, false, false, false, false, false, false, false, false, false, false, false] rfl rfl (any_of HT_.out (by kernel_rfl)) (fun _ _ _ h => h) (Or.inl ⟨by rfl, ?_⟩) ?_ ?_
 rotate_left
 · intro w'
   go_simp
   with_reducible rfl
 rotate_left
 · simp only [Act.put, List.setIfInBounds_toArray, List.set_cons_zero, List.set_cons_succ, i64_w, i32_w]
   rfl
 refine pure_ (i := 10) (N := some 23) (v := ?_) (a' := ?_) #[true, true, true, true, true, true, true, true, true, true, true, false, false, false, false, false, false, false, false, false, false, false, false, false, false, false, false] rfl rfl (any_of HT_.out (by kernel_rfl)) (fun _ _ _ h => h) (Or.inl ⟨by rfl, ?_⟩) ?_ ?_
 rotate_left
 · intro w'
   go_simp
   with_reducible rfl
 rotate_left
 · simp only [Act.put, List.setIfInBounds_toArray, List.set_cons_zero, List.set_cons_succ, i64_w, i32_w]
   rfl
 refine pure_ (i := 11) (N := some 24) (v := ?_) (a' := ?_) #[true, true, true, true, true, true, true, true, true, true, true, true, false, false, false, false, false, false, false, false, false, false, false, false, false, false, false] rfl rfl (any_of HT_.out (by kernel_rfl)) (fun _ _ _ h => h) (Or.inl ⟨by rfl, ?_⟩) ?_ ?_
 rotate_left
 · intro w'
   go_simp
   with_reducible rfl
 rotate_left
 · simp only [Act.put, List.setIfInBounds_toArray, List.set_cons_zero, List.set_cons_succ, i64_w, i32_w]
   rfl
 refine pure_ (i := 12) (N := some 25) (v := ?_) (a' := ?_) #[true, true, true, true, true, true, true, true, true, true, true, true, true, false, false, false, false, false, false, false, false, false, false, false, false, false, false] rfl rfl (any_of HT_.out (by kernel_rfl)) (fun _ _ _ h => h) (Or.inl ⟨by rfl, ?_⟩) ?_ ?_
 rotate_left
 · intro w'
   go_simp
   with_reducible rfl
 rotate_left
 · simp only [Act.put, List.setIfInBounds_toArray, List.set_cons_zero, List.set_cons_succ, i64_w, i32_w]
   rfl
 refine pure_ (i := 13) (N := some 26) (v := ?_) (a' := ?_) #[true, true, true, true, true, true, true, true, true, true, true, true, true, true, false, false, false, false, false, false, false, false, false, false, false, false, false] rfl rfl (any_of HT_.out (by kernel_rfl)) (fun _ _ _ h => h) (Or.inl ⟨by rfl, ?_⟩) ?_ ?_
 rotate_left
 · intro w'
   go_simp
   with_reducible rfl
 rotate_left
 · simp only [Act.put, List.setIfInBounds_toArray, List.set_cons_zero, List.set_cons_succ, i64_w, i32_w]
   rfl
 refine pure_ (i := 14) (N := some 27) (v := ?_) (a' := ?_) #[true, true, true, true, true, true, true, true, true, true, true, true, true, true, true, false, false, false, false, false, false, false, false, false, false, false, false] rfl rfl (any_of HT_.out (by kernel_rfl)) (fun _ _ _ h => h) (Or.inl ⟨by rfl, ?_⟩) ?_ ?_
 rotate_left
 · intro w'
   go_simp
   with_reducible rfl
 rotate_left
 · simp only [Act.put, List.setIfInBounds_toArray, List.set_cons_zero, List.set_cons_succ, i64_w, i32_w]
   rfl
 refine pure_ (i := 15) (N := some 28) (v := ?_) (a' := ?_) #[true, true, true, true, true, true, true, true, true, true, true, true, true, true, true, true, false, false, false, false, false, false, false, false, false, false, false] rfl rfl (any_of HT_.out (by kernel_rfl)) (fun _ _ _ h => h) (Or.inl ⟨by rfl, ?_⟩) ?_ ?_
 rotate_left
 · intro w'
   go_simp
   with_reducible rfl
 rotate_left
 · simp only [Act.put, List.setIfInBounds_toArray, List.set_cons_zero, List.set_cons_succ, i64_w, i32_w]
   rfl
 refine pure_ (i := 16) (N := some 29) (v := ?_) (a' := ?_) #[true, true, true, true, true, true, true, true, true, true, true, true, true, true, true, true, true, false, false, false, false, false, false, false, false, false, false] rfl rfl (any_of HT_.out (by kernel_rfl)) (fun _ _ _ h => h) (Or.inl ⟨by rfl, ?_⟩) ?_ ?_
 rotate_left
 · intro w'
   go_simp
   with_reducible rfl
 rotate_left
 · simp only [Act.put, List.setIfInBounds_toArray, List.set_cons_zero, List.set_cons_succ, i64_w, i32_w]
   rfl
 refine pure_ (i := 17) (N := some 30) (v := ?_) (a' := ?_) #[true, true, true, true, true, true, true, true, true, true, true, true, true, true, true, true, true, true, false, false, false, false, false, false, false, false, false] rfl rfl (any_of HT_.out (by kernel_rfl)) (fun _ _ _ h => h) (Or.inl ⟨by rfl, ?_⟩) ?_ ?_
 rotate_left
 · intro w'
   go_simp
   with_reducible rfl
 rotate_left
 · simp only [Act.put, List.setIfInBounds_toArray, List.set_cons_zero, List.set_cons_succ, i64_w, i32_w]
   rfl
 refine pure_ (i := 19) (N := some 32) (v := ?_) (a' := ?_) #[true, true, true, true, true, true, true, true, true, true, true, true, true, true, true, true, true, true, false, true, false, false, false, false, false, false, false] rfl rfl (any_of HT_.out (by kernel_rfl)) (fun _ _ _ h => h) (Or.inl ⟨by rfl, ?_⟩) ?_ ?_
 rotate_left
 · intro w'
   go_simp
   with_reducible rfl
 rotate_left
 · simp only [Act.put, List.setIfInBounds_toArray, List.set_cons_zero, List.set_cons_succ, i64_w, i32_w]
   rfl
 refine pure_ (i := 20) (N := some 33) (v := ?_) (a' := ?_) #[true, true, true, true, true, true, true, true, true, true, true, true, true, true, true, true, true, true, false, true, true, false, false, false, false, false, false] rfl rfl (any_of HT_.out (by kernel_rfl)) (fun _ _ _ h => h) (Or.inl ⟨by rfl, ?_⟩) ?_ ?_
 rotate_left
 · intro w'
   go_simp
   with_reducible rfl
 rotate_left
 · simp only [Act.put, List.setIfInBounds_toArray, List.set_cons_zero, List.set_cons_succ, i64_w, i32_w]
   rfl
 refine pure_ (i := 21) (N := some 34) (v := ?_) (a' := ?_) #[true, true, true, true, true, true, true, true, true, true, true, true, true, true, true, true, true, true, false, true, true, true, false, false, false, false, false] rfl rfl (any_of HT_.out (by kernel_rfl)) (fun _ _ _ h => h) (Or.inl ⟨by rfl, ?_⟩) ?_ ?_
 rotate_left
 · intro w'
   go_simp
   with_reducible rfl
 rotate_left
 · simp only [Act.put, List.setIfInBounds_toArray, List.set_cons_zero, List.set_cons_succ, i64_w, i32_w]
   rfl
 refine pure_ (i := 22) (N := some 35) (v := ?_) (a' := ?_) #[true, true, true, true, true, true, true, true, true, true, true, true, true, true, true, true, true, true, false, true, true, true, true, false, false, false, false] rfl rfl (any_of HT_.out (by kernel_rfl)) (fun _ _ _ h => h) (Or.inl ⟨by rfl, ?_⟩) ?_ ?_
 rotate_left
 · intro w'
   go_simp
   with_reducible rfl
 rotate_left
 · simp only [Act.put, List.setIfInBounds_toArray, List.set_cons_zero, List.set_cons_succ, i64_w, i32_w]
   rfl
 refine take_ (i := 18) (N := some 31) (v := ?_) (a' := ?_) #[true, true, true, true, true, true, true, true, true, true, true, true, true, true, true, true, true, true, true, true, true, true, true, false, false, false, false] rfl rfl (take_ofW HT_.out HW_.out (by kernel_rfl)) (fun _ _ _ h => h) (Or.inl ⟨by rfl, ?_⟩) hHeld ?_ ?_
 rotate_left
 · rintro w' ⟨s0, s1, s2, s3, s4, s5, s6, s7, s8, s9, s10, s11⟩
   go_simp
   with_reducible rfl
 rotate_left
 · simp only [Act.put, List.setIfInBounds_toArray, List.set_cons_zero, List.set_cons_succ, i64_w, i32_w]
   rfl
 refine take_ (i := 23) (N := some 36) (v := ?_) (a' := ?_) #[true, true, true, true, true, true, true, true, true, true, true, true, true, true, true, true, true, true, true, true, true, true, true, true, false, false, false] rfl rfl (take_ofW HT_.out HW_.out (by kernel_rfl)) (fun _ _ _ h => h) (Or.inl ⟨by rfl, ?_⟩) hHeld ?_ ?_
 rotate_left
 · rintro w' ⟨s0, s1, s2, s3, s4, s5, s6, s7, s8, s9, s10, s11⟩
   go_simp
   with_reducible rfl
 rotate_left
 · simp only [Act.put, List.setIfInBounds_toArray, List.set_cons_zero, List.set_cons_succ, i64_w, i32_w]
   rfl
 refine pure_ (i := 24) (N := some 37) (v := ?_) (a' := ?_) #[true, true, true, true, true, true, true, true, true, true, true, true, true, true, true, true, true, true, true, true, true, true, true, true, true, false, false] rfl rfl (any_of HT_.out (by kernel_rfl)) (fun _ _ _ h => h) (Or.inl ⟨by rfl, ?_⟩) ?_ ?_
 rotate_left
 · intro w'
   go_simp
   with_reducible rfl
 rotate_left
 · simp only [Act.put, List.setIfInBounds_toArray, List.set_cons_zero, List.set_cons_succ, i64_w, i32_w]
   rfl
 refine pure_ (i := 25) (N := some 38) (v := ?_) (a' := ?_) #[true, true, true, true, true, true, true, true, true, true, true, true, true, true, true, true, true, true, true, true, true, true, true, true, true, true, false] rfl rfl (any_of HT_.out (by kernel_rfl)) (fun _ _ _ h => h) (Or.inl ⟨by rfl, ?_⟩) ?_ ?_
 rotate_left
 · intro w'
   go_simp
   with_reducible rfl
 rotate_left
 · simp only [Act.put, List.setIfInBounds_toArray, List.set_cons_zero, List.set_cons_succ, i64_w, i32_w]
   rfl
 refine pure_ (i := 26) (N := some 39) (v := ?_) (a' := ?_) #[true, true, true, true, true, true, true, true, true, true, true, true, true, true, true, true, true, true, true, true, true, true, true, true, true, true, true] rfl rfl (any_of HT_.out (by kernel_rfl)) (fun _ _ _ h => h) (Or.inl ⟨by rfl, ?_⟩) ?_ ?_
 rotate_left
 · intro w'
   go_simp
   with_reducible rfl
 rotate_left
 · simp only [Act.put, List.setIfInBounds_toArray, List.set_cons_zero, List.set_cons_succ, i64_w, i32_w]
   rfl
 refine done_ (done_of HT_.out (by kernel_rfl)) ?_
 try go_wp2
 go_roundg k1
 case measure => have := HK1.out; omega
 case rel => exact ⟨(ji8), (by first | rfl | (simp; done) | (simp only [← hji8] <;> (first | rfl | (simp; done))) | (simp [*]; done) | (simp_all; done)), H', ⟨by have := HK1.out; omega⟩, ⟨sqB HB.out⟩⟩

/-! ### boarderref10_SameLeases: function 23 -/
def boarderref10_SameLeases.l0 : Nat → List (S23) → List (S23) → Int → Option (Bool)
  | 0, _, _, _ => none
  | k + 1, x0, x1, x5 => if x5 < (x0.length : Int) then (if 0 ≤ x5 then (if x5 < (x1.length : Int) then (if (!(((rd_T23 x0 x5).f0) == ((rd_T23 x1 x5).f0)) || (!(((rd_T23 x0 x5).f1) == ((rd_T23 x1 x5).f1)) || (!(((rd_T23 x0 x5).f2) == ((rd_T23 x1 x5).f2)) || (!((((rd_T23 x0 x5).f3).toList) == (((rd_T23 x1 x5).f3).toList)))))) = true then (some false) else (boarderref10_SameLeases.l0 k x0 x1 (wrap64 (x5 + 1)))) else (none)) else (none)) else (some true)
def boarderref10_SameLeases.f (k : Nat) (l0 : List (S23)) (l1 : List (S23)) : Option (Bool) := if (l0.length : Int) = (l1.length : Int) then (boarderref10_SameLeases.l0 k l0 l1 0) else (some false)
set_option maxHeartbeats 8000000 in
set_option maxRecDepth 100000 in
theorem boarderref10_SameLeases.calls (k : Nat) (A0 : Option Addr) (c0 : Nat) (l0 : List (S23)) (A1 : Option Addr) (c1 : Nat) (l1 : List (S23)) (r : Bool) (w : World) (hr0 : Kd.C k23 w A0 l0.length l0) (hc0 : l0.length ≤ c0) (hr1 : Kd.C k23 w A1 l1.length l1) (hc1 : l1.length ≤ c1) (h : boarderref10_SameLeases.f k l0 l1 = some r) :
    Calls Tryd.prog 23 #[.slice A0 l0.length c0, .slice A1 l1.length c1] w fun e w' => e = .returned (.bool r) ∧ Drawn0 w w' := by
 have hu23 := Tryd.underlying23
 have HR0 := Aside0.mk hr0
 have HC0 := Aside0.mk hc0
 clear hr0 hc0
 have HR1 := Aside0.mk hr1
 have HC1 := Aside0.mk hc1
 clear hr1 hc1
 have H : (if (l0.length : Int) = (l1.length : Int) then (boarderref10_SameLeases.l0 k l0 l1 0) else (some false)) = some r := h
 clear h
 by_cases c3 : (l0.length : Int) = (l1.length : Int)
 rotate_left
 · rw [if_neg c3] at H
   have c3b0 : ((l0.length : Int) == (l1.length : Int)) = false := beq_eq_false_iff_ne.mpr c3
   have c3b1 : ((l0.length : Int) != (l1.length : Int)) = true := bne_iff_ne.mpr c3
   have c3b2 : (l0.length == l1.length) = false := by first | simpa using c3 | (simp at c3 ⊢; omega)
   obtain rfl := Option.some.inj H
   go_enter Tryd.func23, Tryd.ntmps23
   go_wp2
   repeat (go_quiet (fail); try go_wp2)
   go_ret
   exact ⟨sqI, sqD⟩
 rw [if_pos c3] at H
 have c3b0 : ((l0.length : Int) == (l1.length : Int)) = true := beq_iff_eq.mpr c3
 have c3b1 : ((l0.length : Int) != (l1.length : Int)) = false := bne_eq_false_iff_eq.mpr c3
 have c3b2 : (l0.length == l1.length) = true := by first | simpa using c3 | (simp at c3 ⊢; omega)
 clear c3
 have H' := Aside0.mk H
 clear H
 go_enter Tryd.func23, Tryd.ntmps23
 go_wp2
 repeat (go_quiet (fail); try go_wp2)
 go_loopg [5] k (fun kq v5 w' => ∃ (x5_1 : Int), v5 = .int .i64 x5_1 ∧ Aside0 (boarderref10_SameLeases.l0 kq l0 l1 x5_1 = some r) ∧ Aside0 (kq ≤ k) ∧ Drawn0 w w')
 case atStart => exact ⟨(0), sqI, H', ⟨Nat.le_refl _⟩, sqD⟩
 clear H'
 try clear c1
 try clear c2
 try clear p2
 try clear c3
 try clear c3b0
 try clear c3b1
 try clear c3b2
 obtain ⟨x5_1, rfl, HA, HK1, ⟨m1, rfl⟩⟩ := hrel
 cases gk with
 | zero => exact absurd HA.out (by simp [boarderref10_SameLeases.l0])
 | succ k1 => ?_
 have H := HA.out
 clear HA
 simp only [boarderref10_SameLeases.l0] at H
 by_cases c4 : x5_1 < (l0.length : Int)
 rotate_left
 · rw [if_neg c4] at H
   have c4b0 : decide (x5_1 < (l0.length : Int)) = false := decide_eq_false c4
   clear c4
   obtain rfl := Option.some.inj H
   go_wp2
   repeat (go_quiet (fail); try go_wp2)
   go_ret
   exact ⟨sqI, sqD⟩
 rw [if_pos c4] at H
 have c4b0 : decide (x5_1 < (l0.length : Int)) = true := decide_eq_true c4
 clear c4
 by_cases c5 : 0 ≤ x5_1
 rotate_left
 · rw [if_neg c5] at H
   exact absurd H (by simp)
 rw [if_pos c5] at H
 have c5b0 : decide (0 ≤ x5_1) = true := decide_eq_true c5
 clear c5
 by_cases c6 : x5_1 < (l1.length : Int)
 rotate_left
 · rw [if_neg c6] at H
   exact absurd H (by simp)
 rw [if_pos c6] at H
 have c6b0 : decide (x5_1 < (l1.length : Int)) = true := decide_eq_true c6
 clear c6
 by_cases c7 : (!(((rd_T23 l0 x5_1).f0) == ((rd_T23 l1 x5_1).f0)) || (!(((rd_T23 l0 x5_1).f1) == ((rd_T23 l1 x5_1).f1)) || (!(((rd_T23 l0 x5_1).f2) == ((rd_T23 l1 x5_1).f2)) || (!((((rd_T23 l0 x5_1).f3).toList) == (((rd_T23 l1 x5_1).f3).toList)))))) = true
 · rw [if_pos c7] at H
   have c7b0 : (!(((rd_T23 l0 x5_1).f0) == ((rd_T23 l1 x5_1).f0)) || (!(((rd_T23 l0 x5_1).f1) == ((rd_T23 l1 x5_1).f1)) || (!(((rd_T23 l0 x5_1).f2) == ((rd_T23 l1 x5_1).f2)) || (!((((rd_T23 l0 x5_1).f3).toList) == (((rd_T23 l1 x5_1).f3).toList)))))) = true := c7
   clear c7
   obtain rfl := Option.some.inj H
   have p379 : 0 ≤ (x5_1 : Int) := of_decide_eq_true sqH
   have q379 : x5_1 < (l0.length : Int) := of_decide_eq_true sqH
   obtain ⟨ad379, e379, hx379_0, hx379_1, hx379_2, hx379_3⟩ := at_T23 HR0.out x5_1 p379 q379
   cases e379
   replace p379 := eq_true p379
   replace q379 := eq_true q379
   have p380 : 0 ≤ (x5_1 : Int) := of_decide_eq_true sqH
   have q380 : x5_1 < (l1.length : Int) := of_decide_eq_true sqH
   obtain ⟨ad380, e380, hx380_0, hx380_1, hx380_2, hx380_3⟩ := at_T23 HR1.out x5_1 p380 q380
   cases e380
   replace p380 := eq_true p380
   replace q380 := eq_true q380
   go_wp2
   repeat (go_quiet (fail); try go_wp2)
   go_ret
   exact ⟨sqI, sqD⟩
 rw [if_neg c7] at H
 have c7b0 : (!(((rd_T23 l0 x5_1).f0) == ((rd_T23 l1 x5_1).f0)) || (!(((rd_T23 l0 x5_1).f1) == ((rd_T23 l1 x5_1).f1)) || (!(((rd_T23 l0 x5_1).f2) == ((rd_T23 l1 x5_1).f2)) || (!((((rd_T23 l0 x5_1).f3).toList) == (((rd_T23 l1 x5_1).f3).toList)))))) = false := by simpa using c7
 clear c7
 have H' := Aside0.mk H
 clear H
 have p379 : 0 ≤ (x5_1 : Int) := of_decide_eq_true sqH
 have q379 : x5_1 < (l0.length : Int) := of_decide_eq_true sqH
 obtain ⟨ad379, e379, hx379_0, hx379_1, hx379_2, hx379_3⟩ := at_T23 HR0.out x5_1 p379 q379
 cases e379
 replace p379 := eq_true p379
 replace q379 := eq_true q379
 have p380 : 0 ≤ (x5_1 : Int) := of_decide_eq_true sqH
 have q380 : x5_1 < (l1.length : Int) := of_decide_eq_true sqH
 obtain ⟨ad380, e380, hx380_0, hx380_1, hx380_2, hx380_3⟩ := at_T23 HR1.out x5_1 p380 q380
 cases e380
 replace p380 := eq_true p380
 replace q380 := eq_true q380
 go_wp2
 repeat (go_quiet (fail); try go_wp2)
 go_roundg k1
 case measure => have := HK1.out; omega
 case rel => exact ⟨(wrap64 (x5_1 + 1)), sqI, H', ⟨by have := HK1.out; omega⟩, sqD⟩

end Go.Proofs.YtdajdpgnhjlbaaaDoor.PLease
