/- Lean functions for Go functions of the given program, and proofs that the code computes them, each under its theorem's own conditions. Written by a program of this session. -/
import Derived.Test.YtkjmfnijagdhpaaDoorPKeyx0
import Derived.Test.YtkjmfnijagdhpaaDoorPKeyx3
import Derived.Test.YtkjmfnijagdhpaaDoorPKeyx7
namespace Go.Proofs.YtkjmfnijagdhpaaDoor.PKey
open Go.RowKit Go.Proofs.YtkjmfnijagdhpaaDoorW.PrintWords Go.Proofs.YtkjmfnijagdhpaaDoorW.PrintLast Go.Proofs.YtkjmfnijagdhpaaDoorW.PrintMore
attribute [local go_sem] max2_int min2_int max_two min_two max_three min_three max_four min_four   -- for this text's walks alone
set_option linter.unusedVariables false
set_option linter.unusedSimpArgs false

/-! ### boarderref07_value: function 26 -/
def boarderref07_value.f (a0 : Int) : Option (Int) := if a0 ≥ 97 then (some ((a0 - 87) % 256)) else (some ((a0 - 48) % 256))
set_option maxHeartbeats 8000000 in
set_option maxRecDepth 100000 in
theorem boarderref07_value.calls (a0 : Int) (r : Int) (w : World) (h : boarderref07_value.f a0 = some r) :
    Calls Tryd.prog 26 #[.int .u8 a0] w fun e w' => e = .returned (.int .u8 r) ∧ Drawn0 w w' := by
 have H : (if a0 ≥ 97 then (some ((a0 - 87) % 256)) else (some ((a0 - 48) % 256))) = some r := h
 clear h
 by_cases c2 : a0 ≥ 97
 · rw [if_pos c2] at H
   have c2b0 : decide (97 ≤ a0) = true := decide_eq_true c2
   clear c2
   obtain rfl := Option.some.inj H
   go_enter Tryd.func26, Tryd.ntmps26
   go_wp2
   go_ret
   exact ⟨sqI, sqD⟩
 rw [if_neg c2] at H
 have c2b0 : decide (97 ≤ a0) = false := decide_eq_false c2
 clear c2
 obtain rfl := Option.some.inj H
 go_enter Tryd.func26, Tryd.ntmps26
 go_wp2
 go_ret
 exact ⟨sqI, sqD⟩

/-! ### boarderref07_Parse: function 18 -/
mutual
def boarderref07_Parse.j0 : Nat → ByteArray → Bool → Option (ByteArray × Bool)
  | 0, _, _ => none
  | k + 1, x0, x19 => if x19 = true then (some ((⟨#[]⟩ : ByteArray), false)) else (if 0 < (x0.size : Int) then (boarderref07_Parse.l0 k x0 (([bt x0 0] : List Int)) 2) else (none))
def boarderref07_Parse.l0 : Nat → ByteArray → List Int → Int → Option (ByteArray × Bool)
  | 0, _, _, _ => none
  | k + 1, x0, x4, x5 => if x5 < (x0.size : Int) then (if 0 ≤ x5 then ((boarderref07_value.f (bt x0 x5)).bind fun t245 => (if 0 ≤ (wrap64 (x5 + 1)) then (if (wrap64 (x5 + 1)) < (x0.size : Int) then ((boarderref07_value.f (bt x0 (wrap64 (x5 + 1)))).bind fun t246 => (if x4.length < 140737488355328 then (boarderref07_Parse.l0 k x0 (x4 ++ [(((t245 * 16) % 256) + t246) % 256]) (wrap64 (x5 + 2))) else (none))) else (none)) else (none))) else (none)) else ((boarderref07_Right.f (strOfNums x4)).bind fun t250 => (if t250 = true then ((boarderref07_Text.f k (strOfNums x4)).bind fun t251 => (if t251.toList = x0.toList then (some (strOfNums x4, true)) else (some ((⟨#[]⟩ : ByteArray), false)))) else (some ((⟨#[]⟩ : ByteArray), false))))
end
def boarderref07_Parse.f (k : Nat) (a0 : ByteArray) : Option (ByteArray × Bool) := if (a0.size : Int) < 4 then (boarderref07_Parse.j0 k a0 true) else (if (a0.size : Int) > 1000 then (boarderref07_Parse.j0 k a0 true) else (boarderref07_Parse.j0 k a0 (((a0.size : Int) % 2) == 1)))
theorem boarderref07_Parse.mono_l : ∀ k, (∀ y0 y1, LeO (boarderref07_Parse.j0 k y0 y1) (boarderref07_Parse.j0 (k + 1) y0 y1)) ∧ (∀ y0 y1 y2, LeO (boarderref07_Parse.l0 k y0 y1 y2) (boarderref07_Parse.l0 (k + 1) y0 y1 y2))
  | 0 => ⟨fun _ _ r h => by simp [boarderref07_Parse.j0] at h, fun _ _ _ r h => by simp [boarderref07_Parse.l0] at h⟩
  | k + 1 => by
    obtain ⟨ih0, ih1⟩ := boarderref07_Parse.mono_l k
    refine ⟨?_, ?_⟩
    · intro y0 y1
      unfold boarderref07_Parse.j0
      repeat' first
      | (with_reducible exact ih0 _ _)
      | (with_reducible exact ih1 _ _ _)
      | (with_reducible exact boarderref07_Text.mono _ _)
      | (with_reducible exact LeO.refl _)
      | (with_reducible exact LeO.none _)
      | (with_reducible refine LeO.ite ?_ ?_)
      | (with_reducible refine LeO.bind ?_ (fun _ => ?_))
    · intro y0 y1 y2
      unfold boarderref07_Parse.l0
      repeat' first
      | (with_reducible exact ih0 _ _)
      | (with_reducible exact ih1 _ _ _)
      | (with_reducible exact boarderref07_Text.mono _ _)
      | (with_reducible exact LeO.refl _)
      | (with_reducible exact LeO.none _)
      | (with_reducible refine LeO.ite ?_ ?_)
      | (with_reducible refine LeO.bind ?_ (fun _ => ?_))
theorem boarderref07_Parse.mono : ∀ a0 k, LeO (boarderref07_Parse.f k a0) (boarderref07_Parse.f (k + 1) a0) := by
 intro a0 k
 obtain ⟨ih0, ih1⟩ := boarderref07_Parse.mono_l k
 unfold boarderref07_Parse.f
 repeat' first
  | (with_reducible exact ih0 _ _)
  | (with_reducible exact ih1 _ _ _)
  | (with_reducible exact boarderref07_Text.mono _ _)
  | (with_reducible exact LeO.refl _)
  | (with_reducible exact LeO.none _)
  | (with_reducible refine LeO.ite ?_ ?_)
  | (with_reducible refine LeO.bind ?_ (fun _ => ?_))
def boarderref07_Parse.T7 : Bool × List (List Nat × List Nat) := (true, [([], []), ([], []), ([], []), ([1, 2], [1, 2]), ([3], [3]), ([4], [4]), ([], []), ([], []), ([7], [7]), ([6, 8], [6, 8]), ([9, 4], [9]), ([5, 10], [5, 10]), ([11], [11]), ([0, 12, 10], [0, 12]), ([13, 13, 0, 1, 2, 3, 4, 5, 6, 7, 8, 9, 10, 11, 12, 13], [0, 13])])
def boarderref07_Parse.B7 : List Nat := [0, 0, 0, 6, 14, 30, 0, 0, 128, 448, 990, 2046, 4094, 8191, 16383]
theorem boarderref07_Parse.tab7 : rtab .any (opsOf Tryd.f18 7) = boarderref07_Parse.T7 := by kernel_rfl
theorem boarderref07_Parse.bits7 : waitsOk boarderref07_Parse.T7.2 boarderref07_Parse.B7 = true := by kernel_rfl
set_option maxHeartbeats 8000000 in
set_option maxRecDepth 100000 in
theorem boarderref07_Parse.calls (k : Nat) (a0 : ByteArray) (r1 : ByteArray) (r2 : Bool) (w : World) (h : boarderref07_Parse.f k a0 = some (r1, r2)) :
    Calls Tryd.prog 18 #[.string a0] w fun e w' => e = .returned (.tuple #[.string r1, .bool r2]) ∧ Below w.heap.size w w' := by
 have HB := Aside0.mk (Below.refl w.heap.size w)
 have H : (if (a0.size : Int) < 4 then (boarderref07_Parse.j0 k a0 true) else (if (a0.size : Int) > 1000 then (boarderref07_Parse.j0 k a0 true) else (boarderref07_Parse.j0 k a0 (((a0.size : Int) % 2) == 1)))) = some (r1, r2) := h
 clear h
 have HC2 := Aside0.mk H
 clear H
 go_enter Tryd.func18, Tryd.ntmps18
 go_upto_region 1 with (fail)
 go_cut [19] (fun v19 wc => ∃ (kq : Nat) (x19_1 : Bool), v19 = .bool x19_1 ∧ Aside0 (boarderref07_Parse.j0 kq a0 x19_1 = some (r1, r2)) ∧ Aside0 (kq ≤ k) ∧ Aside0 (Below w.heap.size w wc))
 case first =>
  have H := HC2.out
  clear HC2
  by_cases c3 : (a0.size : Int) < 4
  · rw [if_pos c3] at H
    have c3b0 : decide ((a0.size : Int) < 4) = true := decide_eq_true c3
    have c3b1 : decide (a0.size < 4) = true := decide_eq_true (by omega)
    clear c3
    (first | rw [c3b0] | (simp only [i64_w, i32_w]; rw [c3b0]) | skip)
    have H' := Aside0.mk H
    clear H
    go_wp2
    go_meet
    case rel => exact ⟨_, (true), sqI, H', ⟨by first | omega | exact Nat.le_refl _⟩, ⟨sqB HB.out⟩⟩
  rw [if_neg c3] at H
  have c3b0 : decide ((a0.size : Int) < 4) = false := decide_eq_false c3
  have c3b1 : decide (a0.size < 4) = false := decide_eq_false (by omega)
  clear c3
  (first | rw [c3b0] | (simp only [i64_w, i32_w]; rw [c3b0]) | skip)
  by_cases c4 : (a0.size : Int) > 1000
  · rw [if_pos c4] at H
    have c4b0 : decide (1000 < (a0.size : Int)) = true := decide_eq_true c4
    have c4b1 : decide (1000 < a0.size) = true := decide_eq_true (by omega)
    clear c4
    have H' := Aside0.mk H
    clear H
    go_wp2
    go_meet
    case rel => exact ⟨_, (true), sqI, H', ⟨by first | omega | exact Nat.le_refl _⟩, ⟨sqB HB.out⟩⟩
  rw [if_neg c4] at H
  have c4b0 : decide (1000 < (a0.size : Int)) = false := decide_eq_false c4
  have c4b1 : decide (1000 < a0.size) = false := decide_eq_false (by omega)
  clear c4
  have H' := Aside0.mk H
  clear H
  go_wp2
  go_meet
  case rel => exact ⟨_, ((((a0.size : Int) % 2) == 1)), sqI, H', ⟨by first | omega | exact Nat.le_refl _⟩, ⟨sqB HB.out⟩⟩
 clear HC2
 try clear c1
 try clear p2
 try clear c3
 try clear c3b0
 try clear c3b1
 try clear c4
 try clear c4b0
 try clear c4b1
 obtain ⟨kq, x19_1, rfl, HA, HJ1, HB⟩ := hcut
 cases kq with
 | zero => exact absurd HA.out (by simp [boarderref07_Parse.j0])
 | succ kj1 => ?_
 have H := HA.out
 clear HA
 simp only [boarderref07_Parse.j0] at H
 by_cases c5 : x19_1 = true
 · subst c5
   have H1 : (some ((⟨#[]⟩ : ByteArray), false)) = some (r1, r2) := by rw [if_pos rfl] at H; exact H
   clear H
   have H := H1
   clear H1
   simp only [Option.some.injEq, Prod.mk.injEq] at H
   obtain ⟨rfl, rfl⟩ := H
   go_wp2
   go_ret2
   exact ⟨sqE, sqB HB.out⟩
 replace c5 := Bool.eq_false_iff.mpr c5
 subst c5
 have H1 : (if 0 < (a0.size : Int) then (boarderref07_Parse.l0 kj1 a0 (([bt a0 0] : List Int)) 2) else (none)) = some (r1, r2) := by rw [if_neg (show ¬ (false = true) by decide)] at H; exact H
 clear H
 have H := H1
 clear H1
 by_cases c6 : 0 < (a0.size : Int)
 rotate_left
 · rw [if_neg c6] at H
   exact absurd H (by simp)
 rw [if_pos c6] at H
 have c6b0 : decide (0 < (a0.size : Int)) = true := decide_eq_true c6
 have c6b1 : decide (0 < a0.size) = true := decide_eq_true (by omega)
 clear c6
 obtain ⟨y242, hy242⟩ : ∃ y_ : List Int, y_ = (([bt a0 0] : List Int)) := ⟨_, rfl⟩
 replace H : (boarderref07_Parse.l0 kj1 a0 y242 2) = some (r1, r2) := by first | (rw [hy242]; with_reducible exact H) | (have H2_ := (Option.bind_some _ _).symm.trans H; rw [hy242]; with_reducible exact H2_) | (have H2_ := (Option.bind_some _ _).symm.trans H; with_reducible exact H2_) | with_reducible exact H | (rw [hy242]; exact H) | exact H
 have Ny242 := Aside0.mk hy242
 clear hy242
 have H' := Aside0.mk H
 clear H
 have p7 : 0 ≤ (0 : Int) := (by omega)
 have q7 : 0 < a0.size := (by have : (0 : Int) < (a0.size : Int) := of_decide_eq_true sqH; omega)
 have hx7 : ∀ h : 0 < a0.size, ((a0[0]'h).toNat : Int) = bt a0 0 := bt_at a0 0
 clear p7
 have qi7 : (0 < (a0.size : Int)) = True := eq_true (of_decide_eq_true sqH)
 replace q7 := eq_true q7
 go_wp2_with (first | ((with_reducible refine gate_dst (N := 22) rfl ?_); (try (refine gate_guard (by rfl) ?_; dsimp only)); refine Kd.R_lit (Kd.int .u8) _ 5 ?hg (N := 22) ?hd (xs := ([bt a0 0] : List Int)) (inner := [.int .u8 (bt a0 0)]) (ok := fun _ => True) (okp := fun _ => True) ?hr ?hp (fun _ hk => hk) trivial (Below.refl _ _) (Nat.le_refl _) (by simp) ?_; (case hd => rfl); (case hg => rfl); (case hr => first | (go_simp; done) | (go_simp; rfl)); (case hp => exact (Reps.one (show Kd.M (Kd.int .u8) _ _ _ (bt a0 0) [.int .u8 (bt a0 0)] from rfl) (Reps.none _ _))); intro v243 w8 ho9 hb hg_ hnew_; clear hg_ hnew_; (first | rw [← Ny242.out] at ho9 | (simp only [Int.reduceToNat] at ho9; rw [← Ny242.out] at ho9)); have HO244 := sqM (Kd.R_lower ho9 (below_size (sqB HB.out))); replace HB := sqM (below_step (sqB HB.out) hb); clear hb ho9))
 go_loopg [4, 5] kj1 (fun kq v4 v5 w' => ∃ (x4_2 : List Int) (x5_2 : Int), v5 = .int .i64 x5_2 ∧ Aside0 (boarderref07_Parse.l0 kq a0 x4_2 x5_2 = some (r1, r2)) ∧ Aside0 (kq ≤ kj1) ∧ Aside0 (Kd.R (Kd.int .u8) 5 w' w.heap.size (fun _ => True) v4 x4_2) ∧ Aside0 (Below w.heap.size w w'))
 case atStart => exact ⟨(y242), (2), sqI, H', ⟨Nat.le_refl _⟩, ⟨sqR HO244.out⟩, ⟨sqB HB.out⟩⟩
 clear H'
 try clear c1
 try clear p2
 try clear c3
 try clear c3b0
 try clear c3b1
 try clear c4
 try clear c4b0
 try clear c4b1
 try clear c5
 try clear c6
 try clear c6b0
 try clear c6b1
 try clear p7
 try clear q7
 try clear hx7
 try clear qi7
 try clear p2
 try clear p7
 try clear q7
 obtain ⟨x4_2, x5_2, rfl, HA, HK2, HO_4, HB⟩ := hrel
 cases gk with
 | zero => exact absurd HA.out (by simp [boarderref07_Parse.l0])
 | succ k2 => ?_
 have H := HA.out
 clear HA
 simp only [boarderref07_Parse.l0] at H
 by_cases c10 : x5_2 < (a0.size : Int)
 rotate_left
 · rw [if_neg c10] at H
   have c10b0 : decide (x5_2 < (a0.size : Int)) = false := decide_eq_false c10
   clear c10
   replace H := Option.bind_eq_some_iff.mp H
   obtain ⟨t250, A220, H⟩ := H
   replace H : (if t250 = true then ((boarderref07_Text.f k2 (strOfNums x4_2)).bind fun t251 => (if t251.toList = a0.toList then (some (strOfNums x4_2, true)) else (some ((⟨#[]⟩ : ByteArray), false)))) else (some ((⟨#[]⟩ : ByteArray), false))) = some (r1, r2) := H
   have A22 := Aside0.mk A220
   clear A220
   by_cases c23 : t250 = true
   rotate_left
   · replace c23 := Bool.eq_false_iff.mpr c23
     subst c23
     have H1 : (some ((⟨#[]⟩ : ByteArray), false)) = some (r1, r2) := by rw [if_neg (show ¬ (false = true) by decide)] at H; exact H
     clear H
     have H := H1
     clear H1
     simp only [Option.some.injEq, Prod.mk.injEq] at H
     obtain ⟨rfl, rfl⟩ := H
     have hcv38 := own_string (P := Tryd.prog) Tryd.underlying22 Tryd.underlying5 Tryd.underlying9 (Kd.own_of_R HO_4.out)
     have hcw39 := fun n_ => own_string (P := Tryd.prog) Tryd.underlying22 Tryd.underlying5 Tryd.underlying9 (Kd.own_of_R (Kd.R_drewN HO_4.out n_))
     go_wp2_with (first | ((with_reducible refine gate_callee (f := 15) rfl ?_); refine goesL_ (some 45) rfl rfl Tryd.func15 (by kernel_rfl) rfl #[.string (strOfNums x4_2)] rfl sqA ?_; (with_reducible refine (boarderref07_Right.calls _ _ _ A22.out).mono ?_); rintro e w' ⟨rfl, ⟨nd, rfl⟩⟩; refine ⟨_, rfl, ?_⟩))
     go_ret2
     exact ⟨sqE, sqB HB.out⟩
   subst c23
   have H1 : ((boarderref07_Text.f k2 (strOfNums x4_2)).bind fun t251 => (if t251.toList = a0.toList then (some (strOfNums x4_2, true)) else (some ((⟨#[]⟩ : ByteArray), false)))) = some (r1, r2) := by rw [if_pos rfl] at H; exact H
   clear H
   have H := H1
   clear H1
   replace H := Option.bind_eq_some_iff.mp H
   obtain ⟨t251, A240, H⟩ := H
   replace H : (if t251.toList = a0.toList then (some (strOfNums x4_2, true)) else (some ((⟨#[]⟩ : ByteArray), false))) = some (r1, r2) := H
   have A24 := Aside0.mk A240
   clear A240
   by_cases c25 : t251.toList = a0.toList
   rotate_left
   · rw [if_neg c25] at H
     have c25b0 : (t251.toList == a0.toList) = false := beq_eq_false_iff_ne.mpr c25
     have c25b1 : (t251.toList != a0.toList) = true := bne_iff_ne.mpr c25
     simp only [Option.some.injEq, Prod.mk.injEq] at H
     obtain ⟨rfl, rfl⟩ := H
     have hcv33 := own_string (P := Tryd.prog) Tryd.underlying22 Tryd.underlying5 Tryd.underlying9 (Kd.own_of_R HO_4.out)
     have hcw34 := fun n_ => own_string (P := Tryd.prog) Tryd.underlying22 Tryd.underlying5 Tryd.underlying9 (Kd.own_of_R (Kd.R_drewN HO_4.out n_))
     go_wp2_with (first | ((with_reducible refine gate_callee (f := 15) rfl ?_); refine goesL_ (some 45) rfl rfl Tryd.func15 (by kernel_rfl) rfl #[.string (strOfNums x4_2)] rfl sqA ?_; (with_reducible refine (boarderref07_Right.calls _ _ _ A22.out).mono ?_); rintro e w' ⟨rfl, ⟨nd, rfl⟩⟩; refine ⟨_, rfl, ?_⟩; have hcv35 := own_string (P := Tryd.prog) Tryd.underlying22 Tryd.underlying5 Tryd.underlying9 (Kd.own_of_R HO_4.out); have hcw36 := fun n_ => own_string (P := Tryd.prog) Tryd.underlying22 Tryd.underlying5 Tryd.underlying9 (Kd.own_of_R (Kd.R_drewN HO_4.out n_))) | (go_at_call 16; (with_reducible refine (boarderref07_Text.calls _ _ _ _ A24.out).mono ?_); rintro e w37 ⟨rfl, hb⟩; replace HO_4 := sqM (Kd.R_below (sqR HO_4.out) hb); replace HB := sqM (below_step (sqB HB.out) hb); (try clear hb); (try clear hb2); (try clear hk); (try clear hi)))
     go_ret2
     exact ⟨sqE, sqB HB.out⟩
   rw [if_pos c25] at H
   have c25b0 : (t251.toList == a0.toList) = true := beq_iff_eq.mpr c25
   have c25b1 : (t251.toList != a0.toList) = false := bne_eq_false_iff_eq.mpr c25
   clear c25
   simp only [Option.some.injEq, Prod.mk.injEq] at H
   obtain ⟨rfl, rfl⟩ := H
   have hcv26 := own_string (P := Tryd.prog) Tryd.underlying22 Tryd.underlying5 Tryd.underlying9 (Kd.own_of_R HO_4.out)
   have hcw27 := fun n_ => own_string (P := Tryd.prog) Tryd.underlying22 Tryd.underlying5 Tryd.underlying9 (Kd.own_of_R (Kd.R_drewN HO_4.out n_))
   go_wp2_with (first | ((with_reducible refine gate_callee (f := 15) rfl ?_); refine goesL_ (some 45) rfl rfl Tryd.func15 (by kernel_rfl) rfl #[.string (strOfNums x4_2)] rfl sqA ?_; (with_reducible refine (boarderref07_Right.calls _ _ _ A22.out).mono ?_); rintro e w' ⟨rfl, ⟨nd, rfl⟩⟩; refine ⟨_, rfl, ?_⟩; have hcv28 := own_string (P := Tryd.prog) Tryd.underlying22 Tryd.underlying5 Tryd.underlying9 (Kd.own_of_R HO_4.out); have hcw29 := fun n_ => own_string (P := Tryd.prog) Tryd.underlying22 Tryd.underlying5 Tryd.underlying9 (Kd.own_of_R (Kd.R_drewN HO_4.out n_))) | (go_at_call 16; (with_reducible refine (boarderref07_Text.calls _ _ _ _ A24.out).mono ?_); rintro e w30 ⟨rfl, hb⟩; replace HO_4 := sqM (Kd.R_below (sqR HO_4.out) hb); replace HB := sqM (below_step (sqB HB.out) hb); (try clear hb); (try clear hb2); (try clear hk); (try clear hi); have hcv31 := own_string (P := Tryd.prog) Tryd.underlying22 Tryd.underlying5 Tryd.underlying9 (Kd.own_of_R HO_4.out); have hcw32 := fun n_ => own_string (P := Tryd.prog) Tryd.underlying22 Tryd.underlying5 Tryd.underlying9 (Kd.own_of_R (Kd.R_drewN HO_4.out n_))))
   go_ret2
   exact ⟨sqE, sqB HB.out⟩
 rw [if_pos c10] at H
 have c10b0 : decide (x5_2 < (a0.size : Int)) = true := decide_eq_true c10
 clear c10
 by_cases c11 : 0 ≤ x5_2
 rotate_left
 · rw [if_neg c11] at H
   exact absurd H (by simp)
 rw [if_pos c11] at H
 have c11b0 : decide (0 ≤ x5_2) = true := decide_eq_true c11
 clear c11
 replace H := Option.bind_eq_some_iff.mp H
 obtain ⟨t245, A130, H⟩ := H
 replace H : (if 0 ≤ (wrap64 (x5_2 + 1)) then (if (wrap64 (x5_2 + 1)) < (a0.size : Int) then ((boarderref07_value.f (bt a0 (wrap64 (x5_2 + 1)))).bind fun t246 => (if x4_2.length < 140737488355328 then (boarderref07_Parse.l0 k2 a0 (x4_2 ++ [(((t245 * 16) % 256) + t246) % 256]) (wrap64 (x5_2 + 2))) else (none))) else (none)) else (none)) = some (r1, r2) := H
 have A13 := Aside0.mk A130
 clear A130
 obtain ⟨ji14, hji14⟩ : ∃ j_ : Int, (wrap64 (x5_2 + 1)) = j_ := ⟨_, rfl⟩
 replace H : (if 0 ≤ (ji14) then (if (ji14) < (a0.size : Int) then ((boarderref07_value.f (bt a0 (ji14))).bind fun t246 => (if x4_2.length < 140737488355328 then (boarderref07_Parse.l0 k2 a0 (x4_2 ++ [(((t245 * 16) % 256) + t246) % 256]) (wrap64 (x5_2 + 2))) else (none))) else (none)) else (none)) = some (r1, r2) := by first | (rw [hji14] at H; exact H) | (simp only [hji14] at H ⊢; exact H)
 (try rw [hji14] at A13)
 have hji14w : (IntKind.i64.wrap (x5_2 + 1)) = ji14 := (i64_w _).trans hji14
 by_cases c15 : 0 ≤ (ji14)
 rotate_left
 · rw [if_neg c15] at H
   exact absurd H (by simp)
 rw [if_pos c15] at H
 have c15b0 : decide (0 ≤ (ji14)) = true := decide_eq_true c15
 clear c15
 by_cases c16 : (ji14) < (a0.size : Int)
 rotate_left
 · rw [if_neg c16] at H
   exact absurd H (by simp)
 rw [if_pos c16] at H
 have c16b0 : decide ((ji14) < (a0.size : Int)) = true := decide_eq_true c16
 clear c16
 replace H := Option.bind_eq_some_iff.mp H
 obtain ⟨t246, A180, H⟩ := H
 replace H : (if x4_2.length < 140737488355328 then (boarderref07_Parse.l0 k2 a0 (x4_2 ++ [(((t245 * 16) % 256) + t246) % 256]) (wrap64 (x5_2 + 2))) else (none)) = some (r1, r2) := H
 have A18 := Aside0.mk A180
 clear A180
 by_cases c19 : x4_2.length < 140737488355328
 rotate_left
 · rw [if_neg c19] at H
   exact absurd H (by simp)
 rw [if_pos c19] at H
 have LMc19 := Aside0.mk c19
 clear c19
 obtain ⟨y247, hy247⟩ : ∃ y_ : List Int, y_ = (x4_2 ++ [(((t245 * 16) % 256) + t246) % 256]) := ⟨_, rfl⟩
 replace H : (boarderref07_Parse.l0 k2 a0 y247 (wrap64 (x5_2 + 2))) = some (r1, r2) := by first | (rw [hy247]; with_reducible exact H) | (have H2_ := (Option.bind_some _ _).symm.trans H; rw [hy247]; with_reducible exact H2_) | (have H2_ := (Option.bind_some _ _).symm.trans H; with_reducible exact H2_) | with_reducible exact H | (rw [hy247]; exact H) | exact H
 have Ny247 := Aside0.mk hy247
 clear hy247
 have H' := Aside0.mk H
 clear H
 try go_wp2
 replace HO_4 := sqM (Kd.R_drew HO_4.out)
 replace HB := sqM (below_drew1 HB.out)
 have p12 : 0 ≤ (x5_2 : Int) := of_decide_eq_true sqH
 have q12 : x5_2 < (a0.size : Int) := of_decide_eq_true sqH
 have hx12 := bt_at a0 x5_2
 replace p12 := eq_true p12
 replace q12 := eq_true q12
 have p17 : 0 ≤ ((ji14) : Int) := of_decide_eq_true sqH
 have q17 : (ji14) < (a0.size : Int) := of_decide_eq_true sqH
 have hx17 := bt_at a0 (ji14)
 replace p17 := eq_true p17
 replace q17 := eq_true q17
 refine start_ (n := 15) (S := fun w' => True) (ds := []) #[false, false, false, false, false, false, false, false, false, false, false, false, false, false, false] (by kernel_rfl) rfl rfl trivial (fun hHeld => ?_); refine with_tabW boarderref07_Parse.tab7 boarderref07_Parse.bits7 (fun HT_ HW_ => ?_)
 generalize wr.drew = w20 at HO_4 HB hHeld ⊢
 refine pure_ (i := 0) (N := some 29) (v := ?_) (a' := ?_) #[true, false, false, false, false, false, false, false, false, false, false, false, false, false, false] rfl rfl (any_of HT_.out (by kernel_rfl)) (fun _ _ _ h => h) (Or.inl ⟨by rfl, ?_⟩) ?_ ?_
 rotate_left
 · intro w'
   go_simp
   with_reducible rfl
 rotate_left
 · simp only [Act.put, List.setIfInBounds_toArray, List.set_cons_zero, List.set_cons_succ, i64_w, i32_w]
   rfl
 refine pure_ (i := 1) (N := some 30) (v := ?_) (a' := ?_) #[true, true, false, false, false, false, false, false, false, false, false, false, false, false, false] rfl rfl (any_of HT_.out (by kernel_rfl)) (fun _ _ _ h => h) (Or.inl ⟨by rfl, ?_⟩) ?_ ?_
 rotate_left
 · intro w'
   go_simp
   with_reducible rfl
 rotate_left
 · simp only [Act.put, List.setIfInBounds_toArray, List.set_cons_zero, List.set_cons_succ, i64_w, i32_w]
   rfl
 refine pure_ (i := 2) (N := some 31) (v := ?_) (a' := ?_) #[true, true, true, false, false, false, false, false, false, false, false, false, false, false, false] rfl rfl (any_of HT_.out (by kernel_rfl)) (fun _ _ _ h => h) (Or.inl ⟨by rfl, ?_⟩) ?_ ?_
 rotate_left
 · intro w'
   go_simp
   with_reducible rfl
 rotate_left
 · simp only [Act.put, List.setIfInBounds_toArray, List.set_cons_zero, List.set_cons_succ, i64_w, i32_w]
   rfl
 refine pure_ (i := 6) (N := some 35) (v := ?_) (a' := ?_) #[true, true, true, false, false, false, true, false, false, false, false, false, false, false, false] rfl rfl (any_of HT_.out (by kernel_rfl)) (fun _ _ _ h => h) (Or.inl ⟨by rfl, ?_⟩) ?_ ?_
 rotate_left
 · intro w'
   go_simp
   with_reducible rfl
 rotate_left
 · simp only [Act.put, List.setIfInBounds_toArray, List.set_cons_zero, List.set_cons_succ, i64_w, i32_w]
   rfl
 refine pure_ (i := 7) (N := some 36) (v := ?_) (a' := ?_) #[true, true, true, false, false, false, true, true, false, false, false, false, false, false, false] rfl rfl (any_of HT_.out (by kernel_rfl)) (fun _ _ _ h => h) (Or.inl ⟨by rfl, ?_⟩) ?_ ?_
 rotate_left
 · intro w'
   go_simp
   with_reducible rfl
 rotate_left
 · simp only [Act.put, List.setIfInBounds_toArray, List.set_cons_zero, List.set_cons_succ, i64_w, i32_w]
   rfl
 refine pure_ (i := 8) (N := some 37) (v := ?_) (a' := ?_) #[true, true, true, false, false, false, true, true, true, false, false, false, false, false, false] rfl rfl (any_of HT_.out (by kernel_rfl)) (fun _ _ _ h => h) (Or.inl ⟨by rfl, ?_⟩) ?_ ?_
 rotate_left
 · intro w'
   go_simp
   with_reducible rfl
 rotate_left
 · simp only [Act.put, List.setIfInBounds_toArray, List.set_cons_zero, List.set_cons_succ, i64_w, i32_w]
   rfl
 refine take_ (i := 3) (N := some 32) (v := ?_) (a' := ?_) #[true, true, true, true, false, false, true, true, true, false, false, false, false, false, false] rfl rfl (take_ofW HT_.out HW_.out (by kernel_rfl)) (fun _ _ _ h => h) (Or.inl ⟨by rfl, ?_⟩) hHeld ?_ ?_
 rotate_left
 · intro w' _
   go_simp
   with_reducible rfl
 rotate_left
 · simp only [Act.put, List.setIfInBounds_toArray, List.set_cons_zero, List.set_cons_succ, i64_w, i32_w]
   rfl
 refine take_ (i := 9) (N := some 38) (v := ?_) (a' := ?_) #[true, true, true, true, false, false, true, true, true, true, false, false, false, false, false] rfl rfl (take_ofW HT_.out HW_.out (by kernel_rfl)) (fun _ _ _ h => h) (Or.inl ⟨by rfl, ?_⟩) hHeld ?_ ?_
 rotate_left
 · intro w' _
   go_simp
   with_reducible rfl
 rotate_left
 · simp only [Act.put, List.setIfInBounds_toArray, List.set_cons_zero, List.set_cons_succ, i64_w, i32_w]
   rfl
 refine one_ (i := 4) (N := some 33) #[true, true, true, true, true, false, true, true, true, true, false, false, false, false, false] rfl rfl (one_of HT_.out (by kernel_rfl)) (by decide) (fun K hK => ?_)
 refine goes_ Tryd.func26 (by kernel_rfl) rfl #[.int .u8 (bt a0 x5_2)] (by rfl) rfl rfl sqA ?_
 with_reducible refine (boarderref07_value.calls _ _ _ A13.out).mono ?_
 rintro e w' ⟨rfl, ⟨nd, rfl⟩⟩
 refine ⟨_, rfl, ?_⟩
 refine hK.out _ _ trivial (fun hHeld => ?_)
 clear hK K
 refine norm_ (a' := ?_) ?_ ?_
 rotate_left
 · show Act.put _ (some 33) _ = _
   simp only [Act.put, List.setIfInBounds_toArray, List.set_cons_zero, List.set_cons_succ, i64_w, i32_w]
   rfl
 refine pure_ (i := 5) (N := some 34) (v := ?_) (a' := ?_) #[true, true, true, true, true, true, true, true, true, true, false, false, false, false, false] rfl rfl (any_of HT_.out (by kernel_rfl)) (fun _ _ _ h => h) (Or.inl ⟨by rfl, ?_⟩) ?_ ?_
 rotate_left
 · intro w'
   go_simp
   with_reducible rfl
 rotate_left
 · simp only [Act.put, List.setIfInBounds_toArray, List.set_cons_zero, List.set_cons_succ, i64_w, i32_w]
   rfl
 refine one_ (i := 10) (N := some 39) #[true, true, true, true, true, true, true, true, true, true, true, false, false, false, false] rfl rfl (one_of HT_.out (by kernel_rfl)) (by decide) (fun K hK => ?_)
 refine goes_ Tryd.func26 (by kernel_rfl) rfl #[.int .u8 (bt a0 (ji14))] (by rfl) rfl rfl (by (try simp only [List.map_toArray, List.map_cons, List.map_nil]); first | done | (simp only [hji14]; rfl) | rfl | (simp only [List.length_drop, List.length_take]; rfl)) ?_
 with_reducible refine (boarderref07_value.calls _ _ _ A18.out).mono ?_
 rintro e w' ⟨rfl, ⟨nd, rfl⟩⟩
 refine ⟨_, rfl, ?_⟩
 refine hK.out _ _ trivial (fun hHeld => ?_)
 clear hK K
 refine norm_ (a' := ?_) ?_ ?_
 rotate_left
 · show Act.put _ (some 39) _ = _
   simp only [Act.put, List.setIfInBounds_toArray, List.set_cons_zero, List.set_cons_succ, i64_w, i32_w]
   rfl
 refine pure_ (i := 11) (N := some 40) (v := ?_) (a' := ?_) #[true, true, true, true, true, true, true, true, true, true, true, true, false, false, false] rfl rfl (any_of HT_.out (by kernel_rfl)) (fun _ _ _ h => h) (Or.inl ⟨by rfl, ?_⟩) ?_ ?_
 rotate_left
 · intro w'
   go_simp
   with_reducible rfl
 rotate_left
 · simp only [Act.put, List.setIfInBounds_toArray, List.set_cons_zero, List.set_cons_succ, i64_w, i32_w]
   rfl
 refine one_ (i := 12) (N := some 41) #[true, true, true, true, true, true, true, true, true, true, true, true, true, false, false] rfl rfl (one_of HT_.out (by kernel_rfl)) (by decide) (fun K hK => ?_)
 refine value_ (w1 := ?_) (v := ?_) (by rfl) rfl ?_ ?_
 rotate_left 2
 · go_simp
   constructor
   · rfl
   rfl
 refine hK.out _ _ trivial (fun hHeld => ?_)
 clear hK K
 refine norm_ (a' := ?_) ?_ ?_
 rotate_left
 · show Act.put _ (some 41) _ = _
   simp only [Act.put, List.setIfInBounds_toArray, List.set_cons_zero, List.set_cons_succ, i64_w, i32_w]
   rfl
 refine one_ (i := 13) (N := some 42) #[true, true, true, true, true, true, true, true, true, true, true, true, true, true, false] rfl rfl (one_of HT_.out (by kernel_rfl)) (by decide) (fun K hK => ?_)
 refine Kd.R_append_step (Kd.int .u8) (w0 := w) w.heap.size (by rfl) (.tmp 29) (.tmp 41) 22 5 (.int .u8 0) 1 rfl Tryd.underlying22 info5 rfl (by decide) (by omega) u4 x4_2 ((((t245 * 16) % 256) + t246) % 256) [.int .u8 ((((t245 * 16) % 256) + t246) % 256)] (fun _ => True) (fun _ => False) rfl rfl ?aP (fun _ hk => hk.elim) ?aF ?aO ?aB ?aS ?aL ?_
 (case aP => exact rfl)
 (case aB => exact (sqB HB.out))
 (case aF => exact (fun _ _ => trivial))
 (case aO => exact (sqR HO_4.out))
 (case aS => exact (below_size (sqB HB.out)))
 (case aL => have := LMc19.out; omega)
 intro v248 w21 ho hb hg hat
 rw [← Ny247.out] at ho
 have HO249 := Aside0.mk (ho)
 replace HB := Aside0.mk (hb)
 clear HO_4
 clear ho hb hg hat
 refine hK.out _ _ trivial (fun hHeld => ?_)
 clear hK K
 refine norm_ (a' := ?_) ?_ ?_
 rotate_left
 · show Act.put _ (some 42) _ = _
   simp only [Act.put, List.setIfInBounds_toArray, List.set_cons_zero, List.set_cons_succ, i64_w, i32_w]
   rfl
 refine pure_ (i := 14) (N := some 4) (v := ?_) (a' := ?_) #[true, true, true, true, true, true, true, true, true, true, true, true, true, true, true] rfl rfl (any_of HT_.out (by kernel_rfl)) (fun _ _ _ h => h) (Or.inl ⟨by rfl, ?_⟩) ?_ ?_
 rotate_left
 · intro w'
   go_simp
   with_reducible rfl
 rotate_left
 · simp only [Act.put, List.setIfInBounds_toArray, List.set_cons_zero, List.set_cons_succ, i64_w, i32_w]
   rfl
 refine done_ (done_of HT_.out (by kernel_rfl)) ?_
 try go_wp2
 go_roundg k2
 case measure => have := HJ1.out; have := HK2.out; omega
 case rel => exact ⟨(y247), (wrap64 (x5_2 + 2)), sqI, H', ⟨by have := HJ1.out; have := HK2.out; omega⟩, ⟨sqR HO249.out⟩, ⟨sqB HB.out⟩⟩

/-! ### boarderlaw07_KeyParses: function 5 -/
def boarderlaw07_KeyParses.f (k : Nat) (a0 : ByteArray) : Option (Bool) := if (a0.size : Int) > 1000 then ((boarderlaw07_knows.f k).bind fun t252 => (some t252)) else ((key_Parse.f k a0).bind fun bt253 => ((boarderref07_Parse.f k a0).bind fun bt255 => (if bt253.1.toList = bt255.1.toList then (if ((bt253.2 == 0) == bt255.2) = true then (if bt255.2 = true then ((boarderlaw07_knows.f k).bind fun t257 => (some t257)) else (if bt253.2 = 2 then ((boarderlaw07_knows.f k).bind fun t258 => (some t258)) else (none))) else (none)) else (none))))
theorem boarderlaw07_KeyParses.mono : ∀ a0 k, LeO (boarderlaw07_KeyParses.f k a0) (boarderlaw07_KeyParses.f (k + 1) a0) := by
 intro a0 k
 unfold boarderlaw07_KeyParses.f
 repeat' first
  | (with_reducible exact boarderlaw07_knows.mono _)
  | (with_reducible exact boarderref07_Parse.mono _ _)
  | (with_reducible exact key_Parse.mono _ _)
  | (with_reducible exact LeO.refl _)
  | (with_reducible exact LeO.none _)
  | (with_reducible refine LeO.ite ?_ ?_)
  | (with_reducible refine LeO.bind ?_ (fun _ => ?_))
set_option maxHeartbeats 8000000 in
set_option maxRecDepth 100000 in
theorem boarderlaw07_KeyParses.calls (k : Nat) (a0 : ByteArray) (r : Bool) (w : World) (hT : TabW w) (h : boarderlaw07_KeyParses.f k a0 = some r) :
    Calls Tryd.prog 5 #[.string a0] w fun e w' => e = .returned (.bool r) ∧ Below w.heap.size w w' := by
 have HT := Aside0.mk hT
 clear hT
 have HRT0 := Aside0.mk HT.out.t0
 have HB := Aside0.mk (Below.refl w.heap.size w)
 have H : (if (a0.size : Int) > 1000 then ((boarderlaw07_knows.f k).bind fun t252 => (some t252)) else ((key_Parse.f k a0).bind fun bt253 => ((boarderref07_Parse.f k a0).bind fun bt255 => (if bt253.1.toList = bt255.1.toList then (if ((bt253.2 == 0) == bt255.2) = true then (if bt255.2 = true then ((boarderlaw07_knows.f k).bind fun t257 => (some t257)) else (if bt253.2 = 2 then ((boarderlaw07_knows.f k).bind fun t258 => (some t258)) else (none))) else (none)) else (none))))) = some r := h
 clear h
 by_cases c2 : (a0.size : Int) > 1000
 · rw [if_pos c2] at H
   have c2b0 : decide (1000 < (a0.size : Int)) = true := decide_eq_true c2
   have c2b1 : decide (1000 < a0.size) = true := decide_eq_true (by omega)
   clear c2
   replace H := Option.bind_eq_some_iff.mp H
   obtain ⟨t252, A30, H⟩ := H
   replace H : (some t252) = some r := H
   have A3 := Aside0.mk A30
   clear A30
   obtain rfl := Option.some.inj H
   go_enter Tryd.func5, Tryd.ntmps5
   go_wp2_with (first | ((with_reducible refine gate_callee (f := 9) rfl ?_); refine goesL_ (some 10) rfl rfl Tryd.func9 (by kernel_rfl) rfl #[] rfl sqA ?_; (with_reducible refine (boarderlaw07_knows.calls k  t252 _ ?side1 A3.out).mono ?_); (case side1 => first | exact HT.out | exact TabW.below HT.out (sqB HB.out) | exact TabW.drawn HT.out ⟨_, rfl⟩); rintro e w4 ⟨rfl, hb⟩; refine ⟨_, rfl, ?_⟩; replace HB := sqM (below_step (sqB HB.out) hb); (try clear hb); (try clear hb2); (try clear hk); (try clear hi)))
   go_ret
   exact ⟨sqE, sqB HB.out⟩
 rw [if_neg c2] at H
 have c2b0 : decide (1000 < (a0.size : Int)) = false := decide_eq_false c2
 have c2b1 : decide (1000 < a0.size) = false := decide_eq_false (by omega)
 clear c2
 replace H := Option.bind_eq_some_iff.mp H
 obtain ⟨⟨t253, t254⟩, A50, H⟩ := H
 replace H : ((boarderref07_Parse.f k a0).bind fun bt255 => (if t253.toList = bt255.1.toList then (if ((t254 == 0) == bt255.2) = true then (if bt255.2 = true then ((boarderlaw07_knows.f k).bind fun t257 => (some t257)) else (if t254 = 2 then ((boarderlaw07_knows.f k).bind fun t258 => (some t258)) else (none))) else (none)) else (none))) = some r := H
 have A5 := Aside0.mk A50
 clear A50
 replace H := Option.bind_eq_some_iff.mp H
 obtain ⟨⟨t255, t256⟩, A60, H⟩ := H
 replace H : (if t253.toList = t255.toList then (if ((t254 == 0) == t256) = true then (if t256 = true then ((boarderlaw07_knows.f k).bind fun t257 => (some t257)) else (if t254 = 2 then ((boarderlaw07_knows.f k).bind fun t258 => (some t258)) else (none))) else (none)) else (none)) = some r := H
 have A6 := Aside0.mk A60
 clear A60
 by_cases c7 : t253.toList = t255.toList
 rotate_left
 · rw [if_neg c7] at H
   exact absurd H (by simp)
 rw [if_pos c7] at H
 have c7b0 : (t253.toList == t255.toList) = true := beq_iff_eq.mpr c7
 have c7b1 : (t253.toList != t255.toList) = false := bne_eq_false_iff_eq.mpr c7
 clear c7
 by_cases c8 : ((t254 == 0) == t256) = true
 rotate_left
 · rw [if_neg c8] at H
   exact absurd H (by simp)
 rw [if_pos c8] at H
 have c8b0 : ((t254 == 0) == t256) = true := c8
 (try (have c8b1 : decide ((t254 == 0) = t256) = true := by simpa using c8))
 (try (have c8b2 : ((t254 == 0) == t256) = true := by simpa using c8))
 clear c8
 by_cases c9 : t256 = true
 · subst c9
   have H1 : ((boarderlaw07_knows.f k).bind fun t257 => (some t257)) = some r := by rw [if_pos rfl] at H; exact H
   clear H
   have H := H1
   clear H1
   replace H := Option.bind_eq_some_iff.mp H
   obtain ⟨t257, A100, H⟩ := H
   replace H : (some t257) = some r := H
   have A10 := Aside0.mk A100
   clear A100
   obtain rfl := Option.some.inj H
   go_enter Tryd.func5, Tryd.ntmps5
   go_wp2_with (first | ((with_reducible refine gate_callee (f := 17) rfl ?_); refine goesL_ (some 13) rfl rfl Tryd.func17 (by kernel_rfl) rfl #[.string a0] rfl sqA ?_; (with_reducible refine (key_Parse.calls _ _ _ _ _ ?side1 A5.out).mono ?_); (case side1 => first | exact HT.out | exact TabW.below HT.out (sqB HB.out) | exact TabW.drawn HT.out ⟨_, rfl⟩); rintro e w11 ⟨rfl, hb⟩; refine ⟨_, rfl, ?_⟩; replace HB := sqM (below_step (sqB HB.out) hb); (try clear hb); (try clear hb2); (try clear hk); (try clear hi)) | ((with_reducible refine gate_callee (f := 18) rfl ?_); refine goesL_ (some 18) rfl rfl Tryd.func18 (by kernel_rfl) rfl #[.string a0] rfl sqA ?_; (with_reducible refine (boarderref07_Parse.calls _ _ _ _ _ A6.out).mono ?_); rintro e w12 ⟨rfl, hb⟩; refine ⟨_, rfl, ?_⟩; replace HB := sqM (below_step (sqB HB.out) hb); (try clear hb); (try clear hb2); (try clear hk); (try clear hi)) | (go_at_call 9; (with_reducible refine (boarderlaw07_knows.calls k  t257 _ ?side1 A10.out).mono ?_); (case side1 => first | exact HT.out | exact TabW.below HT.out (sqB HB.out) | exact TabW.drawn HT.out ⟨_, rfl⟩); rintro e w13 ⟨rfl, hb⟩; replace HB := sqM (below_step (sqB HB.out) hb); (try clear hb); (try clear hb2); (try clear hk); (try clear hi)))
   go_ret
   exact ⟨sqE, sqB HB.out⟩
 replace c9 := Bool.eq_false_iff.mpr c9
 subst c9
 have H1 : (if t254 = 2 then ((boarderlaw07_knows.f k).bind fun t258 => (some t258)) else (none)) = some r := by rw [if_neg (show ¬ (false = true) by decide)] at H; exact H
 clear H
 have H := H1
 clear H1
 by_cases c14 : t254 = 2
 rotate_left
 · rw [if_neg c14] at H
   exact absurd H (by simp)
 rw [if_pos c14] at H
 have c14b0 : (t254 == 2) = true := beq_iff_eq.mpr c14
 have c14b1 : (t254 != 2) = false := bne_eq_false_iff_eq.mpr c14
 clear c14
 replace H := Option.bind_eq_some_iff.mp H
 obtain ⟨t258, A150, H⟩ := H
 replace H : (some t258) = some r := H
 have A15 := Aside0.mk A150
 clear A150
 obtain rfl := Option.some.inj H
 go_enter Tryd.func5, Tryd.ntmps5
 go_wp2_with (first | ((with_reducible refine gate_callee (f := 17) rfl ?_); refine goesL_ (some 13) rfl rfl Tryd.func17 (by kernel_rfl) rfl #[.string a0] rfl sqA ?_; (with_reducible refine (key_Parse.calls _ _ _ _ _ ?side1 A5.out).mono ?_); (case side1 => first | exact HT.out | exact TabW.below HT.out (sqB HB.out) | exact TabW.drawn HT.out ⟨_, rfl⟩); rintro e w16 ⟨rfl, hb⟩; refine ⟨_, rfl, ?_⟩; replace HB := sqM (below_step (sqB HB.out) hb); (try clear hb); (try clear hb2); (try clear hk); (try clear hi)) | ((with_reducible refine gate_callee (f := 18) rfl ?_); refine goesL_ (some 18) rfl rfl Tryd.func18 (by kernel_rfl) rfl #[.string a0] rfl sqA ?_; (with_reducible refine (boarderref07_Parse.calls _ _ _ _ _ A6.out).mono ?_); rintro e w17 ⟨rfl, hb⟩; refine ⟨_, rfl, ?_⟩; replace HB := sqM (below_step (sqB HB.out) hb); (try clear hb); (try clear hb2); (try clear hk); (try clear hi)) | (go_at_call 9; (with_reducible refine (boarderlaw07_knows.calls k  t258 _ ?side1 A15.out).mono ?_); (case side1 => first | exact HT.out | exact TabW.below HT.out (sqB HB.out) | exact TabW.drawn HT.out ⟨_, rfl⟩); rintro e w18 ⟨rfl, hb⟩; replace HB := sqM (below_step (sqB HB.out) hb); (try clear hb); (try clear hb2); (try clear hk); (try clear hi)))
 go_ret
 exact ⟨sqE, sqB HB.out⟩

end Go.Proofs.YtkjmfnijagdhpaaDoor.PKey
