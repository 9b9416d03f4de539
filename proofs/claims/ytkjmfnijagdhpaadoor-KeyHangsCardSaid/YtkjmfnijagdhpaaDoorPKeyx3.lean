/- Lean functions for Go functions of the given program, and proofs that the code computes them, each under its theorem's own conditions. Written by a program of this session. -/
import Derived.Test.YtkjmfnijagdhpaaDoorPKeyx0
import Derived.Test.YtkjmfnijagdhpaaDoorPKeyx2
namespace Go.Proofs.YtkjmfnijagdhpaaDoor.PKey
open Go.RowKit Go.Proofs.YtkjmfnijagdhpaaDoorW.PrintWords Go.Proofs.YtkjmfnijagdhpaaDoorW.PrintLast Go.Proofs.YtkjmfnijagdhpaaDoorW.PrintMore
attribute [local go_sem] max2_int min2_int max_two min_two max_three min_three max_four min_four   -- for this text's walks alone
set_option linter.unusedVariables false
set_option linter.unusedSimpArgs false

/-! ### key_Parse: function 17 -/
mutual
def key_Parse.j0 : Nat → ByteArray → Bool → Option (ByteArray × Int)
  | 0, _, _ => none
  | k + 1, x0, x21 => if x21 = true then (some ((⟨#[]⟩ : ByteArray), 2)) else (if 0 < (x0.size : Int) then (key_Parse.l0 k x0 (([bt x0 0] : List Int)) 2) else (none))
def key_Parse.l0 : Nat → ByteArray → List Int → Int → Option (ByteArray × Int)
  | 0, _, _, _ => none
  | k + 1, x0, x4, x5 => if x5 < (x0.size : Int) then (if 0 ≤ x5 then ((key_digit.f (bt x0 x5)).bind fun t167 => (if 0 ≤ (wrap64 (x5 + 1)) then (if (wrap64 (x5 + 1)) < (x0.size : Int) then ((key_digit.f (bt x0 (wrap64 (x5 + 1)))).bind fun t168 => (if t167 = 16 then (some ((⟨#[]⟩ : ByteArray), 2)) else (if t168 = 16 then (some ((⟨#[]⟩ : ByteArray), 2)) else (if x4.length < 140737488355328 then (key_Parse.l0 k x0 (x4 ++ [(wrap64 ((wrap64 (16 * t167)) + t168)) % 256]) (wrap64 (x5 + 2))) else (none))))) else (none)) else (none))) else (none)) else ((key_Right.f (strOfNums x4)).bind fun t166 => (if t166 = true then (some (strOfNums x4, 0)) else (some ((⟨#[]⟩ : ByteArray), 2))))
end
def key_Parse.f (k : Nat) (a0 : ByteArray) : Option (ByteArray × Int) := if (a0.size : Int) < 2 then (key_Parse.j0 k a0 true) else (if 1 < (a0.size : Int) then (if (bt a0 1) = 45 then (key_Parse.j0 k a0 (((a0.size : Int) % 2) != 0)) else (key_Parse.j0 k a0 true)) else (none))
theorem key_Parse.mono_l : ∀ k, (∀ y0 y1, LeO (key_Parse.j0 k y0 y1) (key_Parse.j0 (k + 1) y0 y1)) ∧ (∀ y0 y1 y2, LeO (key_Parse.l0 k y0 y1 y2) (key_Parse.l0 (k + 1) y0 y1 y2))
  | 0 => ⟨fun _ _ r h => by simp [key_Parse.j0] at h, fun _ _ _ r h => by simp [key_Parse.l0] at h⟩
  | k + 1 => by
    obtain ⟨ih0, ih1⟩ := key_Parse.mono_l k
    refine ⟨?_, ?_⟩
    · intro y0 y1
      unfold key_Parse.j0
      repeat' first
      | (with_reducible exact ih0 _ _)
      | (with_reducible exact ih1 _ _ _)
      | (with_reducible exact LeO.refl _)
      | (with_reducible exact LeO.none _)
      | (with_reducible refine LeO.ite ?_ ?_)
      | (with_reducible refine LeO.bind ?_ (fun _ => ?_))
    · intro y0 y1 y2
      unfold key_Parse.l0
      repeat' first
      | (with_reducible exact ih0 _ _)
      | (with_reducible exact ih1 _ _ _)
      | (with_reducible exact LeO.refl _)
      | (with_reducible exact LeO.none _)
      | (with_reducible refine LeO.ite ?_ ?_)
      | (with_reducible refine LeO.bind ?_ (fun _ => ?_))
theorem key_Parse.mono : ∀ a0 k, LeO (key_Parse.f k a0) (key_Parse.f (k + 1) a0) := by
 intro a0 k
 obtain ⟨ih0, ih1⟩ := key_Parse.mono_l k
 unfold key_Parse.f
 repeat' first
  | (with_reducible exact ih0 _ _)
  | (with_reducible exact ih1 _ _ _)
  | (with_reducible exact LeO.refl _)
  | (with_reducible exact LeO.none _)
  | (with_reducible refine LeO.ite ?_ ?_)
  | (with_reducible refine LeO.bind ?_ (fun _ => ?_))
set_option maxHeartbeats 8000000 in
set_option maxRecDepth 100000 in
theorem key_Parse.calls (k : Nat) (a0 : ByteArray) (r1 : ByteArray) (r2 : Int) (w : World) (hT : TabW w) (h : key_Parse.f k a0 = some (r1, r2)) :
    Calls Tryd.prog 17 #[.string a0] w fun e w' => e = .returned (.tuple #[.string r1, .int .i64 r2]) ∧ Below w.heap.size w w' := by
 have HT := Aside0.mk hT
 clear hT
 have HRT0 := Aside0.mk HT.out.t0
 have HB := Aside0.mk (Below.refl w.heap.size w)
 have H : (if (a0.size : Int) < 2 then (key_Parse.j0 k a0 true) else (if 1 < (a0.size : Int) then (if (bt a0 1) = 45 then (key_Parse.j0 k a0 (((a0.size : Int) % 2) != 0)) else (key_Parse.j0 k a0 true)) else (none))) = some (r1, r2) := h
 clear h
 have HC2 := Aside0.mk H
 clear H
 go_enter Tryd.func17, Tryd.ntmps17
 go_upto_region 1 with (fail)
 repeat (go_quiet (fail); go_upto_region 1 with (fail))
 go_cut [21] (fun v21 wc => ∃ (kq : Nat) (x21_1 : Bool), v21 = .bool x21_1 ∧ Aside0 (key_Parse.j0 kq a0 x21_1 = some (r1, r2)) ∧ Aside0 (kq ≤ k) ∧ Aside0 (Below w.heap.size w wc))
 case first =>
  have H := HC2.out
  clear HC2
  by_cases c3 : (a0.size : Int) < 2
  · rw [if_pos c3] at H
    have c3b0 : decide ((a0.size : Int) < 2) = true := decide_eq_true c3
    have c3b1 : decide (a0.size < 2) = true := decide_eq_true (by omega)
    clear c3
    (first | rw [c3b0] | (simp only [i64_w, i32_w]; rw [c3b0]) | skip)
    have H' := Aside0.mk H
    clear H
    go_wp2
    repeat (go_quiet (fail); try go_wp2)
    go_meet
    case rel => exact ⟨_, (true), sqI, H', ⟨by first | omega | exact Nat.le_refl _⟩, ⟨sqB HB.out⟩⟩
  rw [if_neg c3] at H
  have c3b0 : decide ((a0.size : Int) < 2) = false := decide_eq_false c3
  have c3b1 : decide (a0.size < 2) = false := decide_eq_false (by omega)
  clear c3
  (first | rw [c3b0] | (simp only [i64_w, i32_w]; rw [c3b0]) | skip)
  by_cases c4 : 1 < (a0.size : Int)
  rotate_left
  · rw [if_neg c4] at H
    exact absurd H (by simp)
  rw [if_pos c4] at H
  have c4b0 : decide (1 < (a0.size : Int)) = true := decide_eq_true c4
  have c4b1 : decide (1 < a0.size) = true := decide_eq_true (by omega)
  clear c4
  by_cases c6 : (bt a0 1) = 45
  rotate_left
  · rw [if_neg c6] at H
    have c6b0 : ((bt a0 1) == 45) = false := beq_eq_false_iff_ne.mpr c6
    have c6b1 : ((bt a0 1) != 45) = true := bne_iff_ne.mpr c6
    have H' := Aside0.mk H
    clear H
    have p5 : 0 ≤ (1 : Int) := (by omega)
    have q5 : 1 < a0.size := (by have : (1 : Int) < (a0.size : Int) := of_decide_eq_true sqH; omega)
    have hx5 : ∀ h : 1 < a0.size, ((a0[1]'h).toNat : Int) = bt a0 1 := bt_at a0 1
    clear p5
    have qi5 : (1 < (a0.size : Int)) = True := eq_true (of_decide_eq_true sqH)
    replace q5 := eq_true q5
    go_wp2
    repeat (go_quiet (fail); try go_wp2)
    go_meet
    case rel => exact ⟨_, (true), sqI, H', ⟨by first | omega | exact Nat.le_refl _⟩, ⟨sqB HB.out⟩⟩
  rw [if_pos c6] at H
  have c6b0 : ((bt a0 1) == 45) = true := beq_iff_eq.mpr c6
  have c6b1 : ((bt a0 1) != 45) = false := bne_eq_false_iff_eq.mpr c6
  clear c6
  have H' := Aside0.mk H
  clear H
  have p5 : 0 ≤ (1 : Int) := (by omega)
  have q5 : 1 < a0.size := (by have : (1 : Int) < (a0.size : Int) := of_decide_eq_true sqH; omega)
  have hx5 : ∀ h : 1 < a0.size, ((a0[1]'h).toNat : Int) = bt a0 1 := bt_at a0 1
  clear p5
  have qi5 : (1 < (a0.size : Int)) = True := eq_true (of_decide_eq_true sqH)
  replace q5 := eq_true q5
  go_wp2
  repeat (go_quiet (fail); try go_wp2)
  go_meet
  case rel => exact ⟨_, ((((a0.size : Int) % 2) != 0)), sqI, H', ⟨by first | omega | exact Nat.le_refl _⟩, ⟨sqB HB.out⟩⟩
 clear HC2
 try clear c1
 try clear p2
 try clear c3
 try clear c3b0
 try clear c3b1
 try clear c4
 try clear c4b0
 try clear c4b1
 try clear p5
 try clear q5
 try clear hx5
 try clear qi5
 try clear c6
 try clear c6b0
 try clear c6b1
 try clear p5
 try clear q5
 obtain ⟨kq, x21_1, rfl, HA, HJ1, HB⟩ := hcut
 cases kq with
 | zero => exact absurd HA.out (by simp [key_Parse.j0])
 | succ kj1 => ?_
 have H := HA.out
 clear HA
 simp only [key_Parse.j0] at H
 by_cases c7 : x21_1 = true
 · subst c7
   have H1 : (some ((⟨#[]⟩ : ByteArray), 2)) = some (r1, r2) := by rw [if_pos rfl] at H; exact H
   clear H
   have H := H1
   clear H1
   simp only [Option.some.injEq, Prod.mk.injEq] at H
   obtain ⟨rfl, rfl⟩ := H
   go_wp2
   repeat (go_quiet (fail); try go_wp2)
   go_ret2
   exact ⟨sqE, sqB HB.out⟩
 replace c7 := Bool.eq_false_iff.mpr c7
 subst c7
 have H1 : (if 0 < (a0.size : Int) then (key_Parse.l0 kj1 a0 (([bt a0 0] : List Int)) 2) else (none)) = some (r1, r2) := by rw [if_neg (show ¬ (false = true) by decide)] at H; exact H
 clear H
 have H := H1
 clear H1
 by_cases c8 : 0 < (a0.size : Int)
 rotate_left
 · rw [if_neg c8] at H
   exact absurd H (by simp)
 rw [if_pos c8] at H
 have c8b0 : decide (0 < (a0.size : Int)) = true := decide_eq_true c8
 have c8b1 : decide (0 < a0.size) = true := decide_eq_true (by omega)
 clear c8
 obtain ⟨y163, hy163⟩ : ∃ y_ : List Int, y_ = (([bt a0 0] : List Int)) := ⟨_, rfl⟩
 replace H : (key_Parse.l0 kj1 a0 y163 2) = some (r1, r2) := by first | (rw [hy163]; with_reducible exact H) | (have H2_ := (Option.bind_some _ _).symm.trans H; rw [hy163]; with_reducible exact H2_) | (have H2_ := (Option.bind_some _ _).symm.trans H; with_reducible exact H2_) | with_reducible exact H | (rw [hy163]; exact H) | exact H
 have Ny163 := Aside0.mk hy163
 clear hy163
 have H' := Aside0.mk H
 clear H
 have p9 : 0 ≤ (0 : Int) := (by omega)
 have q9 : 0 < a0.size := (by have : (0 : Int) < (a0.size : Int) := of_decide_eq_true sqH; omega)
 have hx9 : ∀ h : 0 < a0.size, ((a0[0]'h).toNat : Int) = bt a0 0 := bt_at a0 0
 clear p9
 have qi9 : (0 < (a0.size : Int)) = True := eq_true (of_decide_eq_true sqH)
 replace q9 := eq_true q9
 go_wp2_with (first | ((with_reducible refine gate_dst (N := 24) rfl ?_); (try (refine gate_guard (by rfl) ?_; dsimp only)); refine Kd.R_lit (Kd.int .u8) _ 5 ?hg (N := 24) ?hd (xs := ([bt a0 0] : List Int)) (inner := [.int .u8 (bt a0 0)]) (ok := fun _ => True) (okp := fun _ => True) ?hr ?hp (fun _ hk => hk) trivial (Below.refl _ _) (Nat.le_refl _) (by simp) ?_; (case hd => rfl); (case hg => rfl); (case hr => first | (go_simp; done) | (go_simp; rfl)); (case hp => exact (Reps.one (show Kd.M (Kd.int .u8) _ _ _ (bt a0 0) [.int .u8 (bt a0 0)] from rfl) (Reps.none _ _))); intro v164 w10 ho11 hb hg_ hnew_; clear hg_ hnew_; (first | rw [← Ny163.out] at ho11 | (simp only [Int.reduceToNat] at ho11; rw [← Ny163.out] at ho11)); have HO165 := sqM (Kd.R_lower ho11 (below_size (sqB HB.out))); replace HB := sqM (below_step (sqB HB.out) hb); clear hb ho11))
 repeat (go_quiet (first | ((with_reducible refine gate_dst (N := 24) rfl ?_); (try (refine gate_guard (by rfl) ?_; dsimp only)); refine Kd.R_lit (Kd.int .u8) _ 5 ?hg (N := 24) ?hd (xs := ([bt a0 0] : List Int)) (inner := [.int .u8 (bt a0 0)]) (ok := fun _ => True) (okp := fun _ => True) ?hr ?hp (fun _ hk => hk) trivial (Below.refl _ _) (Nat.le_refl _) (by simp) ?_; (case hd => rfl); (case hg => rfl); (case hr => first | (go_simp; done) | (go_simp; rfl)); (case hp => exact (Reps.one (show Kd.M (Kd.int .u8) _ _ _ (bt a0 0) [.int .u8 (bt a0 0)] from rfl) (Reps.none _ _))); intro v164 w10 ho11 hb hg_ hnew_; clear hg_ hnew_; (first | rw [← Ny163.out] at ho11 | (simp only [Int.reduceToNat] at ho11; rw [← Ny163.out] at ho11)); have HO165 := sqM (Kd.R_lower ho11 (below_size (sqB HB.out))); replace HB := sqM (below_step (sqB HB.out) hb); clear hb ho11)); try go_wp2_with (first | ((with_reducible refine gate_dst (N := 24) rfl ?_); (try (refine gate_guard (by rfl) ?_; dsimp only)); refine Kd.R_lit (Kd.int .u8) _ 5 ?hg (N := 24) ?hd (xs := ([bt a0 0] : List Int)) (inner := [.int .u8 (bt a0 0)]) (ok := fun _ => True) (okp := fun _ => True) ?hr ?hp (fun _ hk => hk) trivial (Below.refl _ _) (Nat.le_refl _) (by simp) ?_; (case hd => rfl); (case hg => rfl); (case hr => first | (go_simp; done) | (go_simp; rfl)); (case hp => exact (Reps.one (show Kd.M (Kd.int .u8) _ _ _ (bt a0 0) [.int .u8 (bt a0 0)] from rfl) (Reps.none _ _))); intro v164 w10 ho11 hb hg_ hnew_; clear hg_ hnew_; (first | rw [← Ny163.out] at ho11 | (simp only [Int.reduceToNat] at ho11; rw [← Ny163.out] at ho11)); have HO165 := sqM (Kd.R_lower ho11 (below_size (sqB HB.out))); replace HB := sqM (below_step (sqB HB.out) hb); clear hb ho11)))
 go_loopg [4, 5] kj1 (fun kq v4 v5 w' => ∃ (x4_2 : List Int) (x5_2 : Int), v5 = .int .i64 x5_2 ∧ Aside0 (key_Parse.l0 kq a0 x4_2 x5_2 = some (r1, r2)) ∧ Aside0 (kq ≤ kj1) ∧ Aside0 (Kd.R (Kd.int .u8) 5 w' w.heap.size (fun _ => True) v4 x4_2) ∧ Aside0 (Below w.heap.size w w'))
 case atStart => exact ⟨(y163), (2), sqI, H', ⟨Nat.le_refl _⟩, ⟨sqR HO165.out⟩, ⟨sqB HB.out⟩⟩
 clear H'
 try clear c1
 try clear p2
 try clear c3
 try clear c3b0
 try clear c3b1
 try clear c4
 try clear c4b0
 try clear c4b1
 try clear p5
 try clear q5
 try clear hx5
 try clear qi5
 try clear c6
 try clear c6b0
 try clear c6b1
 try clear c7
 try clear c8
 try clear c8b0
 try clear c8b1
 try clear p9
 try clear q9
 try clear hx9
 try clear qi9
 try clear p2
 try clear p5
 try clear p9
 try clear q5
 try clear q9
 obtain ⟨x4_2, x5_2, rfl, HA, HK2, HO_4, HB⟩ := hrel
 cases gk with
 | zero => exact absurd HA.out (by simp [key_Parse.l0])
 | succ k2 => ?_
 have H := HA.out
 clear HA
 simp only [key_Parse.l0] at H
 by_cases c12 : x5_2 < (a0.size : Int)
 rotate_left
 · rw [if_neg c12] at H
   have c12b0 : decide (x5_2 < (a0.size : Int)) = false := decide_eq_false c12
   clear c12
   replace H := Option.bind_eq_some_iff.mp H
   obtain ⟨t166, A250, H⟩ := H
   replace H : (if t166 = true then (some (strOfNums x4_2, 0)) else (some ((⟨#[]⟩ : ByteArray), 2))) = some (r1, r2) := H
   have A25 := Aside0.mk A250
   clear A250
   by_cases c26 : t166 = true
   · subst c26
     have H1 : (some (strOfNums x4_2, 0)) = some (r1, r2) := by rw [if_pos rfl] at H; exact H
     clear H
     have H := H1
     clear H1
     simp only [Option.some.injEq, Prod.mk.injEq] at H
     obtain ⟨rfl, rfl⟩ := H
     have hcv27 := own_string (P := Tryd.prog) Tryd.underlying22 Tryd.underlying5 Tryd.underlying9 (Kd.own_of_R HO_4.out)
     have hcw28 := fun n_ => own_string (P := Tryd.prog) Tryd.underlying22 Tryd.underlying5 Tryd.underlying9 (Kd.own_of_R (Kd.R_drewN HO_4.out n_))
     go_wp2_with (first | (go_at_call 13; (with_reducible refine (key_Right.calls _ _ _ A25.out).mono ?_); rintro e w' ⟨rfl, ⟨nd, rfl⟩⟩; (try first | exact ⟨rfl, _, World.drewN_drewN _ _ _⟩ | exact ⟨rfl, _, Eq.trans (World.drewN_drewN _ _ _) (congrArg (World.drewN _) (Nat.add_assoc _ _ _))⟩); have hcv29 := own_string (P := Tryd.prog) Tryd.underlying22 Tryd.underlying5 Tryd.underlying9 (Kd.own_of_R HO_4.out); have hcw30 := fun n_ => own_string (P := Tryd.prog) Tryd.underlying22 Tryd.underlying5 Tryd.underlying9 (Kd.own_of_R (Kd.R_drewN HO_4.out n_))))
     repeat (go_quiet (first | (go_at_call 13; (with_reducible refine (key_Right.calls _ _ _ A25.out).mono ?_); rintro e w' ⟨rfl, ⟨nd, rfl⟩⟩; (try first | exact ⟨rfl, _, World.drewN_drewN _ _ _⟩ | exact ⟨rfl, _, Eq.trans (World.drewN_drewN _ _ _) (congrArg (World.drewN _) (Nat.add_assoc _ _ _))⟩); have hcv29 := own_string (P := Tryd.prog) Tryd.underlying22 Tryd.underlying5 Tryd.underlying9 (Kd.own_of_R HO_4.out); have hcw30 := fun n_ => own_string (P := Tryd.prog) Tryd.underlying22 Tryd.underlying5 Tryd.underlying9 (Kd.own_of_R (Kd.R_drewN HO_4.out n_)))); try go_wp2_with (first | (go_at_call 13; (with_reducible refine (key_Right.calls _ _ _ A25.out).mono ?_); rintro e w' ⟨rfl, ⟨nd, rfl⟩⟩; (try first | exact ⟨rfl, _, World.drewN_drewN _ _ _⟩ | exact ⟨rfl, _, Eq.trans (World.drewN_drewN _ _ _) (congrArg (World.drewN _) (Nat.add_assoc _ _ _))⟩); have hcv29 := own_string (P := Tryd.prog) Tryd.underlying22 Tryd.underlying5 Tryd.underlying9 (Kd.own_of_R HO_4.out); have hcw30 := fun n_ => own_string (P := Tryd.prog) Tryd.underlying22 Tryd.underlying5 Tryd.underlying9 (Kd.own_of_R (Kd.R_drewN HO_4.out n_)))))
     go_ret2
     exact ⟨sqE, sqB HB.out⟩
   replace c26 := Bool.eq_false_iff.mpr c26
   subst c26
   have H1 : (some ((⟨#[]⟩ : ByteArray), 2)) = some (r1, r2) := by rw [if_neg (show ¬ (false = true) by decide)] at H; exact H
   clear H
   have H := H1
   clear H1
   simp only [Option.some.injEq, Prod.mk.injEq] at H
   obtain ⟨rfl, rfl⟩ := H
   have hcv31 := own_string (P := Tryd.prog) Tryd.underlying22 Tryd.underlying5 Tryd.underlying9 (Kd.own_of_R HO_4.out)
   have hcw32 := fun n_ => own_string (P := Tryd.prog) Tryd.underlying22 Tryd.underlying5 Tryd.underlying9 (Kd.own_of_R (Kd.R_drewN HO_4.out n_))
   go_wp2_with (first | (go_at_call 13; (with_reducible refine (key_Right.calls _ _ _ A25.out).mono ?_); rintro e w' ⟨rfl, ⟨nd, rfl⟩⟩; (try first | exact ⟨rfl, _, World.drewN_drewN _ _ _⟩ | exact ⟨rfl, _, Eq.trans (World.drewN_drewN _ _ _) (congrArg (World.drewN _) (Nat.add_assoc _ _ _))⟩)))
   repeat (go_quiet (first | (go_at_call 13; (with_reducible refine (key_Right.calls _ _ _ A25.out).mono ?_); rintro e w' ⟨rfl, ⟨nd, rfl⟩⟩; (try first | exact ⟨rfl, _, World.drewN_drewN _ _ _⟩ | exact ⟨rfl, _, Eq.trans (World.drewN_drewN _ _ _) (congrArg (World.drewN _) (Nat.add_assoc _ _ _))⟩))); try go_wp2_with (first | (go_at_call 13; (with_reducible refine (key_Right.calls _ _ _ A25.out).mono ?_); rintro e w' ⟨rfl, ⟨nd, rfl⟩⟩; (try first | exact ⟨rfl, _, World.drewN_drewN _ _ _⟩ | exact ⟨rfl, _, Eq.trans (World.drewN_drewN _ _ _) (congrArg (World.drewN _) (Nat.add_assoc _ _ _))⟩))))
   go_ret2
   exact ⟨sqE, sqB HB.out⟩
 rw [if_pos c12] at H
 have c12b0 : decide (x5_2 < (a0.size : Int)) = true := decide_eq_true c12
 clear c12
 by_cases c13 : 0 ≤ x5_2
 rotate_left
 · rw [if_neg c13] at H
   exact absurd H (by simp)
 rw [if_pos c13] at H
 have c13b0 : decide (0 ≤ x5_2) = true := decide_eq_true c13
 clear c13
 replace H := Option.bind_eq_some_iff.mp H
 obtain ⟨t167, A150, H⟩ := H
 replace H : (if 0 ≤ (wrap64 (x5_2 + 1)) then (if (wrap64 (x5_2 + 1)) < (a0.size : Int) then ((key_digit.f (bt a0 (wrap64 (x5_2 + 1)))).bind fun t168 => (if t167 = 16 then (some ((⟨#[]⟩ : ByteArray), 2)) else (if t168 = 16 then (some ((⟨#[]⟩ : ByteArray), 2)) else (if x4_2.length < 140737488355328 then (key_Parse.l0 k2 a0 (x4_2 ++ [(wrap64 ((wrap64 (16 * t167)) + t168)) % 256]) (wrap64 (x5_2 + 2))) else (none))))) else (none)) else (none)) = some (r1, r2) := H
 have A15 := Aside0.mk A150
 clear A150
 obtain ⟨ji16, hji16⟩ : ∃ j_ : Int, (wrap64 (x5_2 + 1)) = j_ := ⟨_, rfl⟩
 replace H : (if 0 ≤ (ji16) then (if (ji16) < (a0.size : Int) then ((key_digit.f (bt a0 (ji16))).bind fun t168 => (if t167 = 16 then (some ((⟨#[]⟩ : ByteArray), 2)) else (if t168 = 16 then (some ((⟨#[]⟩ : ByteArray), 2)) else (if x4_2.length < 140737488355328 then (key_Parse.l0 k2 a0 (x4_2 ++ [(wrap64 ((wrap64 (16 * t167)) + t168)) % 256]) (wrap64 (x5_2 + 2))) else (none))))) else (none)) else (none)) = some (r1, r2) := by first | (rw [hji16] at H; exact H) | (simp only [hji16] at H ⊢; exact H)
 (try rw [hji16] at A15)
 have hji16w : (IntKind.i64.wrap (x5_2 + 1)) = ji16 := (i64_w _).trans hji16
 by_cases c17 : 0 ≤ (ji16)
 rotate_left
 · rw [if_neg c17] at H
   exact absurd H (by simp)
 rw [if_pos c17] at H
 have c17b0 : decide (0 ≤ (ji16)) = true := decide_eq_true c17
 clear c17
 by_cases c18 : (ji16) < (a0.size : Int)
 rotate_left
 · rw [if_neg c18] at H
   exact absurd H (by simp)
 rw [if_pos c18] at H
 have c18b0 : decide ((ji16) < (a0.size : Int)) = true := decide_eq_true c18
 clear c18
 replace H := Option.bind_eq_some_iff.mp H
 obtain ⟨t168, A200, H⟩ := H
 replace H : (if t167 = 16 then (some ((⟨#[]⟩ : ByteArray), 2)) else (if t168 = 16 then (some ((⟨#[]⟩ : ByteArray), 2)) else (if x4_2.length < 140737488355328 then (key_Parse.l0 k2 a0 (x4_2 ++ [(wrap64 ((wrap64 (16 * t167)) + t168)) % 256]) (wrap64 (x5_2 + 2))) else (none)))) = some (r1, r2) := H
 have A20 := Aside0.mk A200
 clear A200
 by_cases c21 : t167 = 16
 · rw [if_pos c21] at H
   have c21b0 : (t167 == 16) = true := beq_iff_eq.mpr c21
   have c21b1 : (t167 != 16) = false := bne_eq_false_iff_eq.mpr c21
   clear c21
   simp only [Option.some.injEq, Prod.mk.injEq] at H
   obtain ⟨rfl, rfl⟩ := H
   have p14 : 0 ≤ (x5_2 : Int) := of_decide_eq_true sqH
   have q14 : x5_2 < (a0.size : Int) := of_decide_eq_true sqH
   have hx14 := bt_at a0 x5_2
   replace p14 := eq_true p14
   replace q14 := eq_true q14
   go_wp2_with (first | (go_at_call 25; (with_reducible refine (key_digit.calls _ _ _ ?side1 A15.out).mono ?_); (case side1 => first | exact HT.out | exact TabW.below HT.out (sqB HB.out) | exact TabW.drawn HT.out ⟨_, rfl⟩); rintro e w' ⟨rfl, ⟨nd, rfl⟩⟩; (try first | exact ⟨rfl, _, World.drewN_drewN _ _ _⟩ | exact ⟨rfl, _, Eq.trans (World.drewN_drewN _ _ _) (congrArg (World.drewN _) (Nat.add_assoc _ _ _))⟩); have p19 : 0 ≤ ((ji16) : Int) := of_decide_eq_true sqH; have q19 : (ji16) < (a0.size : Int) := of_decide_eq_true sqH; have hx19 := bt_at a0 (ji16); replace p19 := eq_true p19; replace q19 := eq_true q19) | (go_at_call 25; (with_reducible refine (key_digit.calls _ _ _ ?side1 A20.out).mono ?_); (case side1 => first | exact HT.out | exact TabW.below HT.out (sqB HB.out) | exact TabW.drawn HT.out ⟨_, rfl⟩); rintro e w' ⟨rfl, ⟨nd, rfl⟩⟩; (try first | exact ⟨rfl, _, World.drewN_drewN _ _ _⟩ | exact ⟨rfl, _, Eq.trans (World.drewN_drewN _ _ _) (congrArg (World.drewN _) (Nat.add_assoc _ _ _))⟩)))
   repeat (go_quiet (first | (go_at_call 25; (with_reducible refine (key_digit.calls _ _ _ ?side1 A15.out).mono ?_); (case side1 => first | exact HT.out | exact TabW.below HT.out (sqB HB.out) | exact TabW.drawn HT.out ⟨_, rfl⟩); rintro e w' ⟨rfl, ⟨nd, rfl⟩⟩; (try first | exact ⟨rfl, _, World.drewN_drewN _ _ _⟩ | exact ⟨rfl, _, Eq.trans (World.drewN_drewN _ _ _) (congrArg (World.drewN _) (Nat.add_assoc _ _ _))⟩); have p19 : 0 ≤ ((ji16) : Int) := of_decide_eq_true sqH; have q19 : (ji16) < (a0.size : Int) := of_decide_eq_true sqH; have hx19 := bt_at a0 (ji16); replace p19 := eq_true p19; replace q19 := eq_true q19) | (go_at_call 25; (with_reducible refine (key_digit.calls _ _ _ ?side1 A20.out).mono ?_); (case side1 => first | exact HT.out | exact TabW.below HT.out (sqB HB.out) | exact TabW.drawn HT.out ⟨_, rfl⟩); rintro e w' ⟨rfl, ⟨nd, rfl⟩⟩; (try first | exact ⟨rfl, _, World.drewN_drewN _ _ _⟩ | exact ⟨rfl, _, Eq.trans (World.drewN_drewN _ _ _) (congrArg (World.drewN _) (Nat.add_assoc _ _ _))⟩))); try go_wp2_with (first | (go_at_call 25; (with_reducible refine (key_digit.calls _ _ _ ?side1 A15.out).mono ?_); (case side1 => first | exact HT.out | exact TabW.below HT.out (sqB HB.out) | exact TabW.drawn HT.out ⟨_, rfl⟩); rintro e w' ⟨rfl, ⟨nd, rfl⟩⟩; (try first | exact ⟨rfl, _, World.drewN_drewN _ _ _⟩ | exact ⟨rfl, _, Eq.trans (World.drewN_drewN _ _ _) (congrArg (World.drewN _) (Nat.add_assoc _ _ _))⟩); have p19 : 0 ≤ ((ji16) : Int) := of_decide_eq_true sqH; have q19 : (ji16) < (a0.size : Int) := of_decide_eq_true sqH; have hx19 := bt_at a0 (ji16); replace p19 := eq_true p19; replace q19 := eq_true q19) | (go_at_call 25; (with_reducible refine (key_digit.calls _ _ _ ?side1 A20.out).mono ?_); (case side1 => first | exact HT.out | exact TabW.below HT.out (sqB HB.out) | exact TabW.drawn HT.out ⟨_, rfl⟩); rintro e w' ⟨rfl, ⟨nd, rfl⟩⟩; (try first | exact ⟨rfl, _, World.drewN_drewN _ _ _⟩ | exact ⟨rfl, _, Eq.trans (World.drewN_drewN _ _ _) (congrArg (World.drewN _) (Nat.add_assoc _ _ _))⟩))))
   go_ret2
   exact ⟨by first | rfl | (simp [errW_none, errW_some] <;> rfl) | (simp only [← hji16]; first | rfl | (simp [errW_none, errW_some] <;> rfl)) | (simp [*, errW_none, errW_some] <;> rfl), sqB HB.out⟩
 rw [if_neg c21] at H
 have c21b0 : (t167 == 16) = false := beq_eq_false_iff_ne.mpr c21
 have c21b1 : (t167 != 16) = true := bne_iff_ne.mpr c21
 by_cases c22 : t168 = 16
 · rw [if_pos c22] at H
   have c22b0 : (t168 == 16) = true := beq_iff_eq.mpr c22
   have c22b1 : (t168 != 16) = false := bne_eq_false_iff_eq.mpr c22
   clear c22
   simp only [Option.some.injEq, Prod.mk.injEq] at H
   obtain ⟨rfl, rfl⟩ := H
   have p14 : 0 ≤ (x5_2 : Int) := of_decide_eq_true sqH
   have q14 : x5_2 < (a0.size : Int) := of_decide_eq_true sqH
   have hx14 := bt_at a0 x5_2
   replace p14 := eq_true p14
   replace q14 := eq_true q14
   go_wp2_with (first | (go_at_call 25; (with_reducible refine (key_digit.calls _ _ _ ?side1 A15.out).mono ?_); (case side1 => first | exact HT.out | exact TabW.below HT.out (sqB HB.out) | exact TabW.drawn HT.out ⟨_, rfl⟩); rintro e w' ⟨rfl, ⟨nd, rfl⟩⟩; (try first | exact ⟨rfl, _, World.drewN_drewN _ _ _⟩ | exact ⟨rfl, _, Eq.trans (World.drewN_drewN _ _ _) (congrArg (World.drewN _) (Nat.add_assoc _ _ _))⟩); have p19 : 0 ≤ ((ji16) : Int) := of_decide_eq_true sqH; have q19 : (ji16) < (a0.size : Int) := of_decide_eq_true sqH; have hx19 := bt_at a0 (ji16); replace p19 := eq_true p19; replace q19 := eq_true q19) | (go_at_call 25; (with_reducible refine (key_digit.calls _ _ _ ?side1 A20.out).mono ?_); (case side1 => first | exact HT.out | exact TabW.below HT.out (sqB HB.out) | exact TabW.drawn HT.out ⟨_, rfl⟩); rintro e w' ⟨rfl, ⟨nd, rfl⟩⟩; (try first | exact ⟨rfl, _, World.drewN_drewN _ _ _⟩ | exact ⟨rfl, _, Eq.trans (World.drewN_drewN _ _ _) (congrArg (World.drewN _) (Nat.add_assoc _ _ _))⟩)))
   repeat (go_quiet (first | (go_at_call 25; (with_reducible refine (key_digit.calls _ _ _ ?side1 A15.out).mono ?_); (case side1 => first | exact HT.out | exact TabW.below HT.out (sqB HB.out) | exact TabW.drawn HT.out ⟨_, rfl⟩); rintro e w' ⟨rfl, ⟨nd, rfl⟩⟩; (try first | exact ⟨rfl, _, World.drewN_drewN _ _ _⟩ | exact ⟨rfl, _, Eq.trans (World.drewN_drewN _ _ _) (congrArg (World.drewN _) (Nat.add_assoc _ _ _))⟩); have p19 : 0 ≤ ((ji16) : Int) := of_decide_eq_true sqH; have q19 : (ji16) < (a0.size : Int) := of_decide_eq_true sqH; have hx19 := bt_at a0 (ji16); replace p19 := eq_true p19; replace q19 := eq_true q19) | (go_at_call 25; (with_reducible refine (key_digit.calls _ _ _ ?side1 A20.out).mono ?_); (case side1 => first | exact HT.out | exact TabW.below HT.out (sqB HB.out) | exact TabW.drawn HT.out ⟨_, rfl⟩); rintro e w' ⟨rfl, ⟨nd, rfl⟩⟩; (try first | exact ⟨rfl, _, World.drewN_drewN _ _ _⟩ | exact ⟨rfl, _, Eq.trans (World.drewN_drewN _ _ _) (congrArg (World.drewN _) (Nat.add_assoc _ _ _))⟩))); try go_wp2_with (first | (go_at_call 25; (with_reducible refine (key_digit.calls _ _ _ ?side1 A15.out).mono ?_); (case side1 => first | exact HT.out | exact TabW.below HT.out (sqB HB.out) | exact TabW.drawn HT.out ⟨_, rfl⟩); rintro e w' ⟨rfl, ⟨nd, rfl⟩⟩; (try first | exact ⟨rfl, _, World.drewN_drewN _ _ _⟩ | exact ⟨rfl, _, Eq.trans (World.drewN_drewN _ _ _) (congrArg (World.drewN _) (Nat.add_assoc _ _ _))⟩); have p19 : 0 ≤ ((ji16) : Int) := of_decide_eq_true sqH; have q19 : (ji16) < (a0.size : Int) := of_decide_eq_true sqH; have hx19 := bt_at a0 (ji16); replace p19 := eq_true p19; replace q19 := eq_true q19) | (go_at_call 25; (with_reducible refine (key_digit.calls _ _ _ ?side1 A20.out).mono ?_); (case side1 => first | exact HT.out | exact TabW.below HT.out (sqB HB.out) | exact TabW.drawn HT.out ⟨_, rfl⟩); rintro e w' ⟨rfl, ⟨nd, rfl⟩⟩; (try first | exact ⟨rfl, _, World.drewN_drewN _ _ _⟩ | exact ⟨rfl, _, Eq.trans (World.drewN_drewN _ _ _) (congrArg (World.drewN _) (Nat.add_assoc _ _ _))⟩))))
   go_ret2
   exact ⟨by first | rfl | (simp [errW_none, errW_some] <;> rfl) | (simp only [← hji16]; first | rfl | (simp [errW_none, errW_some] <;> rfl)) | (simp [*, errW_none, errW_some] <;> rfl), sqB HB.out⟩
 rw [if_neg c22] at H
 have c22b0 : (t168 == 16) = false := beq_eq_false_iff_ne.mpr c22
 have c22b1 : (t168 != 16) = true := bne_iff_ne.mpr c22
 by_cases c23 : x4_2.length < 140737488355328
 rotate_left
 · rw [if_neg c23] at H
   exact absurd H (by simp)
 rw [if_pos c23] at H
 have LMc23 := Aside0.mk c23
 clear c23
 obtain ⟨y169, hy169⟩ : ∃ y_ : List Int, y_ = (x4_2 ++ [(wrap64 ((wrap64 (16 * t167)) + t168)) % 256]) := ⟨_, rfl⟩
 replace H : (key_Parse.l0 k2 a0 y169 (wrap64 (x5_2 + 2))) = some (r1, r2) := by first | (rw [hy169]; with_reducible exact H) | (have H2_ := (Option.bind_some _ _).symm.trans H; rw [hy169]; with_reducible exact H2_) | (have H2_ := (Option.bind_some _ _).symm.trans H; with_reducible exact H2_) | with_reducible exact H | (rw [hy169]; exact H) | exact H
 have Ny169 := Aside0.mk hy169
 clear hy169
 have H' := Aside0.mk H
 clear H
 have p14 : 0 ≤ (x5_2 : Int) := of_decide_eq_true sqH
 have q14 : x5_2 < (a0.size : Int) := of_decide_eq_true sqH
 have hx14 := bt_at a0 x5_2
 replace p14 := eq_true p14
 replace q14 := eq_true q14
 go_wp2_with (first | (go_at_call 25; (with_reducible refine (key_digit.calls _ _ _ ?side1 A15.out).mono ?_); (case side1 => first | exact HT.out | exact TabW.below HT.out (sqB HB.out) | exact TabW.drawn HT.out ⟨_, rfl⟩); rintro e w' ⟨rfl, ⟨nd, rfl⟩⟩; (try first | exact ⟨rfl, _, World.drewN_drewN _ _ _⟩ | exact ⟨rfl, _, Eq.trans (World.drewN_drewN _ _ _) (congrArg (World.drewN _) (Nat.add_assoc _ _ _))⟩); have p19 : 0 ≤ ((ji16) : Int) := of_decide_eq_true sqH; have q19 : (ji16) < (a0.size : Int) := of_decide_eq_true sqH; have hx19 := bt_at a0 (ji16); replace p19 := eq_true p19; replace q19 := eq_true q19) | (go_at_call 25; (with_reducible refine (key_digit.calls _ _ _ ?side1 A20.out).mono ?_); (case side1 => first | exact HT.out | exact TabW.below HT.out (sqB HB.out) | exact TabW.drawn HT.out ⟨_, rfl⟩); rintro e w' ⟨rfl, ⟨nd, rfl⟩⟩; (try first | exact ⟨rfl, _, World.drewN_drewN _ _ _⟩ | exact ⟨rfl, _, Eq.trans (World.drewN_drewN _ _ _) (congrArg (World.drewN _) (Nat.add_assoc _ _ _))⟩)) | ((with_reducible refine gate_builtin (b := .append) (xs := #[.tmp 46, .tmp 52]) rfl ?_); (try (refine gate_guard (by rfl) ?_; dsimp only)); at_builtin; refine Kd.R_append (Kd.int .u8) (w0 := w) w.heap.size rfl (.tmp 46) (.tmp 52) 22 5 (.int .u8 0) 1 rfl Tryd.underlying22 info5 rfl (by decide) (by omega) u4 x4_2 ((wrap64 ((wrap64 (16 * t167)) + t168)) % 256) [.int .u8 ((wrap64 ((wrap64 (16 * t167)) + t168)) % 256)] (fun _ => True) (fun _ => False) rfl rfl ?aP (fun _ hk => hk.elim) ?aF ?aO ?aB ?aS ?aL ?_; (case aP => exact rfl); (case aB => exact (sqB HB.out)); (case aF => exact (fun _ _ => trivial)); (case aO => exact (sqR HO_4.out)); (case aS => exact (below_size (sqB HB.out))); (case aL => have := LMc23.out; omega); intro v170 w24 ho hb hg hat; rw [← Ny169.out] at ho; have HO171 := sqM (ho); replace HB := sqM (hb); clear HO_4; clear ho hb hg hat))
 repeat (go_quiet (first | (go_at_call 25; (with_reducible refine (key_digit.calls _ _ _ ?side1 A15.out).mono ?_); (case side1 => first | exact HT.out | exact TabW.below HT.out (sqB HB.out) | exact TabW.drawn HT.out ⟨_, rfl⟩); rintro e w' ⟨rfl, ⟨nd, rfl⟩⟩; (try first | exact ⟨rfl, _, World.drewN_drewN _ _ _⟩ | exact ⟨rfl, _, Eq.trans (World.drewN_drewN _ _ _) (congrArg (World.drewN _) (Nat.add_assoc _ _ _))⟩); have p19 : 0 ≤ ((ji16) : Int) := of_decide_eq_true sqH; have q19 : (ji16) < (a0.size : Int) := of_decide_eq_true sqH; have hx19 := bt_at a0 (ji16); replace p19 := eq_true p19; replace q19 := eq_true q19) | (go_at_call 25; (with_reducible refine (key_digit.calls _ _ _ ?side1 A20.out).mono ?_); (case side1 => first | exact HT.out | exact TabW.below HT.out (sqB HB.out) | exact TabW.drawn HT.out ⟨_, rfl⟩); rintro e w' ⟨rfl, ⟨nd, rfl⟩⟩; (try first | exact ⟨rfl, _, World.drewN_drewN _ _ _⟩ | exact ⟨rfl, _, Eq.trans (World.drewN_drewN _ _ _) (congrArg (World.drewN _) (Nat.add_assoc _ _ _))⟩)) | ((with_reducible refine gate_builtin (b := .append) (xs := #[.tmp 46, .tmp 52]) rfl ?_); (try (refine gate_guard (by rfl) ?_; dsimp only)); at_builtin; refine Kd.R_append (Kd.int .u8) (w0 := w) w.heap.size rfl (.tmp 46) (.tmp 52) 22 5 (.int .u8 0) 1 rfl Tryd.underlying22 info5 rfl (by decide) (by omega) u4 x4_2 ((wrap64 ((wrap64 (16 * t167)) + t168)) % 256) [.int .u8 ((wrap64 ((wrap64 (16 * t167)) + t168)) % 256)] (fun _ => True) (fun _ => False) rfl rfl ?aP (fun _ hk => hk.elim) ?aF ?aO ?aB ?aS ?aL ?_; (case aP => exact rfl); (case aB => exact (sqB HB.out)); (case aF => exact (fun _ _ => trivial)); (case aO => exact (sqR HO_4.out)); (case aS => exact (below_size (sqB HB.out))); (case aL => have := LMc23.out; omega); intro v170 w24 ho hb hg hat; rw [← Ny169.out] at ho; have HO171 := sqM (ho); replace HB := sqM (hb); clear HO_4; clear ho hb hg hat)); try go_wp2_with (first | (go_at_call 25; (with_reducible refine (key_digit.calls _ _ _ ?side1 A15.out).mono ?_); (case side1 => first | exact HT.out | exact TabW.below HT.out (sqB HB.out) | exact TabW.drawn HT.out ⟨_, rfl⟩); rintro e w' ⟨rfl, ⟨nd, rfl⟩⟩; (try first | exact ⟨rfl, _, World.drewN_drewN _ _ _⟩ | exact ⟨rfl, _, Eq.trans (World.drewN_drewN _ _ _) (congrArg (World.drewN _) (Nat.add_assoc _ _ _))⟩); have p19 : 0 ≤ ((ji16) : Int) := of_decide_eq_true sqH; have q19 : (ji16) < (a0.size : Int) := of_decide_eq_true sqH; have hx19 := bt_at a0 (ji16); replace p19 := eq_true p19; replace q19 := eq_true q19) | (go_at_call 25; (with_reducible refine (key_digit.calls _ _ _ ?side1 A20.out).mono ?_); (case side1 => first | exact HT.out | exact TabW.below HT.out (sqB HB.out) | exact TabW.drawn HT.out ⟨_, rfl⟩); rintro e w' ⟨rfl, ⟨nd, rfl⟩⟩; (try first | exact ⟨rfl, _, World.drewN_drewN _ _ _⟩ | exact ⟨rfl, _, Eq.trans (World.drewN_drewN _ _ _) (congrArg (World.drewN _) (Nat.add_assoc _ _ _))⟩)) | ((with_reducible refine gate_builtin (b := .append) (xs := #[.tmp 46, .tmp 52]) rfl ?_); (try (refine gate_guard (by rfl) ?_; dsimp only)); at_builtin; refine Kd.R_append (Kd.int .u8) (w0 := w) w.heap.size rfl (.tmp 46) (.tmp 52) 22 5 (.int .u8 0) 1 rfl Tryd.underlying22 info5 rfl (by decide) (by omega) u4 x4_2 ((wrap64 ((wrap64 (16 * t167)) + t168)) % 256) [.int .u8 ((wrap64 ((wrap64 (16 * t167)) + t168)) % 256)] (fun _ => True) (fun _ => False) rfl rfl ?aP (fun _ hk => hk.elim) ?aF ?aO ?aB ?aS ?aL ?_; (case aP => exact rfl); (case aB => exact (sqB HB.out)); (case aF => exact (fun _ _ => trivial)); (case aO => exact (sqR HO_4.out)); (case aS => exact (below_size (sqB HB.out))); (case aL => have := LMc23.out; omega); intro v170 w24 ho hb hg hat; rw [← Ny169.out] at ho; have HO171 := sqM (ho); replace HB := sqM (hb); clear HO_4; clear ho hb hg hat)))
 go_roundg k2
 case measure => have := HJ1.out; have := HK2.out; omega
 case rel => exact ⟨(y169), (wrap64 (x5_2 + 2)), sqI, H', ⟨by have := HJ1.out; have := HK2.out; omega⟩, ⟨sqR HO171.out⟩, ⟨sqB HB.out⟩⟩

/-! ### boarderlaw07_knows: function 9 -/
def boarderlaw07_knows.f (k : Nat)  : Option (Bool) := (key_Of.f k 0 1 6 0 0 0 0 0 0 0 0 (([2, 0, 0, 0, 0, 7, 0, 0, 0, 0, 0, 0, 0, 0, 0, 0] : List Int)) ([] : List (S52))).bind fun bt175 => ((key_Text.f k bt175.1).bind fun bt177 => ((key_Parse.f k bt177.1).bind fun bt179 => (if bt175.2 = 0 then (if bt177.1.toList = ([104, 45, 48, 49, 48, 50, 48, 48, 48, 48, 48, 48, 48, 48, 48, 55] : List UInt8) then (if bt177.2 = 0 then (if bt179.1.toList = bt175.1.toList then (if bt179.2 = 0 then ((key_Right.f bt175.1).bind fun t181 => (some t181)) else (none)) else (none)) else (none)) else (none)) else (none))))
theorem boarderlaw07_knows.mono : ∀ k, LeO (boarderlaw07_knows.f k ) (boarderlaw07_knows.f (k + 1) ) := by
 intro  k
 unfold boarderlaw07_knows.f
 repeat' first
  | (with_reducible exact key_Of.mono _ _ _ _ _ _ _ _ _ _ _ _ _ _)
  | (with_reducible exact key_Parse.mono _ _)
  | (with_reducible exact key_Text.mono _ _)
  | (with_reducible exact LeO.refl _)
  | (with_reducible exact LeO.none _)
  | (with_reducible refine LeO.ite ?_ ?_)
  | (with_reducible refine LeO.bind ?_ (fun _ => ?_))
set_option maxHeartbeats 8000000 in
set_option maxRecDepth 100000 in
theorem boarderlaw07_knows.calls (k : Nat)  (r : Bool) (w : World) (hT : TabW w) (h : boarderlaw07_knows.f k  = some r) :
    Calls Tryd.prog 9 #[] w fun e w' => e = .returned (.bool r) ∧ Below w.heap.size w w' := by
 have hu25 := Tryd.underlying25
 have HT := Aside0.mk hT
 clear hT
 have HRT0 := Aside0.mk HT.out.t0
 have HB := Aside0.mk (Below.refl w.heap.size w)
 have H : ((key_Of.f k 0 1 6 0 0 0 0 0 0 0 0 (([2, 0, 0, 0, 0, 7, 0, 0, 0, 0, 0, 0, 0, 0, 0, 0] : List Int)) ([] : List (S52))).bind fun bt175 => ((key_Text.f k bt175.1).bind fun bt177 => ((key_Parse.f k bt177.1).bind fun bt179 => (if bt175.2 = 0 then (if bt177.1.toList = ([104, 45, 48, 49, 48, 50, 48, 48, 48, 48, 48, 48, 48, 48, 48, 55] : List UInt8) then (if bt177.2 = 0 then (if bt179.1.toList = bt175.1.toList then (if bt179.2 = 0 then ((key_Right.f bt175.1).bind fun t181 => (some t181)) else (none)) else (none)) else (none)) else (none)) else (none))))) = some r := h
 clear h
 obtain ⟨y172, hy172⟩ : ∃ y_ : List Int, y_ = (([2, 0, 0, 0, 0, 7, 0, 0, 0, 0, 0, 0, 0, 0, 0, 0] : List Int)) := ⟨_, rfl⟩
 replace H : ((key_Of.f k 0 1 6 0 0 0 0 0 0 0 0 y172 ([] : List (S52))).bind fun bt175 => ((key_Text.f k bt175.1).bind fun bt177 => ((key_Parse.f k bt177.1).bind fun bt179 => (if bt175.2 = 0 then (if bt177.1.toList = ([104, 45, 48, 49, 48, 50, 48, 48, 48, 48, 48, 48, 48, 48, 48, 55] : List UInt8) then (if bt177.2 = 0 then (if bt179.1.toList = bt175.1.toList then (if bt179.2 = 0 then ((key_Right.f bt175.1).bind fun t181 => (some t181)) else (none)) else (none)) else (none)) else (none)) else (none))))) = some r := by first | (rw [hy172]; with_reducible exact H) | (have H2_ := (Option.bind_some _ _).symm.trans H; rw [hy172]; with_reducible exact H2_) | (have H2_ := (Option.bind_some _ _).symm.trans H; with_reducible exact H2_) | with_reducible exact H | (rw [hy172]; exact H) | exact H
 have Ny172 := Aside0.mk hy172
 clear hy172
 replace H := Option.bind_eq_some_iff.mp H
 obtain ⟨⟨t175, t176⟩, A10, H⟩ := H
 replace H : ((key_Text.f k t175).bind fun bt177 => ((key_Parse.f k bt177.1).bind fun bt179 => (if t176 = 0 then (if bt177.1.toList = ([104, 45, 48, 49, 48, 50, 48, 48, 48, 48, 48, 48, 48, 48, 48, 55] : List UInt8) then (if bt177.2 = 0 then (if bt179.1.toList = t175.toList then (if bt179.2 = 0 then ((key_Right.f t175).bind fun t181 => (some t181)) else (none)) else (none)) else (none)) else (none)) else (none)))) = some r := H
 have A1 := Aside0.mk A10
 clear A10
 replace H := Option.bind_eq_some_iff.mp H
 obtain ⟨⟨t177, t178⟩, A20, H⟩ := H
 replace H : ((key_Parse.f k t177).bind fun bt179 => (if t176 = 0 then (if t177.toList = ([104, 45, 48, 49, 48, 50, 48, 48, 48, 48, 48, 48, 48, 48, 48, 55] : List UInt8) then (if t178 = 0 then (if bt179.1.toList = t175.toList then (if bt179.2 = 0 then ((key_Right.f t175).bind fun t181 => (some t181)) else (none)) else (none)) else (none)) else (none)) else (none))) = some r := H
 have A2 := Aside0.mk A20
 clear A20
 replace H := Option.bind_eq_some_iff.mp H
 obtain ⟨⟨t179, t180⟩, A30, H⟩ := H
 replace H : (if t176 = 0 then (if t177.toList = ([104, 45, 48, 49, 48, 50, 48, 48, 48, 48, 48, 48, 48, 48, 48, 55] : List UInt8) then (if t178 = 0 then (if t179.toList = t175.toList then (if t180 = 0 then ((key_Right.f t175).bind fun t181 => (some t181)) else (none)) else (none)) else (none)) else (none)) else (none)) = some r := H
 have A3 := Aside0.mk A30
 clear A30
 by_cases c4 : t176 = 0
 rotate_left
 · rw [if_neg c4] at H
   exact absurd H (by simp)
 rw [if_pos c4] at H
 have c4b0 : (t176 == 0) = true := beq_iff_eq.mpr c4
 have c4b1 : (t176 != 0) = false := bne_eq_false_iff_eq.mpr c4
 clear c4
 by_cases c5 : t177.toList = ([104, 45, 48, 49, 48, 50, 48, 48, 48, 48, 48, 48, 48, 48, 48, 55] : List UInt8)
 rotate_left
 · rw [if_neg c5] at H
   exact absurd H (by simp)
 rw [if_pos c5] at H
 have c5b0 : (t177.toList == ([104, 45, 48, 49, 48, 50, 48, 48, 48, 48, 48, 48, 48, 48, 48, 55] : List UInt8)) = true := beq_iff_eq.mpr c5
 have c5b1 : (t177.toList != ([104, 45, 48, 49, 48, 50, 48, 48, 48, 48, 48, 48, 48, 48, 48, 55] : List UInt8)) = false := bne_eq_false_iff_eq.mpr c5
 clear c5
 by_cases c6 : t178 = 0
 rotate_left
 · rw [if_neg c6] at H
   exact absurd H (by simp)
 rw [if_pos c6] at H
 have c6b0 : (t178 == 0) = true := beq_iff_eq.mpr c6
 have c6b1 : (t178 != 0) = false := bne_eq_false_iff_eq.mpr c6
 clear c6
 by_cases c7 : t179.toList = t175.toList
 rotate_left
 · rw [if_neg c7] at H
   exact absurd H (by simp)
 rw [if_pos c7] at H
 have c7b0 : (t179.toList == t175.toList) = true := beq_iff_eq.mpr c7
 have c7b1 : (t179.toList != t175.toList) = false := bne_eq_false_iff_eq.mpr c7
 clear c7
 by_cases c8 : t180 = 0
 rotate_left
 · rw [if_neg c8] at H
   exact absurd H (by simp)
 rw [if_pos c8] at H
 have c8b0 : (t180 == 0) = true := beq_iff_eq.mpr c8
 have c8b1 : (t180 != 0) = false := bne_eq_false_iff_eq.mpr c8
 clear c8
 replace H := Option.bind_eq_some_iff.mp H
 obtain ⟨t181, A90, H⟩ := H
 replace H : (some t181) = some r := H
 have A9 := Aside0.mk A90
 clear A90
 obtain rfl := Option.some.inj H
 go_enter Tryd.func9, Tryd.ntmps9
 go_wp2_with (first | ((with_reducible refine gate_dst (N := 8) rfl ?_); refine Kd.R_lit (Kd.int .u8) _ 5 ?hg (N := 8) ?hd (xs := ([2, 0, 0, 0, 0, 7, 0, 0, 0, 0, 0, 0, 0, 0, 0, 0] : List Int)) (inner := [.int .u8 2, .int .u8 0, .int .u8 0, .int .u8 0, .int .u8 0, .int .u8 7, .int .u8 0, .int .u8 0, .int .u8 0, .int .u8 0, .int .u8 0, .int .u8 0, .int .u8 0, .int .u8 0, .int .u8 0, .int .u8 0]) (ok := fun _ => True) (okp := fun _ => True) ?hr ?hp (fun _ hk => hk) trivial (Below.refl _ _) (Nat.le_refl _) (by simp) ?_; (case hd => rfl); (case hg => rfl); (case hr => first | (go_simp; done) | (go_simp; rfl)); (case hp => exact (Reps.one (show Kd.M (Kd.int .u8) _ _ _ 2 [.int .u8 2] from rfl) (Reps.one (show Kd.M (Kd.int .u8) _ _ _ 0 [.int .u8 0] from rfl) (Reps.one (show Kd.M (Kd.int .u8) _ _ _ 0 [.int .u8 0] from rfl) (Reps.one (show Kd.M (Kd.int .u8) _ _ _ 0 [.int .u8 0] from rfl) (Reps.one (show Kd.M (Kd.int .u8) _ _ _ 0 [.int .u8 0] from rfl) (Reps.one (show Kd.M (Kd.int .u8) _ _ _ 7 [.int .u8 7] from rfl) (Reps.one (show Kd.M (Kd.int .u8) _ _ _ 0 [.int .u8 0] from rfl) (Reps.one (show Kd.M (Kd.int .u8) _ _ _ 0 [.int .u8 0] from rfl) (Reps.one (show Kd.M (Kd.int .u8) _ _ _ 0 [.int .u8 0] from rfl) (Reps.one (show Kd.M (Kd.int .u8) _ _ _ 0 [.int .u8 0] from rfl) (Reps.one (show Kd.M (Kd.int .u8) _ _ _ 0 [.int .u8 0] from rfl) (Reps.one (show Kd.M (Kd.int .u8) _ _ _ 0 [.int .u8 0] from rfl) (Reps.one (show Kd.M (Kd.int .u8) _ _ _ 0 [.int .u8 0] from rfl) (Reps.one (show Kd.M (Kd.int .u8) _ _ _ 0 [.int .u8 0] from rfl) (Reps.one (show Kd.M (Kd.int .u8) _ _ _ 0 [.int .u8 0] from rfl) (Reps.one (show Kd.M (Kd.int .u8) _ _ _ 0 [.int .u8 0] from rfl) (Reps.none _ _)))))))))))))))))); intro v173 w10 ho11 hb hg_ hnew_; clear hg_ hnew_; (first | rw [← Ny172.out] at ho11 | (simp only [Int.reduceToNat] at ho11; rw [← Ny172.out] at ho11)); have HO174 := sqM (Kd.R_lower ho11 (below_size (sqB HB.out))); replace HB := sqM (below_step (sqB HB.out) hb); clear hb ho11; obtain ⟨Ao12, co12, eo12⟩ := Kd.R_slice HO174.out; subst eo12) | ((with_reducible refine gate_callee (f := 10) rfl ?_); refine goesL_ (some 10) rfl rfl Tryd.func10 (by kernel_rfl) rfl #[.agg #[.int .i64 0, .int .i64 1, .int .i64 6, .int .i64 0, .int .i64 0, .int .i64 0, .int .i64 0, .int .i64 0, .int .i64 0, .int .i64 0, .int .i64 0, .slice Ao12 y172.length co12, .slice none 0 0]] rfl sqA ?_; (refine (key_Of.calls _ _ _ _ _ _ _ _ _ _ _ _ _ _ _ _ _ _ _ _ _ ?side1 ?side2 ?side3 ?side4 A1.out).mono ?_); (case side1 => repeat (first | exact (Kd.R_reads' HO174.out).2.2 | (with_reducible refine Kd.C_alloc ?_ _) | (with_reducible refine Kd.C_drewN ?_ _) | (with_reducible refine Kd.C_drew ?_))); (case side2 => exact (Kd.R_reads' HO174.out).2.1); (case side3 => exact Kd.C_nil _ _); (case side4 => exact Nat.le_refl _); rintro e w13 ⟨rfl, hb⟩; refine ⟨_, rfl, ?_⟩; replace HO174 := sqM (Kd.R_below (sqR HO174.out) hb); replace HB := sqM (below_step (sqB HB.out) hb); (try clear hb); (try clear hb2); (try clear hk); (try clear hi)) | ((with_reducible refine gate_callee (f := 14) rfl ?_); refine goesL_ (some 15) rfl rfl Tryd.func14 (by kernel_rfl) rfl #[.string t175] rfl sqA ?_; (with_reducible refine (key_Text.calls _ _ _ _ _ ?side1 A2.out).mono ?_); (case side1 => first | exact HT.out | exact TabW.below HT.out (sqB HB.out) | exact TabW.drawn HT.out ⟨_, rfl⟩); rintro e w14 ⟨rfl, hb⟩; refine ⟨_, rfl, ?_⟩; replace HO174 := sqM (Kd.R_below (sqR HO174.out) hb); replace HB := sqM (below_step (sqB HB.out) hb); (try clear hb); (try clear hb2); (try clear hk); (try clear hi)) | ((with_reducible refine gate_callee (f := 17) rfl ?_); refine goesL_ (some 20) rfl rfl Tryd.func17 (by kernel_rfl) rfl #[.string t177] rfl sqA ?_; (with_reducible refine (key_Parse.calls _ _ _ _ _ ?side1 A3.out).mono ?_); (case side1 => first | exact HT.out | exact TabW.below HT.out (sqB HB.out) | exact TabW.drawn HT.out ⟨_, rfl⟩); rintro e w15 ⟨rfl, hb⟩; refine ⟨_, rfl, ?_⟩; replace HO174 := sqM (Kd.R_below (sqR HO174.out) hb); replace HB := sqM (below_step (sqB HB.out) hb); (try clear hb); (try clear hb2); (try clear hk); (try clear hi)) | (go_at_call 13; (with_reducible refine (key_Right.calls _ _ _ A9.out).mono ?_); rintro e w' ⟨rfl, ⟨nd, rfl⟩⟩))
 go_ret
 exact ⟨sqE, sqB HB.out⟩

end Go.Proofs.YtkjmfnijagdhpaaDoor.PKey
