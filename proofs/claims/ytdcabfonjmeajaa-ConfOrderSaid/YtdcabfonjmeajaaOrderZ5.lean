/- What this claim rests on, part 5: abstract values, walks of the code over them, what the functions come to; each under its theorem's own conditions. -/
import Derived.Test.YtdcabfonjmeajaaOrderZ4
set_option linter.unusedVariables false
namespace Go.Proofs.Ytdcabfonjmeajaa.POrder
open Go.RowKit Go.Proofs.YtdcabfonjmeajaaW.PrintWords Go.Proofs.YtdcabfonjmeajaaW.PrintLast Go.Proofs.YtdcabfonjmeajaaW.PrintMore
set_option maxHeartbeats 8000000 in
theorem conf_spots.mono_l : ∀ k, (∀ y0 y1 y2 y3, LeO (conf_spots.l0 k y0 y1 y2 y3) (conf_spots.l0 (k + 1) y0 y1 y2 y3)) ∧ (∀ y0 y1 y2 y3 y4 y5 y6 y7, LeO (conf_spots.l1 k y0 y1 y2 y3 y4 y5 y6 y7) (conf_spots.l1 (k + 1) y0 y1 y2 y3 y4 y5 y6 y7))
  | 0 => ⟨fun _ _ _ _ r h => by simp [conf_spots.l0] at h, fun _ _ _ _ _ _ _ _ r h => by simp [conf_spots.l1] at h⟩
  | k + 1 => by
    obtain ⟨ih0, ih1⟩ := conf_spots.mono_l k
    refine ⟨?_, ?_⟩
    · intro y0 y1 y2 y3
      unfold conf_spots.l0
      all_goals (repeat' first
      | (with_reducible exact ih0 _ _ _ _)
      | (with_reducible exact ih1 _ _ _ _ _ _ _ _)
      | (with_reducible exact LeO.refl _)
      | (with_reducible exact LeO.none _)
      | (with_reducible refine LeO.ite ?_ ?_)
      | (with_reducible refine LeO.bind ?_ (fun _ => ?_)))
    · intro y0 y1 y2 y3 y4 y5 y6 y7
      unfold conf_spots.l1
      all_goals (repeat' first
      | (with_reducible exact ih0 _ _ _ _)
      | (with_reducible exact ih1 _ _ _ _ _ _ _ _)
      | (with_reducible exact LeO.refl _)
      | (with_reducible exact LeO.none _)
      | (with_reducible refine LeO.ite ?_ ?_)
      | (with_reducible refine LeO.bind ?_ (fun _ => ?_)))
theorem conf_spots.mono : ∀ a0 a1 a2 k, LeO (conf_spots.f k a0 a1 a2) (conf_spots.f (k + 1) a0 a1 a2) := by
 intro a0 a1 a2 k
 obtain ⟨ih0, ih1⟩ := conf_spots.mono_l k
 unfold conf_spots.f
 repeat' first
  | (with_reducible exact ih0 _ _ _ _)
  | (with_reducible exact ih1 _ _ _ _ _ _ _ _)
  | (with_reducible exact LeO.refl _)
  | (with_reducible exact LeO.none _)
  | (with_reducible refine LeO.ite ?_ ?_)
  | (with_reducible refine LeO.bind ?_ (fun _ => ?_))
set_option maxHeartbeats 8000000 in
theorem conf_fair.mono_l : ∀ k, (∀ y0 y1 y2 y3 y4 y5 y6 y7, LeO (conf_fair.j0 k y0 y1 y2 y3 y4 y5 y6 y7) (conf_fair.j0 (k + 1) y0 y1 y2 y3 y4 y5 y6 y7)) ∧ (∀ y0 y1 y2 y3 y4 y5 y6 y7 y8 y9, LeO (conf_fair.l0 k y0 y1 y2 y3 y4 y5 y6 y7 y8 y9) (conf_fair.l0 (k + 1) y0 y1 y2 y3 y4 y5 y6 y7 y8 y9)) ∧ (∀ y0 y1 y2, LeO (conf_fair.l1 k y0 y1 y2) (conf_fair.l1 (k + 1) y0 y1 y2))
  | 0 => ⟨fun _ _ _ _ _ _ _ _ r h => by simp [conf_fair.j0] at h, fun _ _ _ _ _ _ _ _ _ _ r h => by simp [conf_fair.l0] at h, fun _ _ _ r h => by simp [conf_fair.l1] at h⟩
  | k + 1 => by
    obtain ⟨ih0, ih1, ih2⟩ := conf_fair.mono_l k
    refine ⟨?_, ?_, ?_⟩
    · intro y0 y1 y2 y3 y4 y5 y6 y7
      unfold conf_fair.j0
      all_goals (repeat' first
      | (with_reducible exact ih0 _ _ _ _ _ _ _ _)
      | (with_reducible exact ih1 _ _ _ _ _ _ _ _ _ _)
      | (with_reducible exact ih2 _ _ _)
      | (with_reducible exact LeO.refl _)
      | (with_reducible exact LeO.none _)
      | (with_reducible refine LeO.ite ?_ ?_)
      | (with_reducible refine LeO.bind ?_ (fun _ => ?_)))
    · intro y0 y1 y2 y3 y4 y5 y6 y7 y8 y9
      unfold conf_fair.l0
      all_goals (repeat' first
      | (with_reducible exact ih0 _ _ _ _ _ _ _ _)
      | (with_reducible exact ih1 _ _ _ _ _ _ _ _ _ _)
      | (with_reducible exact ih2 _ _ _)
      | (with_reducible exact LeO.refl _)
      | (with_reducible exact LeO.none _)
      | (with_reducible refine LeO.ite ?_ ?_)
      | (with_reducible refine LeO.bind ?_ (fun _ => ?_)))
    · intro y0 y1 y2
      unfold conf_fair.l1
      all_goals (repeat' first
      | (with_reducible exact ih0 _ _ _ _ _ _ _ _)
      | (with_reducible exact ih1 _ _ _ _ _ _ _ _ _ _)
      | (with_reducible exact ih2 _ _ _)
      | (with_reducible exact LeO.refl _)
      | (with_reducible exact LeO.none _)
      | (with_reducible refine LeO.ite ?_ ?_)
      | (with_reducible refine LeO.bind ?_ (fun _ => ?_)))
theorem conf_fair.mono : ∀ a0 a1 a2 a3 a4 a5 a6 k, LeO (conf_fair.f k a0 a1 a2 a3 a4 a5 a6) (conf_fair.f (k + 1) a0 a1 a2 a3 a4 a5 a6) := by
 intro a0 a1 a2 a3 a4 a5 a6 k
 obtain ⟨ih0, ih1, ih2⟩ := conf_fair.mono_l k
 unfold conf_fair.f
 repeat' first
  | (with_reducible exact ih0 _ _ _ _ _ _ _ _)
  | (with_reducible exact ih1 _ _ _ _ _ _ _ _ _ _)
  | (with_reducible exact ih2 _ _ _)
  | (with_reducible exact LeO.refl _)
  | (with_reducible exact LeO.none _)
  | (with_reducible refine LeO.ite ?_ ?_)
  | (with_reducible refine LeO.bind ?_ (fun _ => ?_))
set_option maxHeartbeats 8000000 in
theorem conf_form.mono_l : ∀ k, (∀ y0 y1 y2 y3, LeO (conf_form.j0 k y0 y1 y2 y3) (conf_form.j0 (k + 1) y0 y1 y2 y3)) ∧ (∀ y0 y1 y2 y3 y4 y5, LeO (conf_form.l0 k y0 y1 y2 y3 y4 y5) (conf_form.l0 (k + 1) y0 y1 y2 y3 y4 y5)) ∧ (∀ y0 y1 y2, LeO (conf_form.l1 k y0 y1 y2) (conf_form.l1 (k + 1) y0 y1 y2))
  | 0 => ⟨fun _ _ _ _ r h => by simp [conf_form.j0] at h, fun _ _ _ _ _ _ r h => by simp [conf_form.l0] at h, fun _ _ _ r h => by simp [conf_form.l1] at h⟩
  | k + 1 => by
    obtain ⟨ih0, ih1, ih2⟩ := conf_form.mono_l k
    refine ⟨?_, ?_, ?_⟩
    · intro y0 y1 y2 y3
      unfold conf_form.j0
      all_goals (repeat' first
      | (with_reducible exact ih0 _ _ _ _)
      | (with_reducible exact ih1 _ _ _ _ _ _)
      | (with_reducible exact ih2 _ _ _)
      | (with_reducible exact conf_spots.mono _ _ _ _)
      | (with_reducible exact conf_fair.mono _ _ _ _ _ _ _ _)
      | (with_reducible exact LeO.refl _)
      | (with_reducible exact LeO.none _)
      | (with_reducible refine LeO.ite ?_ ?_)
      | (with_reducible refine LeO.bind ?_ (fun _ => ?_)))
    · intro y0 y1 y2 y3 y4 y5
      unfold conf_form.l0
      all_goals (repeat' first
      | (with_reducible exact ih0 _ _ _ _)
      | (with_reducible exact ih1 _ _ _ _ _ _)
      | (with_reducible exact ih2 _ _ _)
      | (with_reducible exact conf_spots.mono _ _ _ _)
      | (with_reducible exact conf_fair.mono _ _ _ _ _ _ _ _)
      | (with_reducible exact LeO.refl _)
      | (with_reducible exact LeO.none _)
      | (with_reducible refine LeO.ite ?_ ?_)
      | (with_reducible refine LeO.bind ?_ (fun _ => ?_)))
    · intro y0 y1 y2
      unfold conf_form.l1
      all_goals (repeat' first
      | (with_reducible exact ih0 _ _ _ _)
      | (with_reducible exact ih1 _ _ _ _ _ _)
      | (with_reducible exact ih2 _ _ _)
      | (with_reducible exact conf_spots.mono _ _ _ _)
      | (with_reducible exact conf_fair.mono _ _ _ _ _ _ _ _)
      | (with_reducible exact LeO.refl _)
      | (with_reducible exact LeO.none _)
      | (with_reducible refine LeO.ite ?_ ?_)
      | (with_reducible refine LeO.bind ?_ (fun _ => ?_)))
theorem conf_form.mono : ∀ a0 a1 a2 k, LeO (conf_form.f k a0 a1 a2) (conf_form.f (k + 1) a0 a1 a2) := by
 intro a0 a1 a2 k
 obtain ⟨ih0, ih1, ih2⟩ := conf_form.mono_l k
 unfold conf_form.f
 repeat' first
  | (with_reducible exact ih0 _ _ _ _)
  | (with_reducible exact ih1 _ _ _ _ _ _)
  | (with_reducible exact ih2 _ _ _)
  | (with_reducible exact conf_spots.mono _ _ _ _)
  | (with_reducible exact conf_fair.mono _ _ _ _ _ _ _ _)
  | (with_reducible exact LeO.refl _)
  | (with_reducible exact LeO.none _)
  | (with_reducible refine LeO.ite ?_ ?_)
  | (with_reducible refine LeO.bind ?_ (fun _ => ?_))
set_option maxHeartbeats 8000000 in
theorem conf_placed.mono_l : ∀ k, (∀ y0 y1 y2 y3 y4 y5, LeO (conf_placed.l0 k y0 y1 y2 y3 y4 y5) (conf_placed.l0 (k + 1) y0 y1 y2 y3 y4 y5)) ∧ (∀ y0 y1 y2 y3 y4 y5 y6 y7 y8 y9 y10 y11 y12 y13 y14 y15 y16 y17, LeO (conf_placed.l1 k y0 y1 y2 y3 y4 y5 y6 y7 y8 y9 y10 y11 y12 y13 y14 y15 y16 y17) (conf_placed.l1 (k + 1) y0 y1 y2 y3 y4 y5 y6 y7 y8 y9 y10 y11 y12 y13 y14 y15 y16 y17)) ∧ (∀ y0 y1 y2 y3 y4 y5 y6 y7 y8 y9 y10 y11 y12 y13 y14 y15 y16 y17, LeO (conf_placed.l2 k y0 y1 y2 y3 y4 y5 y6 y7 y8 y9 y10 y11 y12 y13 y14 y15 y16 y17) (conf_placed.l2 (k + 1) y0 y1 y2 y3 y4 y5 y6 y7 y8 y9 y10 y11 y12 y13 y14 y15 y16 y17))
  | 0 => ⟨fun _ _ _ _ _ _ r h => by simp [conf_placed.l0] at h, fun _ _ _ _ _ _ _ _ _ _ _ _ _ _ _ _ _ _ r h => by simp [conf_placed.l1] at h, fun _ _ _ _ _ _ _ _ _ _ _ _ _ _ _ _ _ _ r h => by simp [conf_placed.l2] at h⟩
  | k + 1 => by
    obtain ⟨ih0, ih1, ih2⟩ := conf_placed.mono_l k
    refine ⟨?_, ?_, ?_⟩
    · intro y0 y1 y2 y3 y4 y5
      unfold conf_placed.l0
      all_goals (repeat' first
      | (with_reducible exact ih0 _ _ _ _ _ _)
      | (with_reducible exact ih1 _ _ _ _ _ _ _ _ _ _ _ _ _ _ _ _ _ _)
      | (with_reducible exact ih2 _ _ _ _ _ _ _ _ _ _ _ _ _ _ _ _ _ _)
      | (with_reducible exact conf_spots.mono _ _ _ _)
      | (with_reducible exact LeO.refl _)
      | (with_reducible exact LeO.none _)
      | (with_reducible refine LeO.ite ?_ ?_)
      | (with_reducible refine LeO.bind ?_ (fun _ => ?_)))
    · intro y0 y1 y2 y3 y4 y5 y6 y7 y8 y9 y10 y11 y12 y13 y14 y15 y16 y17
      unfold conf_placed.l1
      all_goals (repeat' first
      | (with_reducible exact ih0 _ _ _ _ _ _)
      | (with_reducible exact ih1 _ _ _ _ _ _ _ _ _ _ _ _ _ _ _ _ _ _)
      | (with_reducible exact ih2 _ _ _ _ _ _ _ _ _ _ _ _ _ _ _ _ _ _)
      | (with_reducible exact conf_spots.mono _ _ _ _)
      | (with_reducible exact LeO.refl _)
      | (with_reducible exact LeO.none _)
      | (with_reducible refine LeO.ite ?_ ?_)
      | (with_reducible refine LeO.bind ?_ (fun _ => ?_)))
    · intro y0 y1 y2 y3 y4 y5 y6 y7 y8 y9 y10 y11 y12 y13 y14 y15 y16 y17
      unfold conf_placed.l2
      all_goals (repeat' first
      | (with_reducible exact ih0 _ _ _ _ _ _)
      | (with_reducible exact ih1 _ _ _ _ _ _ _ _ _ _ _ _ _ _ _ _ _ _)
      | (with_reducible exact ih2 _ _ _ _ _ _ _ _ _ _ _ _ _ _ _ _ _ _)
      | (with_reducible exact conf_spots.mono _ _ _ _)
      | (with_reducible exact LeO.refl _)
      | (with_reducible exact LeO.none _)
      | (with_reducible refine LeO.ite ?_ ?_)
      | (with_reducible refine LeO.bind ?_ (fun _ => ?_)))
theorem conf_placed.mono : ∀ a0 a1 a2 k, LeO (conf_placed.f k a0 a1 a2) (conf_placed.f (k + 1) a0 a1 a2) := by
 intro a0 a1 a2 k
 obtain ⟨ih0, ih1, ih2⟩ := conf_placed.mono_l k
 unfold conf_placed.f
 repeat' first
  | (with_reducible exact ih0 _ _ _ _ _ _)
  | (with_reducible exact ih1 _ _ _ _ _ _ _ _ _ _ _ _ _ _ _ _ _ _)
  | (with_reducible exact ih2 _ _ _ _ _ _ _ _ _ _ _ _ _ _ _ _ _ _)
  | (with_reducible exact conf_spots.mono _ _ _ _)
  | (with_reducible exact LeO.refl _)
  | (with_reducible exact LeO.none _)
  | (with_reducible refine LeO.ite ?_ ?_)
  | (with_reducible refine LeO.bind ?_ (fun _ => ?_))
set_option maxHeartbeats 8000000 in
theorem conf_once.mono_l : ∀ k, (∀ y0 y1 y2 y3 y4 y5 y6 y7 y8 y9 y10 y11 y12 y13 y14 y15 y16 y17 y18 y19, LeO (conf_once.j0 k y0 y1 y2 y3 y4 y5 y6 y7 y8 y9 y10 y11 y12 y13 y14 y15 y16 y17 y18 y19) (conf_once.j0 (k + 1) y0 y1 y2 y3 y4 y5 y6 y7 y8 y9 y10 y11 y12 y13 y14 y15 y16 y17 y18 y19)) ∧ (∀ y0 y1 y2 y3 y4 y5 y6 y7 y8 y9 y10 y11 y12 y13 y14 y15 y16 y17 y18 y19 y20 y21, LeO (conf_once.l0 k y0 y1 y2 y3 y4 y5 y6 y7 y8 y9 y10 y11 y12 y13 y14 y15 y16 y17 y18 y19 y20 y21) (conf_once.l0 (k + 1) y0 y1 y2 y3 y4 y5 y6 y7 y8 y9 y10 y11 y12 y13 y14 y15 y16 y17 y18 y19 y20 y21)) ∧ (∀ y0 y1 y2 y3 y4 y5 y6 y7 y8 y9 y10 y11 y12 y13 y14 y15 y16 y17 y18 y19 y20 y21 y22 y23 y24 y25 y26 y27, LeO (conf_once.l1 k y0 y1 y2 y3 y4 y5 y6 y7 y8 y9 y10 y11 y12 y13 y14 y15 y16 y17 y18 y19 y20 y21 y22 y23 y24 y25 y26 y27) (conf_once.l1 (k + 1) y0 y1 y2 y3 y4 y5 y6 y7 y8 y9 y10 y11 y12 y13 y14 y15 y16 y17 y18 y19 y20 y21 y22 y23 y24 y25 y26 y27)) ∧ (∀ y0 y1 y2 y3 y4 y5 y6 y7 y8 y9 y10 y11 y12 y13 y14 y15 y16 y17 y18 y19 y20 y21, LeO (conf_once.l2 k y0 y1 y2 y3 y4 y5 y6 y7 y8 y9 y10 y11 y12 y13 y14 y15 y16 y17 y18 y19 y20 y21) (conf_once.l2 (k + 1) y0 y1 y2 y3 y4 y5 y6 y7 y8 y9 y10 y11 y12 y13 y14 y15 y16 y17 y18 y19 y20 y21)) ∧ (∀ y0 y1 y2 y3 y4 y5 y6 y7 y8 y9 y10 y11 y12 y13 y14 y15 y16 y17 y18 y19 y20 y21 y22 y23 y24 y25 y26 y27, LeO (conf_once.l3 k y0 y1 y2 y3 y4 y5 y6 y7 y8 y9 y10 y11 y12 y13 y14 y15 y16 y17 y18 y19 y20 y21 y22 y23 y24 y25 y26 y27) (conf_once.l3 (k + 1) y0 y1 y2 y3 y4 y5 y6 y7 y8 y9 y10 y11 y12 y13 y14 y15 y16 y17 y18 y19 y20 y21 y22 y23 y24 y25 y26 y27))
  | 0 => ⟨fun _ _ _ _ _ _ _ _ _ _ _ _ _ _ _ _ _ _ _ _ r h => by simp [conf_once.j0] at h, fun _ _ _ _ _ _ _ _ _ _ _ _ _ _ _ _ _ _ _ _ _ _ r h => by simp [conf_once.l0] at h, fun _ _ _ _ _ _ _ _ _ _ _ _ _ _ _ _ _ _ _ _ _ _ _ _ _ _ _ _ r h => by simp [conf_once.l1] at h, fun _ _ _ _ _ _ _ _ _ _ _ _ _ _ _ _ _ _ _ _ _ _ r h => by simp [conf_once.l2] at h, fun _ _ _ _ _ _ _ _ _ _ _ _ _ _ _ _ _ _ _ _ _ _ _ _ _ _ _ _ r h => by simp [conf_once.l3] at h⟩
  | k + 1 => by
    obtain ⟨ih0, ih1, ih2, ih3, ih4⟩ := conf_once.mono_l k
    refine ⟨?_, ?_, ?_, ?_, ?_⟩
    · intro y0 y1 y2 y3 y4 y5 y6 y7 y8 y9 y10 y11 y12 y13 y14 y15 y16 y17 y18 y19
      unfold conf_once.j0
      all_goals (repeat' first
      | (with_reducible exact ih0 _ _ _ _ _ _ _ _ _ _ _ _ _ _ _ _ _ _ _ _)
      | (with_reducible exact ih1 _ _ _ _ _ _ _ _ _ _ _ _ _ _ _ _ _ _ _ _ _ _)
      | (with_reducible exact ih2 _ _ _ _ _ _ _ _ _ _ _ _ _ _ _ _ _ _ _ _ _ _ _ _ _ _ _ _)
      | (with_reducible exact ih3 _ _ _ _ _ _ _ _ _ _ _ _ _ _ _ _ _ _ _ _ _ _)
      | (with_reducible exact ih4 _ _ _ _ _ _ _ _ _ _ _ _ _ _ _ _ _ _ _ _ _ _ _ _ _ _ _ _)
      | (with_reducible exact LeO.refl _)
      | (with_reducible exact LeO.none _)
      | (with_reducible refine LeO.ite ?_ ?_)
      | (with_reducible refine LeO.bind ?_ (fun _ => ?_)))
    · intro y0 y1 y2 y3 y4 y5 y6 y7 y8 y9 y10 y11 y12 y13 y14 y15 y16 y17 y18 y19 y20 y21
      unfold conf_once.l0
      all_goals (repeat' first
      | (with_reducible exact ih0 _ _ _ _ _ _ _ _ _ _ _ _ _ _ _ _ _ _ _ _)
      | (with_reducible exact ih1 _ _ _ _ _ _ _ _ _ _ _ _ _ _ _ _ _ _ _ _ _ _)
      | (with_reducible exact ih2 _ _ _ _ _ _ _ _ _ _ _ _ _ _ _ _ _ _ _ _ _ _ _ _ _ _ _ _)
      | (with_reducible exact ih3 _ _ _ _ _ _ _ _ _ _ _ _ _ _ _ _ _ _ _ _ _ _)
      | (with_reducible exact ih4 _ _ _ _ _ _ _ _ _ _ _ _ _ _ _ _ _ _ _ _ _ _ _ _ _ _ _ _)
      | (with_reducible exact LeO.refl _)
      | (with_reducible exact LeO.none _)
      | (with_reducible refine LeO.ite ?_ ?_)
      | (with_reducible refine LeO.bind ?_ (fun _ => ?_)))
    · intro y0 y1 y2 y3 y4 y5 y6 y7 y8 y9 y10 y11 y12 y13 y14 y15 y16 y17 y18 y19 y20 y21 y22 y23 y24 y25 y26 y27
      unfold conf_once.l1
      all_goals (repeat' first
      | (with_reducible exact ih0 _ _ _ _ _ _ _ _ _ _ _ _ _ _ _ _ _ _ _ _)
      | (with_reducible exact ih1 _ _ _ _ _ _ _ _ _ _ _ _ _ _ _ _ _ _ _ _ _ _)
      | (with_reducible exact ih2 _ _ _ _ _ _ _ _ _ _ _ _ _ _ _ _ _ _ _ _ _ _ _ _ _ _ _ _)
      | (with_reducible exact ih3 _ _ _ _ _ _ _ _ _ _ _ _ _ _ _ _ _ _ _ _ _ _)
      | (with_reducible exact ih4 _ _ _ _ _ _ _ _ _ _ _ _ _ _ _ _ _ _ _ _ _ _ _ _ _ _ _ _)
      | (with_reducible exact LeO.refl _)
      | (with_reducible exact LeO.none _)
      | (with_reducible refine LeO.ite ?_ ?_)
      | (with_reducible refine LeO.bind ?_ (fun _ => ?_)))
    · intro y0 y1 y2 y3 y4 y5 y6 y7 y8 y9 y10 y11 y12 y13 y14 y15 y16 y17 y18 y19 y20 y21
      unfold conf_once.l2
      all_goals (repeat' first
      | (with_reducible exact ih0 _ _ _ _ _ _ _ _ _ _ _ _ _ _ _ _ _ _ _ _)
      | (with_reducible exact ih1 _ _ _ _ _ _ _ _ _ _ _ _ _ _ _ _ _ _ _ _ _ _)
      | (with_reducible exact ih2 _ _ _ _ _ _ _ _ _ _ _ _ _ _ _ _ _ _ _ _ _ _ _ _ _ _ _ _)
      | (with_reducible exact ih3 _ _ _ _ _ _ _ _ _ _ _ _ _ _ _ _ _ _ _ _ _ _)
      | (with_reducible exact ih4 _ _ _ _ _ _ _ _ _ _ _ _ _ _ _ _ _ _ _ _ _ _ _ _ _ _ _ _)
      | (with_reducible exact LeO.refl _)
      | (with_reducible exact LeO.none _)
      | (with_reducible refine LeO.ite ?_ ?_)
      | (with_reducible refine LeO.bind ?_ (fun _ => ?_)))
    · intro y0 y1 y2 y3 y4 y5 y6 y7 y8 y9 y10 y11 y12 y13 y14 y15 y16 y17 y18 y19 y20 y21 y22 y23 y24 y25 y26 y27
      unfold conf_once.l3
      all_goals (repeat' first
      | (with_reducible exact ih0 _ _ _ _ _ _ _ _ _ _ _ _ _ _ _ _ _ _ _ _)
      | (with_reducible exact ih1 _ _ _ _ _ _ _ _ _ _ _ _ _ _ _ _ _ _ _ _ _ _)
      | (with_reducible exact ih2 _ _ _ _ _ _ _ _ _ _ _ _ _ _ _ _ _ _ _ _ _ _ _ _ _ _ _ _)
      | (with_reducible exact ih3 _ _ _ _ _ _ _ _ _ _ _ _ _ _ _ _ _ _ _ _ _ _)
      | (with_reducible exact ih4 _ _ _ _ _ _ _ _ _ _ _ _ _ _ _ _ _ _ _ _ _ _ _ _ _ _ _ _)
      | (with_reducible exact LeO.refl _)
      | (with_reducible exact LeO.none _)
      | (with_reducible refine LeO.ite ?_ ?_)
      | (with_reducible refine LeO.bind ?_ (fun _ => ?_)))
theorem conf_once.mono : ∀ a0 a1 a2 a3 a4 a5 a6 a7 a8 a9 a10 a11 a12 a13 a14 a15 a16 a17 a18 k, LeO (conf_once.f k a0 a1 a2 a3 a4 a5 a6 a7 a8 a9 a10 a11 a12 a13 a14 a15 a16 a17 a18) (conf_once.f (k + 1) a0 a1 a2 a3 a4 a5 a6 a7 a8 a9 a10 a11 a12 a13 a14 a15 a16 a17 a18) := by
 intro a0 a1 a2 a3 a4 a5 a6 a7 a8 a9 a10 a11 a12 a13 a14 a15 a16 a17 a18 k
 obtain ⟨ih0, ih1, ih2, ih3, ih4⟩ := conf_once.mono_l k
 unfold conf_once.f
 repeat' first
  | (with_reducible exact ih0 _ _ _ _ _ _ _ _ _ _ _ _ _ _ _ _ _ _ _ _)
  | (with_reducible exact ih1 _ _ _ _ _ _ _ _ _ _ _ _ _ _ _ _ _ _ _ _ _ _)
  | (with_reducible exact ih2 _ _ _ _ _ _ _ _ _ _ _ _ _ _ _ _ _ _ _ _ _ _ _ _ _ _ _ _)
  | (with_reducible exact ih3 _ _ _ _ _ _ _ _ _ _ _ _ _ _ _ _ _ _ _ _ _ _)
  | (with_reducible exact ih4 _ _ _ _ _ _ _ _ _ _ _ _ _ _ _ _ _ _ _ _ _ _ _ _ _ _ _ _)
  | (with_reducible exact LeO.refl _)
  | (with_reducible exact LeO.none _)
  | (with_reducible refine LeO.ite ?_ ?_)
  | (with_reducible refine LeO.bind ?_ (fun _ => ?_))
set_option maxHeartbeats 8000000 in
theorem conf_unlike.mono_l : ∀ k, (∀ y0 y1 y2 y3, LeO (conf_unlike.l0 k y0 y1 y2 y3) (conf_unlike.l0 (k + 1) y0 y1 y2 y3)) ∧ (∀ y0 y1 y2 y3 y4 y5 y6 y7 y8 y9 y10 y11 y12 y13 y14 y15 y16, LeO (conf_unlike.l1 k y0 y1 y2 y3 y4 y5 y6 y7 y8 y9 y10 y11 y12 y13 y14 y15 y16) (conf_unlike.l1 (k + 1) y0 y1 y2 y3 y4 y5 y6 y7 y8 y9 y10 y11 y12 y13 y14 y15 y16))
  | 0 => ⟨fun _ _ _ _ r h => by simp [conf_unlike.l0] at h, fun _ _ _ _ _ _ _ _ _ _ _ _ _ _ _ _ _ r h => by simp [conf_unlike.l1] at h⟩
  | k + 1 => by
    obtain ⟨ih0, ih1⟩ := conf_unlike.mono_l k
    refine ⟨?_, ?_⟩
    · intro y0 y1 y2 y3
      unfold conf_unlike.l0
      all_goals (repeat' first
      | (with_reducible exact ih0 _ _ _ _)
      | (with_reducible exact ih1 _ _ _ _ _ _ _ _ _ _ _ _ _ _ _ _ _)
      | (with_reducible exact conf_once.mono _ _ _ _ _ _ _ _ _ _ _ _ _ _ _ _ _ _ _ _)
      | (with_reducible exact conf_spots.mono _ _ _ _)
      | (with_reducible exact LeO.refl _)
      | (with_reducible exact LeO.none _)
      | (with_reducible refine LeO.ite ?_ ?_)
      | (with_reducible refine LeO.bind ?_ (fun _ => ?_)))
    · intro y0 y1 y2 y3 y4 y5 y6 y7 y8 y9 y10 y11 y12 y13 y14 y15 y16
      unfold conf_unlike.l1
      all_goals (repeat' first
      | (with_reducible exact ih0 _ _ _ _)
      | (with_reducible exact ih1 _ _ _ _ _ _ _ _ _ _ _ _ _ _ _ _ _)
      | (with_reducible exact conf_once.mono _ _ _ _ _ _ _ _ _ _ _ _ _ _ _ _ _ _ _ _)
      | (with_reducible exact conf_spots.mono _ _ _ _)
      | (with_reducible exact LeO.refl _)
      | (with_reducible exact LeO.none _)
      | (with_reducible refine LeO.ite ?_ ?_)
      | (with_reducible refine LeO.bind ?_ (fun _ => ?_)))
theorem conf_unlike.mono : ∀ a0 a1 a2 k, LeO (conf_unlike.f k a0 a1 a2) (conf_unlike.f (k + 1) a0 a1 a2) := by
 intro a0 a1 a2 k
 obtain ⟨ih0, ih1⟩ := conf_unlike.mono_l k
 unfold conf_unlike.f
 repeat' first
  | (with_reducible exact ih0 _ _ _ _)
  | (with_reducible exact ih1 _ _ _ _ _ _ _ _ _ _ _ _ _ _ _ _ _)
  | (with_reducible exact conf_once.mono _ _ _ _ _ _ _ _ _ _ _ _ _ _ _ _ _ _ _ _)
  | (with_reducible exact conf_spots.mono _ _ _ _)
  | (with_reducible exact LeO.refl _)
  | (with_reducible exact LeO.none _)
  | (with_reducible refine LeO.ite ?_ ?_)
  | (with_reducible refine LeO.bind ?_ (fun _ => ?_))
theorem conf_Check.mono : ∀ a0 a1 a2 k, LeO (conf_Check.f k a0 a1 a2) (conf_Check.f (k + 1) a0 a1 a2) := by
 intro a0 a1 a2 k
 unfold conf_Check.f
 repeat' first
  | (with_reducible exact conf_form.mono _ _ _ _)
  | (with_reducible exact conf_placed.mono _ _ _ _)
  | (with_reducible exact conf_unlike.mono _ _ _ _)
  | (with_reducible exact LeO.refl _)
  | (with_reducible exact LeO.none _)
  | (with_reducible refine LeO.ite ?_ ?_)
  | (with_reducible refine LeO.bind ?_ (fun _ => ?_))
theorem conf_right.mono : ∀ a0 a1 a2 k, LeO (conf_right.f k a0 a1 a2) (conf_right.f (k + 1) a0 a1 a2) := by
 intro a0 a1 a2 k
 unfold conf_right.f
 repeat' first
  | (with_reducible exact conf_Check.mono _ _ _ _)
  | (with_reducible exact conf_spots.mono _ _ _ _)
  | (with_reducible exact LeO.refl _)
  | (with_reducible exact LeO.none _)
  | (with_reducible refine LeO.ite ?_ ?_)
  | (with_reducible refine LeO.bind ?_ (fun _ => ?_))
set_option maxHeartbeats 8000000 in
theorem conf_Find.mono_l : ∀ k, (∀ y0 y1 y2 y3, LeO (conf_Find.l0 k y0 y1 y2 y3) (conf_Find.l0 (k + 1) y0 y1 y2 y3))
  | 0 => fun _ _ _ _ r h => by simp [conf_Find.l0] at h
  | k + 1 => by
    have ih0 := conf_Find.mono_l k
    intro y0 y1 y2 y3
    unfold conf_Find.l0
    all_goals (repeat' first
      | (with_reducible exact ih0 _ _ _ _)
      | (with_reducible exact conf_right.mono _ _ _ _)
      | (with_reducible exact LeO.refl _)
      | (with_reducible exact LeO.none _)
      | (with_reducible refine LeO.ite ?_ ?_)
      | (with_reducible refine LeO.bind ?_ (fun _ => ?_)))
theorem conf_Find.mono : ∀ a0 a1 a2 a3 k, LeO (conf_Find.f k a0 a1 a2 a3) (conf_Find.f (k + 1) a0 a1 a2 a3) := by
 intro a0 a1 a2 a3 k
 have ih0 := conf_Find.mono_l k
 unfold conf_Find.f
 repeat' first
  | (with_reducible exact ih0 _ _ _ _)
  | (with_reducible exact conf_right.mono _ _ _ _)
  | (with_reducible exact LeO.refl _)
  | (with_reducible exact LeO.none _)
  | (with_reducible refine LeO.ite ?_ ?_)
  | (with_reducible refine LeO.bind ?_ (fun _ => ?_))
set_option maxHeartbeats 8000000 in
theorem conf_Keeper.mono_l : ∀ k, (∀ y0 y1 y2 y3, LeO (conf_Keeper.l0 k y0 y1 y2 y3) (conf_Keeper.l0 (k + 1) y0 y1 y2 y3)) ∧ (∀ y0 y1 y2 y3 y4 y5 y6, LeO (conf_Keeper.l1 k y0 y1 y2 y3 y4 y5 y6) (conf_Keeper.l1 (k + 1) y0 y1 y2 y3 y4 y5 y6))
  | 0 => ⟨fun _ _ _ _ r h => by simp [conf_Keeper.l0] at h, fun _ _ _ _ _ _ _ r h => by simp [conf_Keeper.l1] at h⟩
  | k + 1 => by
    obtain ⟨ih0, ih1⟩ := conf_Keeper.mono_l k
    refine ⟨?_, ?_⟩
    · intro y0 y1 y2 y3
      unfold conf_Keeper.l0
      all_goals (repeat' first
      | (with_reducible exact ih0 _ _ _ _)
      | (with_reducible exact ih1 _ _ _ _ _ _ _)
      | (with_reducible exact conf_right.mono _ _ _ _)
      | (with_reducible exact LeO.refl _)
      | (with_reducible exact LeO.none _)
      | (with_reducible refine LeO.ite ?_ ?_)
      | (with_reducible refine LeO.bind ?_ (fun _ => ?_)))
    · intro y0 y1 y2 y3 y4 y5 y6
      unfold conf_Keeper.l1
      all_goals (repeat' first
      | (with_reducible exact ih0 _ _ _ _)
      | (with_reducible exact ih1 _ _ _ _ _ _ _)
      | (with_reducible exact conf_right.mono _ _ _ _)
      | (with_reducible exact LeO.refl _)
      | (with_reducible exact LeO.none _)
      | (with_reducible refine LeO.ite ?_ ?_)
      | (with_reducible refine LeO.bind ?_ (fun _ => ?_)))
theorem conf_Keeper.mono : ∀ a0 a1 a2 a3 k, LeO (conf_Keeper.f k a0 a1 a2 a3) (conf_Keeper.f (k + 1) a0 a1 a2 a3) := by
 intro a0 a1 a2 a3 k
 obtain ⟨ih0, ih1⟩ := conf_Keeper.mono_l k
 unfold conf_Keeper.f
 repeat' first
  | (with_reducible exact ih0 _ _ _ _)
  | (with_reducible exact ih1 _ _ _ _ _ _ _)
  | (with_reducible exact conf_right.mono _ _ _ _)
  | (with_reducible exact LeO.refl _)
  | (with_reducible exact LeO.none _)
  | (with_reducible refine LeO.ite ?_ ?_)
  | (with_reducible refine LeO.bind ?_ (fun _ => ?_))
set_option maxHeartbeats 8000000 in
theorem conf_KeptFor.mono_l : ∀ k, (∀ y0 y1 y2 y3 y4, LeO (conf_KeptFor.l0 k y0 y1 y2 y3 y4) (conf_KeptFor.l0 (k + 1) y0 y1 y2 y3 y4)) ∧ (∀ y0 y1 y2 y3 y4 y5 y6 y7 y8 y9 y10 y11 y12 y13 y14 y15 y16, LeO (conf_KeptFor.l1 k y0 y1 y2 y3 y4 y5 y6 y7 y8 y9 y10 y11 y12 y13 y14 y15 y16) (conf_KeptFor.l1 (k + 1) y0 y1 y2 y3 y4 y5 y6 y7 y8 y9 y10 y11 y12 y13 y14 y15 y16))
  | 0 => ⟨fun _ _ _ _ _ r h => by simp [conf_KeptFor.l0] at h, fun _ _ _ _ _ _ _ _ _ _ _ _ _ _ _ _ _ r h => by simp [conf_KeptFor.l1] at h⟩
  | k + 1 => by
    obtain ⟨ih0, ih1⟩ := conf_KeptFor.mono_l k
    refine ⟨?_, ?_⟩
    · intro y0 y1 y2 y3 y4
      unfold conf_KeptFor.l0
      all_goals (repeat' first
      | (with_reducible exact ih0 _ _ _ _ _)
      | (with_reducible exact ih1 _ _ _ _ _ _ _ _ _ _ _ _ _ _ _ _ _)
      | (with_reducible exact conf_right.mono _ _ _ _)
      | (with_reducible exact LeO.refl _)
      | (with_reducible exact LeO.none _)
      | (with_reducible refine LeO.ite ?_ ?_)
      | (with_reducible refine LeO.bind ?_ (fun _ => ?_)))
    · intro y0 y1 y2 y3 y4 y5 y6 y7 y8 y9 y10 y11 y12 y13 y14 y15 y16
      unfold conf_KeptFor.l1
      all_goals (repeat' first
      | (with_reducible exact ih0 _ _ _ _ _)
      | (with_reducible exact ih1 _ _ _ _ _ _ _ _ _ _ _ _ _ _ _ _ _)
      | (with_reducible exact conf_right.mono _ _ _ _)
      | (with_reducible exact LeO.refl _)
      | (with_reducible exact LeO.none _)
      | (with_reducible refine LeO.ite ?_ ?_)
      | (with_reducible refine LeO.bind ?_ (fun _ => ?_)))
theorem conf_KeptFor.mono : ∀ a0 a1 a2 a3 a4 k, LeO (conf_KeptFor.f k a0 a1 a2 a3 a4) (conf_KeptFor.f (k + 1) a0 a1 a2 a3 a4) := by
 intro a0 a1 a2 a3 a4 k
 obtain ⟨ih0, ih1⟩ := conf_KeptFor.mono_l k
 unfold conf_KeptFor.f
 repeat' first
  | (with_reducible exact ih0 _ _ _ _ _)
  | (with_reducible exact ih1 _ _ _ _ _ _ _ _ _ _ _ _ _ _ _ _ _)
  | (with_reducible exact conf_right.mono _ _ _ _)
  | (with_reducible exact LeO.refl _)
  | (with_reducible exact LeO.none _)
  | (with_reducible refine LeO.ite ?_ ?_)
  | (with_reducible refine LeO.bind ?_ (fun _ => ?_))
set_option maxHeartbeats 8000000 in
theorem conf_InPool.mono_l : ∀ k, (∀ y0 y1 y2 y3 y4, LeO (conf_InPool.l0 k y0 y1 y2 y3 y4) (conf_InPool.l0 (k + 1) y0 y1 y2 y3 y4)) ∧ (∀ y0 y1 y2 y3 y4 y5 y6 y7 y8 y9 y10 y11 y12 y13 y14 y15 y16, LeO (conf_InPool.l1 k y0 y1 y2 y3 y4 y5 y6 y7 y8 y9 y10 y11 y12 y13 y14 y15 y16) (conf_InPool.l1 (k + 1) y0 y1 y2 y3 y4 y5 y6 y7 y8 y9 y10 y11 y12 y13 y14 y15 y16))
  | 0 => ⟨fun _ _ _ _ _ r h => by simp [conf_InPool.l0] at h, fun _ _ _ _ _ _ _ _ _ _ _ _ _ _ _ _ _ r h => by simp [conf_InPool.l1] at h⟩
  | k + 1 => by
    obtain ⟨ih0, ih1⟩ := conf_InPool.mono_l k
    refine ⟨?_, ?_⟩
    · intro y0 y1 y2 y3 y4
      unfold conf_InPool.l0
      all_goals (repeat' first
      | (with_reducible exact ih0 _ _ _ _ _)
      | (with_reducible exact ih1 _ _ _ _ _ _ _ _ _ _ _ _ _ _ _ _ _)
      | (with_reducible exact conf_right.mono _ _ _ _)
      | (with_reducible exact LeO.refl _)
      | (with_reducible exact LeO.none _)
      | (with_reducible refine LeO.ite ?_ ?_)
      | (with_reducible refine LeO.bind ?_ (fun _ => ?_)))
    · intro y0 y1 y2 y3 y4 y5 y6 y7 y8 y9 y10 y11 y12 y13 y14 y15 y16
      unfold conf_InPool.l1
      all_goals (repeat' first
      | (with_reducible exact ih0 _ _ _ _ _)
      | (with_reducible exact ih1 _ _ _ _ _ _ _ _ _ _ _ _ _ _ _ _ _)
      | (with_reducible exact conf_right.mono _ _ _ _)
      | (with_reducible exact LeO.refl _)
      | (with_reducible exact LeO.none _)
      | (with_reducible refine LeO.ite ?_ ?_)
      | (with_reducible refine LeO.bind ?_ (fun _ => ?_)))
theorem conf_InPool.mono : ∀ a0 a1 a2 a3 a4 k, LeO (conf_InPool.f k a0 a1 a2 a3 a4) (conf_InPool.f (k + 1) a0 a1 a2 a3 a4) := by
 intro a0 a1 a2 a3 a4 k
 obtain ⟨ih0, ih1⟩ := conf_InPool.mono_l k
 unfold conf_InPool.f
 repeat' first
  | (with_reducible exact ih0 _ _ _ _ _)
  | (with_reducible exact ih1 _ _ _ _ _ _ _ _ _ _ _ _ _ _ _ _ _)
  | (with_reducible exact conf_right.mono _ _ _ _)
  | (with_reducible exact LeO.refl _)
  | (with_reducible exact LeO.none _)
  | (with_reducible refine LeO.ite ?_ ?_)
  | (with_reducible refine LeO.bind ?_ (fun _ => ?_))
set_option maxHeartbeats 8000000 in
theorem boarderlaw13_knows.mono_l : ∀ k, (∀ y0 y1 y2, LeO (boarderlaw13_knows.j0 k y0 y1 y2) (boarderlaw13_knows.j0 (k + 1) y0 y1 y2)) ∧ (∀ y0 y1 y2 y3 y4 y5, LeO (boarderlaw13_knows.j1 k y0 y1 y2 y3 y4 y5) (boarderlaw13_knows.j1 (k + 1) y0 y1 y2 y3 y4 y5))
  | 0 => ⟨fun _ _ _ r h => by simp [boarderlaw13_knows.j0] at h, fun _ _ _ _ _ _ r h => by simp [boarderlaw13_knows.j1] at h⟩
  | k + 1 => by
    obtain ⟨ih0, ih1⟩ := boarderlaw13_knows.mono_l k
    refine ⟨?_, ?_⟩
    · intro y0 y1 y2
      unfold boarderlaw13_knows.j0
      all_goals (repeat' first
      | (with_reducible exact ih0 _ _ _)
      | (with_reducible exact ih1 _ _ _ _ _ _)
      | (with_reducible exact conf_Find.mono _ _ _ _ _)
      | (with_reducible exact conf_Keeper.mono _ _ _ _ _)
      | (with_reducible exact conf_KeptFor.mono _ _ _ _ _ _)
      | (with_reducible exact conf_Check.mono _ _ _ _)
      | (with_reducible exact conf_InPool.mono _ _ _ _ _ _)
      | (with_reducible exact LeO.refl _)
      | (with_reducible exact LeO.none _)
      | (with_reducible refine LeO.ite ?_ ?_)
      | (with_reducible refine LeO.bind ?_ (fun _ => ?_)))
    · intro y0 y1 y2 y3 y4 y5
      unfold boarderlaw13_knows.j1
      all_goals (repeat' first
      | (with_reducible exact ih0 _ _ _)
      | (with_reducible exact ih1 _ _ _ _ _ _)
      | (with_reducible exact conf_Find.mono _ _ _ _ _)
      | (with_reducible exact conf_Keeper.mono _ _ _ _ _)
      | (with_reducible exact conf_KeptFor.mono _ _ _ _ _ _)
      | (with_reducible exact conf_Check.mono _ _ _ _)
      | (with_reducible exact conf_InPool.mono _ _ _ _ _ _)
      | (with_reducible exact LeO.refl _)
      | (with_reducible exact LeO.none _)
      | (with_reducible refine LeO.ite ?_ ?_)
      | (with_reducible refine LeO.bind ?_ (fun _ => ?_)))
theorem boarderlaw13_knows.mono : ∀ k, LeO (boarderlaw13_knows.f k) (boarderlaw13_knows.f (k + 1)) := by
 intro k
 obtain ⟨ih0, ih1⟩ := boarderlaw13_knows.mono_l k
 unfold boarderlaw13_knows.f
 repeat' first
  | (with_reducible exact ih0 _ _ _)
  | (with_reducible exact ih1 _ _ _ _ _ _)
  | (with_reducible exact conf_Find.mono _ _ _ _ _)
  | (with_reducible exact conf_Keeper.mono _ _ _ _ _)
  | (with_reducible exact conf_KeptFor.mono _ _ _ _ _ _)
  | (with_reducible exact conf_Check.mono _ _ _ _)
  | (with_reducible exact conf_InPool.mono _ _ _ _ _ _)
  | (with_reducible exact LeO.refl _)
  | (with_reducible exact LeO.none _)
  | (with_reducible refine LeO.ite ?_ ?_)
  | (with_reducible refine LeO.bind ?_ (fun _ => ?_))
end Go.Proofs.Ytdcabfonjmeajaa.POrder
set_option linter.unusedVariables false
set_option linter.unusedSimpArgs false
namespace Go.Proofs.Ytdcabfonjmeajaa.POrder
open Go.RowKit Go.Proofs.YtdcabfonjmeajaaW.PrintWords Go.Proofs.YtdcabfonjmeajaaW.PrintLast Go.Proofs.YtdcabfonjmeajaaW.PrintMore

/-! ### boarderlaw13.knows -/
theorem boarderlaw13_knows_s : Ev (fun k => boarderlaw13_knows.f k) true := Ev.of (k := 400) boarderlaw13_knows.mono (by kernel_rfl)

end Go.Proofs.Ytdcabfonjmeajaa.POrder
set_option linter.unusedVariables false
set_option linter.unusedSimpArgs false
namespace Go.Proofs.Ytdcabfonjmeajaa.POrder
open Go.RowKit Go.Proofs.YtdcabfonjmeajaaW.PrintWords Go.Proofs.YtdcabfonjmeajaaW.PrintLast Go.Proofs.YtdcabfonjmeajaaW.PrintMore

/-! ### addr.Right -/
theorem addr_Right_s (a : Int) : addr_Right.f a = some (decide (0 ≤ a ∧ a ≤ 4294967295)) := by
  unfold addr_Right.f
  by_cases h : a ≥ 0
  · rw [if_pos h]; congr 1; exact decide_eq_decide.2 ⟨fun h2 => ⟨h, h2⟩, fun h2 => h2.2⟩
  · rw [if_neg h, decide_eq_false (by omega)]

end Go.Proofs.Ytdcabfonjmeajaa.POrder
set_option linter.unusedVariables false
set_option linter.unusedSimpArgs false
namespace Go.Proofs.Ytdcabfonjmeajaa.POrder
open Go.RowKit Go.Proofs.YtdcabfonjmeajaaW.PrintWords Go.Proofs.YtdcabfonjmeajaaW.PrintLast Go.Proofs.YtdcabfonjmeajaaW.PrintMore

/-! ### conf.within -/
theorem conf_within_s (a b c : Int) : conf_within.f a b c = some (decide (b ≤ a ∧ a ≤ c)) := by
  unfold conf_within.f
  by_cases h : a ≥ b
  · rw [if_pos h]; congr 1; exact decide_eq_decide.2 ⟨fun h2 => ⟨h, h2⟩, fun h2 => h2.2⟩
  · rw [if_neg h, decide_eq_false (fun h2 => h h2.1)]

end Go.Proofs.Ytdcabfonjmeajaa.POrder
set_option linter.unusedVariables false
set_option linter.unusedSimpArgs false
namespace Go.Proofs.Ytdcabfonjmeajaa.POrder
open Go.RowKit Go.Proofs.YtdcabfonjmeajaaW.PrintWords Go.Proofs.YtdcabfonjmeajaaW.PrintLast Go.Proofs.YtdcabfonjmeajaaW.PrintMore

/-! ### conf.spots -/
theorem conf_spots_l1 (nets : List Nt) (m : Nat) (subs : List Sb) (hm : m < nets.length) (hn : nets.length ≤ 10) (hs : subs.length ≤ 10) : ∀ (d i : Nat) (out : List Sp) (r : List Sp), i + d = subs.length → out.length + d ≤ 1000 →
    Ev (fun k => conf_spots.l0 k (out ++ subAt (m : Int) i (subs.drop i)) nets (nets.length : Int) ((m + 1 : Nat) : Int)) r → Ev (fun k => conf_spots.l1 k out (m : Int) nets (nets.length : Int) (m : Int) subs (subs.length : Int) (i : Int)) r := by
  intro d
  induction d with
  | zero =>
    intro i out r hi ho h
    rw [List.drop_eq_nil_of_le (by omega), subAt, List.append_nil] at h
    refine Ev.step (fun k => ?_) h
    show conf_spots.l1 (k + 1) _ _ _ _ _ _ _ _ = _
    rw [conf_spots.l1, if_neg (by omega), wrap_next hm (by omega)]
  | succ d ih =>
    intro i out r hi ho h
    have hl : i < subs.length := by omega
    refine Ev.step (fun k => ?_) (ih (i + 1) (out ++ [⟨(m : Int), (i : Int), subs[i]⟩]) r (by omega) (by rw [List.length_append, List.length_singleton]; omega) ?_)
    · show conf_spots.l1 (k + 1) _ _ _ _ _ _ _ _ = _
      rw [conf_spots.l1, if_pos (by omega), if_pos (by omega), if_pos (by omega), if_pos (by omega), show rd_T57 subs (i : Int) = subs[i] from rd_get hl, wrap_next hl (by omega)]
    · rw [List.append_assoc, List.singleton_append]
      rwa [List.drop_eq_getElem_cons hl, subAt] at h
theorem conf_spots_l0 (nets : List Nt) (hn : nets.length ≤ 10) (hx : ∀ x ∈ nets, x.f0.length ≤ 10) : ∀ (d m : Nat) (out : List Sp), m + d = nets.length → out.length + 10 * d ≤ 500 →
    Ev (fun k => conf_spots.l0 k out nets (nets.length : Int) (m : Int)) (out ++ spotsFrom m (nets.drop m)) := by
  intro d
  induction d with
  | zero =>
    intro m out hm ho
    rw [List.drop_eq_nil_of_le (by omega), spotsFrom, List.append_nil]
    refine Ev.step (f := fun _ => some out) (fun k => ?_) Ev.some'
    show conf_spots.l0 (k + 1) _ _ _ _ = _
    rw [conf_spots.l0, if_neg (by omega)]
  | succ d ih =>
    intro m out hm ho
    have hl : m < nets.length := by omega
    have h10 := hx nets[m] (List.getElem_mem hl)
    rw [List.drop_eq_getElem_cons hl, spotsFrom, ← List.append_assoc]
    refine Ev.step (fun k => ?_) (conf_spots_l1 nets m nets[m].f0 hl hn h10 nets[m].f0.length 0 out _ (by omega) (by omega) ?_)
    · show conf_spots.l0 (k + 1) _ _ _ _ = _
      rw [conf_spots.l0, if_pos (by omega), if_pos (by omega), if_pos (by omega), show rd_T41 nets (m : Int) = nets[m] from rd_get hl]
      rfl
    · rw [List.drop_zero]
      exact ih (m + 1) _ (by omega) (by rw [List.length_append, subAt_len]; omega)
theorem conf_spots_s (a b : Int) (nets : List Nt) (h : Sm nets) : Ev (fun k => conf_spots.f k a b nets) (spotsL nets) := by
  have e := conf_spots_l0 nets h.1 (fun x hx => (h.2 x hx).1) nets.length 0 [] (by omega) (by have := h.1; simp; omega)
  rw [List.drop_zero, List.nil_append] at e
  exact e

end Go.Proofs.Ytdcabfonjmeajaa.POrder
set_option linter.unusedVariables false
set_option linter.unusedSimpArgs false
namespace Go.Proofs.Ytdcabfonjmeajaa.POrder
open Go.RowKit Go.Proofs.YtdcabfonjmeajaaW.PrintWords Go.Proofs.YtdcabfonjmeajaaW.PrintLast Go.Proofs.YtdcabfonjmeajaaW.PrintMore

/-! ### addr.mask -/
theorem addr_mask_all : ∀ i : Fin 33, addr_mask.f (i.val : Int) = some (4294967296 - (Com.sz (i.val : Int) : Int)) := by decide +kernel
theorem addr_mask_s (n : Int) (h0 : 0 ≤ n) (h1 : n ≤ 32) : addr_mask.f n = some (4294967296 - (Com.sz n : Int)) := by
  have := addr_mask_all ⟨n.toNat, by omega⟩
  rw [show ((⟨n.toNat, by omega⟩ : Fin 33).val : Int) = n from by simp; omega] at this
  exact this
theorem addr_mask_n (n : Int) : 4294967296 - (Com.sz n : Int) = ((4294967296 - 2 ^ (32 - n.toNat) : Nat) : Int) := by
  have := Com.sz_le n
  unfold Com.sz at *
  omega

end Go.Proofs.Ytdcabfonjmeajaa.POrder
set_option linter.unusedVariables false
set_option linter.unusedSimpArgs false
namespace Go.Proofs.Ytdcabfonjmeajaa.POrder
open Go.RowKit Go.Proofs.YtdcabfonjmeajaaW.PrintWords Go.Proofs.YtdcabfonjmeajaaW.PrintLast Go.Proofs.YtdcabfonjmeajaaW.PrintMore

/-! ### addr.Fair -/
theorem addr_Fair_s (b n : Int) : addr_Fair.f b n = some (Com.fairB b n) := by
  unfold addr_Fair.f Com.fairB
  by_cases h0 : n ≥ 0
  · rw [if_pos h0]
    by_cases h1 : n ≤ 32
    · rw [if_pos h1, addr_Right_s]
      simp only [Option.bind_some]
      by_cases h2 : 0 ≤ b ∧ b ≤ 4294967295
      · rw [decide_eq_true h2, if_pos rfl, addr_mask_s n h0 h1, Option.bind_some]
        obtain ⟨x, rfl⟩ := Int.eq_ofNat_of_zero_le h2.1
        rw [addr_mask_n, Com.i64_andNot_mask x (32 - n.toNat) (by omega) (by omega)]
        congr 1
        have e : ((x % 2 ^ (32 - n.toNat) : Nat) : Int) = (x : Int) % (Com.sz n : Int) := by unfold Com.sz; push_cast; rfl
        rw [e, Bool.eq_iff_iff, beq_iff_eq, decide_eq_true_iff]
        exact ⟨fun h => ⟨h0, h1, h2.1, h2.2, h⟩, fun h => h.2.2.2.2⟩
      · rw [decide_eq_false h2, if_neg (by simp), decide_eq_false (fun h => h2 ⟨h.2.2.1, h.2.2.2.1⟩)]
    · rw [if_neg h1, decide_eq_false (fun h => h1 h.2.1)]
  · rw [if_neg h0, decide_eq_false (fun h => h0 h.1)]

end Go.Proofs.Ytdcabfonjmeajaa.POrder
set_option linter.unusedVariables false
set_option linter.unusedSimpArgs false
namespace Go.Proofs.Ytdcabfonjmeajaa.POrder
open Go.RowKit Go.Proofs.YtdcabfonjmeajaaW.PrintWords Go.Proofs.YtdcabfonjmeajaaW.PrintLast Go.Proofs.YtdcabfonjmeajaaW.PrintMore

/-! ### key.Right -/
theorem key_Right_s (s : ByteArray) (hs : s.size ≤ maxLen) : key_Right.f s = some (keyB s) := by
  unfold key_Right.f keyB
  simp only [maxLen] at hs
  have hw : wrap64 ((s.size : Int) - 1) = (s.size : Int) - 1 := by unfold wrap64; omega
  rw [hw]
  clear hw
  by_cases h0 : (s.size : Int) = 0
  · rw [if_pos h0, decide_eq_false (show ¬ 3 ≤ s.size by omega)]; rfl
  · rw [if_neg h0, if_pos (by omega)]
    by_cases h1 : bt s 0 = 105
    · rw [if_pos h1]
      by_cases h2 : (s.size : Int) - 1 ≥ 2
      · rw [if_pos h2, decide_eq_true (show 3 ≤ s.size by omega), Bool.true_and]
        congr 1
        rw [Bool.eq_iff_iff, decide_eq_true_iff, Bool.or_eq_true, decide_eq_true_iff, decide_eq_true_iff]
        constructor
        · intro h; exact .inl ⟨h1, by omega⟩
        · rintro (⟨_, h⟩ | ⟨h, _⟩) <;> omega
      · rw [if_neg h2, decide_eq_false (show ¬ 3 ≤ s.size by omega)]; rfl
    · rw [if_neg h1]
      by_cases h3 : bt s 0 = 104
      · rw [if_pos h3]
        by_cases h2 : (s.size : Int) - 1 ≥ 2
        · rw [if_pos h2, decide_eq_true (show 3 ≤ s.size by omega), Bool.true_and]
          congr 1
          rw [Bool.eq_iff_iff, decide_eq_true_iff, Bool.or_eq_true, decide_eq_true_iff, decide_eq_true_iff]
          constructor
          · intro h; exact .inr ⟨h3, by omega⟩
          · rintro (⟨h, _⟩ | ⟨_, h⟩) <;> omega
        · rw [if_neg h2, decide_eq_false (show ¬ 3 ≤ s.size by omega)]; rfl
      · rw [if_neg h3, decide_eq_false (show ¬ (bt s 0 = 105 ∧ s.size ≤ 256) from fun h => h1 h.1), decide_eq_false (show ¬ (bt s 0 = 104 ∧ s.size ≤ 18) from fun h => h3 h.1), Bool.or_false, Bool.and_false]

end Go.Proofs.Ytdcabfonjmeajaa.POrder
set_option linter.unusedVariables false
set_option linter.unusedSimpArgs false
namespace Go.Proofs.Ytdcabfonjmeajaa.POrder
open Go.RowKit Go.Proofs.YtdcabfonjmeajaaW.PrintWords Go.Proofs.YtdcabfonjmeajaaW.PrintLast Go.Proofs.YtdcabfonjmeajaaW.PrintMore

/-! ### conf.fair -/
theorem conf_fair_l1 (l : List Rs) (hl : l.length ≤ 20) (hk : ∀ r ∈ l, r.f0.size ≤ 1000) {r : Bool} (hr : r = decide (∀ i, (h : i < l.length) → keyB l[i].f0 = true)) : Ev (fun k => conf_fair.l1 k l (l.length : Int) 0) r := by
  refine loopC (n := l.length) (L := fun k i => conf_fair.l1 k l (l.length : Int) i) (fun i => (h : i < l.length) → keyB l[i].f0 = true) false (fun i hi hp r h => ?_) (fun i hi hp => ?_) (fun h => ?_) (fun h => ?_)
  · refine Ev.step (fun k => ?_) h
    have h1 : l[i].f0.size ≤ maxLen := by have := hk l[i] (List.getElem_mem hi); simp only [maxLen]; omega
    show conf_fair.l1 (k + 1) l _ _ = _
    rw [conf_fair.l1, if_pos (by omega), if_pos (by omega), if_pos (by omega), show rd_T59 l (i : Int) = l[i] from rd_get hi, key_Right_s _ h1, hp hi, Option.bind_some, if_pos rfl, wrap_next hi (by omega)]
  · refine Ev.step (f := fun _ => some false) (fun k => ?_) Ev.some'
    have h1 : l[i].f0.size ≤ maxLen := by have := hk l[i] (List.getElem_mem hi); simp only [maxLen]; omega
    have h2 : keyB l[i].f0 = false := by
      cases h : keyB l[i].f0 with
      | false => rfl
      | true => exact absurd (fun _ => h) hp
    show conf_fair.l1 (k + 1) l _ _ = _
    rw [conf_fair.l1, if_pos (by omega), if_pos (by omega), if_pos (by omega), show rd_T59 l (i : Int) = l[i] from rd_get hi, key_Right_s _ h1, h2, Option.bind_some, if_neg (by simp)]
  · rw [hr, decide_eq_true (fun i hi => h i hi hi)]
    refine Ev.step (f := fun _ => some true) (fun k => ?_) Ev.some'
    show conf_fair.l1 (k + 1) l _ _ = _
    rw [conf_fair.l1, if_neg (by omega)]
  · obtain ⟨i, hi, hp⟩ := h
    rw [hr]
    exact decide_eq_false (fun h => hp (fun hi => h i hi))
theorem conf_fair_l0 (a b : Int) (p : List Rg) (l : List Rs) (c d e : Int) (hl : l.length ≤ 20) (hp : p.length ≤ 20) (hk : ∀ r ∈ l, r.f0.size ≤ 1000) {r : Bool}
    (hr : r = decide ((∀ i, (h : i < p.length) → p[i].f0 ≤ p[i].f1) ∧ ∀ i, (h : i < l.length) → keyB l[i].f0 = true)) : Ev (fun k => conf_fair.l0 k p (p.length : Int) 0 a b p l c d e) r := by
  refine loopC (n := p.length) (L := fun k i => conf_fair.l0 k p (p.length : Int) i a b p l c d e) (fun i => (h : i < p.length) → p[i].f0 ≤ p[i].f1) false (fun i hi hp r h => ?_) (fun i hi hp => ?_) (fun h => ?_) (fun h => ?_)
  · refine Ev.step (fun k => ?_) h
    have := hp hi
    clear hp
    show conf_fair.l0 (k + 1) p _ _ _ _ _ _ _ _ _ = _
    rw [conf_fair.l0, if_pos (by omega), if_pos (by omega), if_pos (by omega), show rd_T62 p (i : Int) = p[i] from rd_get hi, if_neg (by omega), wrap_next hi (by omega)]
  · refine Ev.step (f := fun _ => some false) (fun k => ?_) Ev.some'
    have : p[i].f0 > p[i].f1 := by
      by_cases h : p[i].f0 > p[i].f1
      · exact h
      · exact absurd (fun _ => Int.not_lt.1 h) hp
    clear hp
    show conf_fair.l0 (k + 1) p _ _ _ _ _ _ _ _ _ = _
    rw [conf_fair.l0, if_pos (by omega), if_pos (by omega), if_pos (by omega), show rd_T62 p (i : Int) = p[i] from rd_get hi, if_pos this]
  · refine Ev.step (f := fun k => conf_fair.l1 k l (l.length : Int) 0) (fun k => ?_) (conf_fair_l1 l hl hk ?_)
    · show conf_fair.l0 (k + 1) p _ _ _ _ _ _ _ _ _ = _
      rw [conf_fair.l0, if_neg (by omega)]
    · rw [hr]; exact decide_eq_decide.2 ⟨fun h2 => h2.2, fun h2 => ⟨fun i hi => h i hi hi, h2⟩⟩
  · obtain ⟨i, hi, hp⟩ := h
    rw [hr]
    exact decide_eq_false (fun h => hp (fun hi => h.1 i hi))
open Classical in
theorem conf_fair_s (s : Sb) (hs : SmS s) : Ev (fun k => conf_fair.f k s.f0 s.f1 s.f2 s.f3 s.f4 s.f5 s.f6) (decide (FairS s)) := by
  obtain ⟨h1, h2, h3⟩ := hs
  have J : ∀ (x : Bool), (x = true → ¬ FairS s) → (x = false → (FairS s ↔ ((∀ i, (h : i < s.f2.length) → s.f2[i].f0 ≤ s.f2[i].f1) ∧ ∀ i, (h : i < s.f3.length) → keyB s.f3[i].f0 = true))) →
      Ev (fun k => conf_fair.j0 k x s.f0 s.f1 s.f2 s.f3 s.f4 s.f5 s.f6) (decide (FairS s)) := by
    intro x hx hy
    cases x with
    | true =>
      rw [decide_eq_false (hx rfl)]
      exact Ev.step (f := fun _ => some false) (fun k => by show conf_fair.j0 (k + 1) _ _ _ _ _ _ _ _ = _; rw [conf_fair.j0, if_pos rfl]) Ev.some'
    | false =>
      refine Ev.step (f := fun k => conf_fair.l0 k s.f2 (s.f2.length : Int) 0 s.f0 s.f1 s.f2 s.f3 s.f4 s.f5 s.f6) (fun k => by show conf_fair.j0 (k + 1) _ _ _ _ _ _ _ _ = _; rw [conf_fair.j0, if_neg (by simp)]) (conf_fair_l0 _ _ _ _ _ _ _ h2 h1 h3 ?_)
      exact decide_eq_decide.2 (hy rfl)
  simp only [conf_fair.f, addr_Fair_s, conf_within_s, Option.bind_some]
  by_cases a1 : Com.fairB s.f0 s.f1 = true
  · refine Ev.pos a1 ?_
    by_cases a2 : 8 ≤ s.f1 ∧ s.f1 ≤ 30
    · refine Ev.pos (decide_eq_true a2) ?_
      by_cases a3 : (s.f2.length : Int) > 4
      · refine Ev.pos a3 (J true (fun _ h => by have := h.2.2.2.1; omega) (fun h => by cases h))
      · refine Ev.neg a3 ?_
        by_cases a4 : (s.f3.length : Int) > 8
        · refine Ev.pos a4 (J true (fun _ h => by have := h.2.2.2.2.1; omega) (fun h => by cases h))
        · refine Ev.neg a4 ?_
          by_cases a5 : 0 ≤ s.f4 ∧ s.f4 ≤ 99
          · refine Ev.pos (decide_eq_true a5) (J _ (fun h h2 => ?_) (fun h => ?_))
            · have h3 := h2.2.2.2.2.2.2.2
              rw [decide_eq_true ⟨h3.1, h3.2.1⟩] at h; cases h
            · have h3 : 1 ≤ s.f6 ∧ s.f6 ≤ 2147483648 := by
                by_cases q : 1 ≤ s.f6 ∧ s.f6 ≤ 2147483648
                · exact q
                · rw [decide_eq_false q] at h; cases h
              exact ⟨fun h => h.2.2.2.2.2.2.2.2.2, fun h => ⟨a1, a2.1, a2.2, by omega, by omega, a5.1, a5.2, h3.1, h3.2, h⟩⟩
          · exact Ev.neg (by rw [decide_eq_false a5]; simp) (J true (fun _ h => a5 ⟨h.2.2.2.2.2.1, h.2.2.2.2.2.2.1⟩) (fun h => by cases h))
    · exact Ev.neg (by rw [decide_eq_false a2]; simp) (J true (fun _ h => a2 ⟨h.2.1, h.2.2.1⟩) (fun h => by cases h))
  · exact Ev.neg a1 (J true (fun _ h => a1 h.1) (fun h => by cases h))

end Go.Proofs.Ytdcabfonjmeajaa.POrder
set_option linter.unusedVariables false
set_option linter.unusedSimpArgs false
namespace Go.Proofs.Ytdcabfonjmeajaa.POrder
open Go.RowKit Go.Proofs.YtdcabfonjmeajaaW.PrintWords Go.Proofs.YtdcabfonjmeajaaW.PrintLast Go.Proofs.YtdcabfonjmeajaaW.PrintMore

/-! ### conf.form -/
open Classical in
theorem conf_form_l1 (nets : List Nt) (h : Sm nets) {r : Bool} (hr : r = true ↔ ∀ n ∈ nets, ∀ s ∈ n.f0, FairS s) : Ev (fun k => conf_form.l1 k (spotsL nets) ((spotsL nets).length : Int) 0) r := by
  have hN : (spotsL nets).length ≤ 1000 := by have := spots_len (n := 0) (fun x hx => (h.2 x hx).1); have := h.1; unfold spotsL; omega
  have hS : ∀ (i : Nat) (hi : i < (spotsL nets).length), SmS (spotsL nets)[i].f2 := fun i hi => (spots_all (F := SmS)).2 (fun n hn s hs => (h.2 n hn).2 s hs) _ (List.getElem_mem hi)
  rw [← spots_all] at hr
  generalize spotsL nets = l at *
  refine loopC (n := l.length) (L := fun k i => conf_form.l1 k l (l.length : Int) i) (fun i => ∃ h : i < l.length, FairS l[i].f2) false (fun i hi hp r h => ?_) (fun i hi hp => ?_) (fun h => ?_) (fun h => ?_)
  · obtain ⟨_, hp⟩ := hp
    have e := conf_fair_s l[i].f2 (hS i hi)
    rw [decide_eq_true hp] at e
    refine Ev.step (fun k => ?_) (Ev.bind e (f := fun k t => if t = true then conf_form.l1 k l (l.length : Int) ((i + 1 : Nat) : Int) else some false) (Ev.pos rfl h))
    show conf_form.l1 (k + 1) _ _ _ = _
    rw [conf_form.l1, if_pos (by omega), if_pos (by omega), if_pos (by omega), show rd_T66 l (i : Int) = l[i] from rd_get hi, wrap_next hi (by omega)]
  · have e := conf_fair_s l[i].f2 (hS i hi)
    rw [decide_eq_false (fun h => hp ⟨hi, h⟩)] at e
    refine Ev.step (fun k => ?_) (Ev.bind e (f := fun k t => if t = true then conf_form.l1 k l (l.length : Int) ((i + 1 : Nat) : Int) else some false) (Ev.neg (by simp) Ev.some'))
    show conf_form.l1 (k + 1) _ _ _ = _
    rw [conf_form.l1, if_pos (by omega), if_pos (by omega), if_pos (by omega), show rd_T66 l (i : Int) = l[i] from rd_get hi, wrap_next hi (by omega)]
  · rw [hr.2 (fun x hx => by obtain ⟨i, hi, rfl⟩ := List.mem_iff_getElem.1 hx; exact (h i hi).2)]
    refine Ev.step (f := fun _ => some true) (fun k => ?_) Ev.some'
    show conf_form.l1 (k + 1) _ _ _ = _
    rw [conf_form.l1, if_neg (by omega)]
  · obtain ⟨i, hi, hp⟩ := h
    cases r with
    | false => rfl
    | true => exact absurd ⟨hi, hr.1 rfl _ (List.getElem_mem hi)⟩ hp
theorem conf_form_l0 (a b : Int) (nets : List Nt) (h : Sm nets) {r : Bool} (hr : r = true ↔ (∀ n ∈ nets, 1 ≤ n.f0.length ∧ n.f0.length ≤ 4) ∧ ∀ n ∈ nets, ∀ s ∈ n.f0, FairS s) : Ev (fun k => conf_form.l0 k nets (nets.length : Int) 0 a b nets) r := by
  have hN := h.1
  refine loopC (n := nets.length) (L := fun k i => conf_form.l0 k nets (nets.length : Int) i a b nets) (fun i => ∃ h : i < nets.length, 1 ≤ nets[i].f0.length ∧ nets[i].f0.length ≤ 4) false (fun i hi hp r h => ?_) (fun i hi hp => ?_) (fun h2 => ?_) (fun h => ?_)
  · obtain ⟨_, hp⟩ := hp
    refine Ev.step (fun k => ?_) h
    show conf_form.l0 (k + 1) _ _ _ _ _ _ = _
    rw [conf_form.l0, if_pos (by omega), if_pos (by omega), if_pos (by omega), show rd_T41 nets (i : Int) = nets[i] from rd_get hi, conf_within_s, decide_eq_true (by omega), Option.bind_some, if_pos rfl, wrap_next hi (by omega)]
  · have h4 : ¬ (1 ≤ (nets[i].f0.length : Int) ∧ (nets[i].f0.length : Int) ≤ 4) := fun h => hp ⟨hi, by omega⟩
    refine Ev.step (f := fun _ => some false) (fun k => ?_) Ev.some'
    show conf_form.l0 (k + 1) _ _ _ _ _ _ = _
    rw [conf_form.l0, if_pos (by omega), if_pos (by omega), if_pos (by omega), show rd_T41 nets (i : Int) = nets[i] from rd_get hi, conf_within_s, decide_eq_false h4, Option.bind_some, if_neg (by simp)]
  · refine Ev.step (fun k => ?_) (Ev.bind (conf_spots_s a b nets h) (f := fun k t => conf_form.l1 k t (t.length : Int) 0) (conf_form_l1 nets h (r := r) ?_))
    · show conf_form.l0 (k + 1) _ _ _ _ _ _ = _
      rw [conf_form.l0, if_neg (by omega)]
    · rw [hr]
      exact ⟨fun h => h.2, fun h3 => ⟨fun n hn => by obtain ⟨i, hi, rfl⟩ := List.mem_iff_getElem.1 hn; exact (h2 i hi).2, h3⟩⟩
  · obtain ⟨i, hi, hp⟩ := h
    cases r with
    | false => rfl
    | true => exact absurd ⟨hi, (hr.1 rfl).1 _ (List.getElem_mem hi)⟩ hp
open Classical in
theorem conf_form_s (a b : Int) (nets : List Nt) (h : Sm nets) : Ev (fun k => conf_form.f k a b nets) (decide (FormP a b nets)) := by
  have J : ∀ (x : Bool), (x = true → ¬ FormP a b nets) → (x = false → (FormP a b nets ↔ ((∀ n ∈ nets, 1 ≤ n.f0.length ∧ n.f0.length ≤ 4) ∧ ∀ n ∈ nets, ∀ s ∈ n.f0, FairS s))) →
      Ev (fun k => conf_form.j0 k x a b nets) (decide (FormP a b nets)) := by
    intro x hx hy
    cases x with
    | true =>
      rw [decide_eq_false (hx rfl)]
      exact Ev.step (f := fun _ => some false) (fun k => by show conf_form.j0 (k + 1) _ _ _ _ = _; rw [conf_form.j0, if_pos rfl]) Ev.some'
    | false =>
      refine Ev.step (fun k => by show conf_form.j0 (k + 1) _ _ _ _ = _; rw [conf_form.j0, if_neg (by simp)]) (conf_form_l0 a b nets h ?_)
      rw [decide_eq_true_iff]; exact hy rfl
  simp only [conf_form.f, addr_Right_s, conf_within_s, Option.bind_some]
  by_cases a1 : 0 ≤ a ∧ a ≤ 4294967295
  · refine Ev.pos (decide_eq_true a1) ?_
    by_cases a2 : 1 ≤ b ∧ b ≤ 2147483648
    · refine Ev.pos (decide_eq_true a2) (J _ (fun h3 h4 => ?_) (fun h3 => ?_))
      · have := of_decide_eq_true h3; have := h4.2.2.2.2.1; omega
      · have := of_decide_eq_false h3
        exact ⟨fun h => h.2.2.2.2.2, fun h => ⟨a1.1, a1.2, a2.1, a2.2, by omega, h⟩⟩
    · exact Ev.neg (by rw [decide_eq_false a2]; simp) (J true (fun _ h => a2 ⟨h.2.2.1, h.2.2.2.1⟩) (fun h => by cases h))
  · exact Ev.neg (by rw [decide_eq_false a1]; simp) (J true (fun _ h => a1 ⟨h.1, h.2.1⟩) (fun h => by cases h))

end Go.Proofs.Ytdcabfonjmeajaa.POrder
set_option linter.unusedVariables false
set_option linter.unusedSimpArgs false
namespace Go.Proofs.Ytdcabfonjmeajaa.POrder
open Go.RowKit Go.Proofs.YtdcabfonjmeajaaW.PrintWords Go.Proofs.YtdcabfonjmeajaaW.PrintLast Go.Proofs.YtdcabfonjmeajaaW.PrintMore

/-! ### conf.has -/
theorem conf_has_s (a b c : Int) : conf_has.f a b c = some (decide (a ≤ c ∧ c ≤ b)) := by
  unfold conf_has.f
  rw [conf_within_s, Option.bind_some]

end Go.Proofs.Ytdcabfonjmeajaa.POrder
set_option linter.unusedVariables false
set_option linter.unusedSimpArgs false
namespace Go.Proofs.Ytdcabfonjmeajaa.POrder
open Go.RowKit Go.Proofs.YtdcabfonjmeajaaW.PrintWords Go.Proofs.YtdcabfonjmeajaaW.PrintLast Go.Proofs.YtdcabfonjmeajaaW.PrintMore

/-! ### addr.Has -/
theorem addr_Has_s (b n a : Int) : addr_Has.f b n a = some (Com.hasB b n a) := by
  unfold addr_Has.f Com.hasB
  rw [addr_Fair_s, Option.bind_some]
  by_cases h : Com.fairB b n = true
  · obtain ⟨h0, h1, h2, h3, h4⟩ := (Com.fairB_iff b n).1 h
    have he := Com.fair_end b n h
    have hp := Com.sz_pos n
    rw [if_pos h, h, Bool.true_and, addr_Right_s, Option.bind_some]
    by_cases ha : 0 ≤ a ∧ a ≤ 4294967295
    · rw [decide_eq_true ha, if_pos rfl, addr_mask_s n h0 h1, Option.bind_some]
      obtain ⟨x, rfl⟩ := Int.eq_ofNat_of_zero_le ha.1
      rw [addr_mask_n, Com.i64_and_nat x _ (by omega) (Nat.lt_of_le_of_lt (Nat.sub_le _ _) (by omega)), Com.and_mask x _ (by omega) (by omega)]
      congr 1
      rw [Bool.eq_iff_iff, beq_iff_eq, decide_eq_true_iff]
      obtain ⟨q, hq⟩ := Int.dvd_of_emod_eq_zero h4
      have hszz : (2 ^ (32 - n.toNat) : Nat) = Com.sz n := rfl
      rw [hszz]
      push_cast
      rw [hq]
      have hs : (0 : Int) < Com.sz n := by omega
      generalize (Com.sz n : Int) = s at *
      have hd := Int.mul_ediv_add_emod (x : Int) s
      have hm0 := Int.emod_nonneg (x : Int) (by omega : s ≠ 0)
      have hm1 := Int.emod_lt_of_pos (x : Int) hs
      constructor
      · intro e
        rw [Int.mul_comm] at e
        omega
      · intro ⟨e1, e2⟩
        have hx : (x : Int) / s = q := by
          have t1 : q ≤ (x : Int) / s := (Int.le_ediv_iff_mul_le hs).2 (by rw [Int.mul_comm]; omega)
          have t2 : (x : Int) / s < q + 1 := (Int.ediv_lt_iff_lt_mul hs).2 (by rw [Int.add_mul, Int.mul_comm q]; omega)
          omega
        rw [hx, Int.mul_comm]
    · rw [decide_eq_false ha, if_neg (by simp), decide_eq_false (by omega)]
  · rw [if_neg h, Bool.eq_false_iff.2 h, Bool.false_and]

end Go.Proofs.Ytdcabfonjmeajaa.POrder
set_option linter.unusedVariables false
set_option linter.unusedSimpArgs false
namespace Go.Proofs.Ytdcabfonjmeajaa.POrder
open Go.RowKit Go.Proofs.YtdcabfonjmeajaaW.PrintWords Go.Proofs.YtdcabfonjmeajaaW.PrintLast Go.Proofs.YtdcabfonjmeajaaW.PrintMore

/-! ### addr.Last -/
theorem addr_Last_all : ∀ i : Fin 33, Go.bits .andNot .i64 4294967295 (4294967296 - (Com.sz (i.val : Int) : Int)) = (Com.sz (i.val : Int) : Int) - 1 := by decide +kernel
theorem addr_Last_s (b n : Int) : addr_Last.f b n = some (if Com.fairB b n = true then (b + (Com.sz n : Int) - 1, 0) else (0, 1)) := by
  unfold addr_Last.f
  rw [addr_Fair_s, Option.bind_some]
  by_cases h : Com.fairB b n = true
  · obtain ⟨h0, h1, h2, h3, h4⟩ := (Com.fairB_iff b n).1 h
    have he := Com.fair_end b n h
    rw [if_pos h, if_pos h, addr_mask_s n h0 h1, Option.bind_some]
    have ha := addr_Last_all ⟨n.toNat, by omega⟩
    rw [show ((⟨n.toNat, by omega⟩ : Fin 33).val : Int) = n from by simp; omega] at ha
    rw [ha]
    obtain ⟨q, hq⟩ := Int.dvd_of_emod_eq_zero h4
    have hp := Com.sz_pos n
    have hq0 : 0 ≤ q := by
      refine Int.le_of_not_gt fun hlt => ?_
      have : (Com.sz n : Int) * q ≤ (Com.sz n : Int) * (-1) := Int.mul_le_mul_of_nonneg_left (by omega) (by omega)
      omega
    obtain ⟨x, rfl⟩ := Int.eq_ofNat_of_zero_le hq0
    have hb : b = ((x * 2 ^ (32 - n.toNat) : Nat) : Int) := by rw [hq]; unfold Com.sz; push_cast; rw [Int.mul_comm]
    have hz : (Com.sz n : Int) - 1 = ((2 ^ (32 - n.toNat) - 1 : Nat) : Int) := by unfold Com.sz at *; omega
    have hszz : Com.sz n = 2 ^ (32 - n.toNat) := rfl
    rw [hz, hb, Com.i64_or_add x (2 ^ (32 - n.toNat) - 1) (32 - n.toNat) (by omega) (by omega)]
    congr 2
    omega
  · rw [if_neg h, if_neg h]

end Go.Proofs.Ytdcabfonjmeajaa.POrder
set_option linter.unusedVariables false
set_option linter.unusedSimpArgs false
namespace Go.Proofs.Ytdcabfonjmeajaa.POrder
open Go.RowKit Go.Proofs.YtdcabfonjmeajaaW.PrintWords Go.Proofs.YtdcabfonjmeajaaW.PrintLast Go.Proofs.YtdcabfonjmeajaaW.PrintMore

/-! ### conf.inside -/
theorem conf_inside_s (s : Sb) (h : Com.fairB s.f0 s.f1 = true) (a : Int) : conf_inside.f s.f0 s.f1 s.f2 s.f3 s.f4 s.f5 s.f6 a = some (decide (InS s a)) := by
  unfold conf_inside.f
  rw [addr_Last_s, if_pos h, Option.bind_some]
  by_cases c : a > s.f0
  · rw [if_pos c]; congr 1; exact decide_eq_decide.2 ⟨fun h2 => ⟨c, h2⟩, fun h2 => h2.2⟩
  · rw [if_neg c, decide_eq_false (fun h2 => c h2.1)]

end Go.Proofs.Ytdcabfonjmeajaa.POrder
set_option linter.unusedVariables false
set_option linter.unusedSimpArgs false
namespace Go.Proofs.Ytdcabfonjmeajaa.POrder
open Go.RowKit Go.Proofs.YtdcabfonjmeajaaW.PrintWords Go.Proofs.YtdcabfonjmeajaaW.PrintLast Go.Proofs.YtdcabfonjmeajaaW.PrintMore

/-! ### conf.placed -/
theorem conf_placed_l2 (l : List Sp) (N : Int) (m : Nat) (sv b : Int) (nets : List Nt) (x0 x1 : Int) (s : Sb) (hs : SmS s) (hF : Com.fairB s.f0 s.f1 = true) (hm : m < l.length) (hl : l.length ≤ 1000) {r : Bool}
    (h1 : ((∀ i, (h : i < s.f3.length) → InS s s.f3[i].f1 ∧ s.f3[i].f1 ≠ sv) ∧ (s.f5 ≠ 0 → Com.hasB s.f0 s.f1 s.f5 = true)) → Ev (fun k => conf_placed.l0 k l N ((m + 1 : Nat) : Int) sv b nets) r)
    (h2 : (¬ ((∀ i, (h : i < s.f3.length) → InS s s.f3[i].f1 ∧ s.f3[i].f1 ≠ sv) ∧ (s.f5 ≠ 0 → Com.hasB s.f0 s.f1 s.f5 = true))) → r = false) :
    Ev (fun k => conf_placed.l2 k l N (m : Int) s.f3 (s.f3.length : Int) 0 sv b nets x0 x1 s.f0 s.f1 s.f2 s.f3 s.f4 s.f5 s.f6) r := by
  have h20 := hs.2.1
  refine loopC (n := s.f3.length) (L := fun k i => conf_placed.l2 k l N (m : Int) s.f3 (s.f3.length : Int) i sv b nets x0 x1 s.f0 s.f1 s.f2 s.f3 s.f4 s.f5 s.f6) (fun i => ∃ h : i < s.f3.length, InS s s.f3[i].f1 ∧ s.f3[i].f1 ≠ sv) false (fun i hi hp r h3 => ?_) (fun i hi hp => ?_) (fun h3 => ?_) (fun h3 => ?_)
  · obtain ⟨_, hp1, hp2⟩ := hp
    refine Ev.step (fun k => ?_) h3
    show conf_placed.l2 (k + 1) _ _ _ _ _ _ _ _ _ _ _ _ _ _ _ _ _ _ = _
    rw [conf_placed.l2, if_pos (by omega), if_pos (by omega), if_pos (by omega), show rd_T59 s.f3 (i : Int) = s.f3[i] from rd_get hi, conf_inside_s s hF, decide_eq_true hp1, Option.bind_some, if_pos rfl, if_neg hp2, wrap_next hi (by omega)]
  · refine Ev.step (f := fun _ => some false) (fun k => ?_) Ev.some'
    show conf_placed.l2 (k + 1) _ _ _ _ _ _ _ _ _ _ _ _ _ _ _ _ _ _ = _
    rw [conf_placed.l2, if_pos (by omega), if_pos (by omega), if_pos (by omega), show rd_T59 s.f3 (i : Int) = s.f3[i] from rd_get hi, conf_inside_s s hF, Option.bind_some]
    by_cases c : InS s s.f3[i].f1
    · rw [if_pos (decide_eq_true c)]
      by_cases c2 : s.f3[i].f1 = sv
      · rw [if_pos c2]
      · exact absurd ⟨hi, c, c2⟩ hp
    · rw [decide_eq_false c, if_neg (by simp)]
  · have h4 : ∀ i, (h : i < s.f3.length) → InS s s.f3[i].f1 ∧ s.f3[i].f1 ≠ sv := fun i hi => (h3 i hi).2
    refine Ev.step (f := fun k => if s.f5 = 0 then conf_placed.l0 k l N ((m + 1 : Nat) : Int) sv b nets else (if Com.hasB s.f0 s.f1 s.f5 = true then conf_placed.l0 k l N ((m + 1 : Nat) : Int) sv b nets else some false)) (fun k => ?_) ?_
    · show conf_placed.l2 (k + 1) _ _ _ _ _ _ _ _ _ _ _ _ _ _ _ _ _ _ = _
      rw [conf_placed.l2, if_neg (by omega), addr_Has_s, Option.bind_some, wrap_next hm (by omega)]
    · by_cases c : s.f5 = 0
      · exact Ev.pos c (h1 ⟨h4, fun h => absurd c h⟩)
      · refine Ev.neg c ?_
        by_cases c2 : Com.hasB s.f0 s.f1 s.f5 = true
        · exact Ev.pos c2 (h1 ⟨h4, fun _ => c2⟩)
        · rw [h2 (fun h => c2 (h.2 c))]; exact Ev.neg c2 Ev.some'
  · obtain ⟨i, hi, hp⟩ := h3
    exact h2 (fun h => hp ⟨hi, h.1 i hi⟩)
theorem conf_placed_l1 (l : List Sp) (N : Int) (m : Nat) (sv b : Int) (nets : List Nt) (x0 x1 : Int) (s : Sb) (hs : SmS s) (hF : Com.fairB s.f0 s.f1 = true) (hm : m < l.length) (hl : l.length ≤ 1000) {r : Bool}
    (h1 : PlaceS sv s → Ev (fun k => conf_placed.l0 k l N ((m + 1 : Nat) : Int) sv b nets) r) (h2 : ¬ PlaceS sv s → r = false) :
    Ev (fun k => conf_placed.l1 k l N (m : Int) s.f2 (s.f2.length : Int) 0 sv b nets x0 x1 s.f0 s.f1 s.f2 s.f3 s.f4 s.f5 s.f6) r := by
  have h20 := hs.1
  refine loopC (n := s.f2.length) (L := fun k i => conf_placed.l1 k l N (m : Int) s.f2 (s.f2.length : Int) i sv b nets x0 x1 s.f0 s.f1 s.f2 s.f3 s.f4 s.f5 s.f6) (fun i => ∃ h : i < s.f2.length, InS s s.f2[i].f0 ∧ InS s s.f2[i].f1 ∧ ¬ (s.f2[i].f0 ≤ sv ∧ sv ≤ s.f2[i].f1)) false (fun i hi hp r h3 => ?_) (fun i hi hp => ?_) (fun h3 => ?_) (fun h3 => ?_)
  · obtain ⟨_, hp1, hp2, hp3⟩ := hp
    refine Ev.step (fun k => ?_) h3
    show conf_placed.l1 (k + 1) _ _ _ _ _ _ _ _ _ _ _ _ _ _ _ _ _ _ = _
    rw [conf_placed.l1, if_pos (by omega), if_pos (by omega), if_pos (by omega), show rd_T62 s.f2 (i : Int) = s.f2[i] from rd_get hi, conf_inside_s s hF, decide_eq_true hp1, Option.bind_some, if_pos rfl, conf_inside_s s hF, decide_eq_true hp2, Option.bind_some, if_pos rfl, conf_has_s, decide_eq_false hp3, Option.bind_some, if_neg (by simp), wrap_next hi (by omega)]
  · refine Ev.step (f := fun _ => some false) (fun k => ?_) Ev.some'
    show conf_placed.l1 (k + 1) _ _ _ _ _ _ _ _ _ _ _ _ _ _ _ _ _ _ = _
    rw [conf_placed.l1, if_pos (by omega), if_pos (by omega), if_pos (by omega), show rd_T62 s.f2 (i : Int) = s.f2[i] from rd_get hi, conf_inside_s s hF, Option.bind_some]
    by_cases c : InS s s.f2[i].f0
    · rw [if_pos (decide_eq_true c), conf_inside_s s hF, Option.bind_some]
      by_cases c2 : InS s s.f2[i].f1
      · rw [if_pos (decide_eq_true c2), conf_has_s, Option.bind_some]
        by_cases c3 : s.f2[i].f0 ≤ sv ∧ sv ≤ s.f2[i].f1
        · rw [if_pos (decide_eq_true c3)]
        · exact absurd ⟨hi, c, c2, c3⟩ hp
      · rw [decide_eq_false c2, if_neg (by simp)]
    · rw [decide_eq_false c, if_neg (by simp)]
  · have h4 : ∀ i, (h : i < s.f2.length) → InS s s.f2[i].f0 ∧ InS s s.f2[i].f1 ∧ ¬ (s.f2[i].f0 ≤ sv ∧ sv ≤ s.f2[i].f1) := fun i hi => (h3 i hi).2
    refine Ev.step (fun k => ?_) (conf_placed_l2 l N m sv b nets x0 x1 s hs hF hm hl (r := r) (fun h => h1 ⟨h4, h.1, h.2⟩) (fun h => h2 (fun h5 => h ⟨h5.2.1, h5.2.2⟩)))
    show conf_placed.l1 (k + 1) _ _ _ _ _ _ _ _ _ _ _ _ _ _ _ _ _ _ = _
    rw [conf_placed.l1, if_neg (by omega)]
  · obtain ⟨i, hi, hp⟩ := h3
    exact h2 (fun h => hp ⟨hi, h.1 i hi⟩)
open Classical in
theorem conf_placed_s (a b : Int) (nets : List Nt) (h : Sm nets) (hF : ∀ n ∈ nets, ∀ s ∈ n.f0, FairS s) : Ev (fun k => conf_placed.f k a b nets) (decide (∀ n ∈ nets, ∀ s ∈ n.f0, PlaceS a s)) := by
  refine Ev.bind (conf_spots_s a b nets h) (f := fun k t => conf_placed.l0 k t (t.length : Int) 0 a b nets) ?_
  have hN : (spotsL nets).length ≤ 1000 := by have := spots_len (n := 0) (fun x hx => (h.2 x hx).1); have := h.1; unfold spotsL; omega
  have hS : ∀ (i : Nat) (hi : i < (spotsL nets).length), SmS (spotsL nets)[i].f2 ∧ FairS (spotsL nets)[i].f2 := fun i hi => (spots_all (F := fun s => SmS s ∧ FairS s)).2 (fun n hn s hs => ⟨(h.2 n hn).2 s hs, hF n hn s hs⟩) _ (List.getElem_mem hi)
  have hr : decide (∀ n ∈ nets, ∀ s ∈ n.f0, PlaceS a s) = decide (∀ x ∈ spotsL nets, PlaceS a x.f2) := decide_eq_decide.2 spots_all.symm
  rw [hr]
  generalize spotsL nets = l at *
  refine loopC (n := l.length) (L := fun k i => conf_placed.l0 k l (l.length : Int) i a b nets) (fun i => ∃ h : i < l.length, PlaceS a l[i].f2) false (fun i hi hp r h3 => ?_) (fun i hi hp => ?_) (fun h3 => ?_) (fun h3 => ?_)
  · obtain ⟨_, hp⟩ := hp
    refine Ev.step (fun k => ?_) (conf_placed_l1 l (l.length : Int) i a b nets l[i].f0 l[i].f1 l[i].f2 (hS i hi).1 (hS i hi).2.1 hi hN (r := r) (fun _ => h3) (fun h => absurd hp h))
    show conf_placed.l0 (k + 1) _ _ _ _ _ _ = _
    rw [conf_placed.l0, if_pos (by omega), if_pos (by omega), if_pos (by omega), show rd_T66 l (i : Int) = l[i] from rd_get hi]
  · refine Ev.step (fun k => ?_) (conf_placed_l1 l (l.length : Int) i a b nets l[i].f0 l[i].f1 l[i].f2 (hS i hi).1 (hS i hi).2.1 hi hN (r := false) (fun h => absurd ⟨hi, h⟩ hp) (fun _ => rfl))
    show conf_placed.l0 (k + 1) _ _ _ _ _ _ = _
    rw [conf_placed.l0, if_pos (by omega), if_pos (by omega), if_pos (by omega), show rd_T66 l (i : Int) = l[i] from rd_get hi]
  · rw [decide_eq_true (fun x hx => by obtain ⟨i, hi, rfl⟩ := List.mem_iff_getElem.1 hx; exact (h3 i hi).2)]
    refine Ev.step (f := fun _ => some true) (fun k => ?_) Ev.some'
    show conf_placed.l0 (k + 1) _ _ _ _ _ _ = _
    rw [conf_placed.l0, if_neg (by omega)]
  · obtain ⟨i, hi, hp⟩ := h3
    exact decide_eq_false (fun h => hp ⟨hi, h _ (List.getElem_mem hi)⟩)

end Go.Proofs.Ytdcabfonjmeajaa.POrder
set_option linter.unusedVariables false
set_option linter.unusedSimpArgs false
namespace Go.Proofs.Ytdcabfonjmeajaa.POrder
open Go.RowKit Go.Proofs.YtdcabfonjmeajaaW.PrintWords Go.Proofs.YtdcabfonjmeajaaW.PrintLast Go.Proofs.YtdcabfonjmeajaaW.PrintMore

/-! ### addr.Meet -/
/-- Do two prefixes meet? -/
def meetB (b n c m : Int) : Bool := Com.fairB b n && (Com.fairB c m && (decide (b ≤ c ∧ c < b + Com.sz n) || decide (c ≤ b ∧ b < c + Com.sz m)))
theorem addr_Meet_s (b n c m : Int) : addr_Meet.f b n c m = some (meetB b n c m) := by
  unfold addr_Meet.f meetB
  rw [addr_Fair_s, addr_Fair_s, addr_Has_s, addr_Has_s]
  unfold Com.hasB
  simp only [Option.bind_some]
  cases Com.fairB b n <;> cases Com.fairB c m <;> cases decide (b ≤ c ∧ c < b + Com.sz n) <;> simp

end Go.Proofs.Ytdcabfonjmeajaa.POrder
set_option linter.unusedVariables false
set_option linter.unusedSimpArgs false
namespace Go.Proofs.Ytdcabfonjmeajaa.POrder
open Go.RowKit Go.Proofs.YtdcabfonjmeajaaW.PrintWords Go.Proofs.YtdcabfonjmeajaaW.PrintLast Go.Proofs.YtdcabfonjmeajaaW.PrintMore

/-! ### conf.once -/
theorem conf_once_l3 (same : Bool) (x y : Sp) (hx : SmS x.f2) (hy : SmS y.f2) (i : Nat) (hi : i < x.f2.f3.length) {r : Bool}
    (h1 : (∀ j, (hj : j < y.f2.f3.length) → (same = true → i ≠ j) → DifR x.f0 y.f0 x.f2.f3[i] y.f2.f3[j]) → Ev (fun k => conf_once.l2 k same x.f2.f3 (x.f2.f3.length : Int) ((i + 1 : Nat) : Int) x.f0 x.f1 x.f2.f0 x.f2.f1 x.f2.f2 x.f2.f3 x.f2.f4 x.f2.f5 x.f2.f6 y.f0 y.f1 y.f2.f0 y.f2.f1 y.f2.f2 y.f2.f3 y.f2.f4 y.f2.f5 y.f2.f6) r)
    (h2 : (¬ ∀ j, (hj : j < y.f2.f3.length) → (same = true → i ≠ j) → DifR x.f0 y.f0 x.f2.f3[i] y.f2.f3[j]) → r = false) : Ev (fun k => conf_once.l3 k same (i : Int) x.f2.f3 (x.f2.f3.length : Int) (i : Int) y.f2.f3 (y.f2.f3.length : Int) 0 x.f0 x.f1 x.f2.f0 x.f2.f1 x.f2.f2 x.f2.f3 x.f2.f4 x.f2.f5 x.f2.f6 y.f0 y.f1 y.f2.f0 y.f2.f1 y.f2.f2 y.f2.f3 y.f2.f4 y.f2.f5 y.f2.f6 x.f2.f3[i].f0 x.f2.f3[i].f1) r := by
  have b1 := hx.2.1
  have b2 := hy.2.1
  have E : ∀ j (hj : j < y.f2.f3.length) (r : Bool), (((same = true → i ≠ j) → DifR x.f0 y.f0 x.f2.f3[i] y.f2.f3[j]) → Ev (fun k => conf_once.l3 k same (i : Int) x.f2.f3 (x.f2.f3.length : Int) (i : Int) y.f2.f3 (y.f2.f3.length : Int) ((j + 1 : Nat) : Int) x.f0 x.f1 x.f2.f0 x.f2.f1 x.f2.f2 x.f2.f3 x.f2.f4 x.f2.f5 x.f2.f6 y.f0 y.f1 y.f2.f0 y.f2.f1 y.f2.f2 y.f2.f3 y.f2.f4 y.f2.f5 y.f2.f6 x.f2.f3[i].f0 x.f2.f3[i].f1) r) → ((¬ ((same = true → i ≠ j) → DifR x.f0 y.f0 x.f2.f3[i] y.f2.f3[j])) → r = false) → Ev (fun k => conf_once.l3 k same (i : Int) x.f2.f3 (x.f2.f3.length : Int) (i : Int) y.f2.f3 (y.f2.f3.length : Int) (j : Int) x.f0 x.f1 x.f2.f0 x.f2.f1 x.f2.f2 x.f2.f3 x.f2.f4 x.f2.f5 x.f2.f6 y.f0 y.f1 y.f2.f0 y.f2.f1 y.f2.f2 y.f2.f3 y.f2.f4 y.f2.f5 y.f2.f6 x.f2.f3[i].f0 x.f2.f3[i].f1) r := by
    intro j hj r h3 h4
    have hw : wrap64 ((j : Int) + 1) = ((j + 1 : Nat) : Int) := wrap_next hj (by omega)
    have eJ : rd_T59 y.f2.f3 (j : Int) = y.f2.f3[j] := rd_get hj
    have tail : (same = true → i ≠ j) → Ev (fun k => if x.f2.f3[i].f1 = y.f2.f3[j].f1 then some false else if x.f0 = y.f0 then (if x.f2.f3[i].f0.toList = y.f2.f3[j].f0.toList then some false else conf_once.l3 k same (i : Int) x.f2.f3 (x.f2.f3.length : Int) (i : Int) y.f2.f3 (y.f2.f3.length : Int) ((j + 1 : Nat) : Int) x.f0 x.f1 x.f2.f0 x.f2.f1 x.f2.f2 x.f2.f3 x.f2.f4 x.f2.f5 x.f2.f6 y.f0 y.f1 y.f2.f0 y.f2.f1 y.f2.f2 y.f2.f3 y.f2.f4 y.f2.f5 y.f2.f6 x.f2.f3[i].f0 x.f2.f3[i].f1) else conf_once.l3 k same (i : Int) x.f2.f3 (x.f2.f3.length : Int) (i : Int) y.f2.f3 (y.f2.f3.length : Int) ((j + 1 : Nat) : Int) x.f0 x.f1 x.f2.f0 x.f2.f1 x.f2.f2 x.f2.f3 x.f2.f4 x.f2.f5 x.f2.f6 y.f0 y.f1 y.f2.f0 y.f2.f1 y.f2.f2 y.f2.f3 y.f2.f4 y.f2.f5 y.f2.f6 x.f2.f3[i].f0 x.f2.f3[i].f1) r := by
      intro hs
      by_cases c1 : x.f2.f3[i].f1 = y.f2.f3[j].f1
      · rw [h4 (fun h => (h hs).1 c1)]; exact Ev.pos c1 Ev.some'
      · refine Ev.neg c1 ?_
        by_cases c2 : x.f0 = y.f0
        · refine Ev.pos c2 ?_
          by_cases c3 : x.f2.f3[i].f0.toList = y.f2.f3[j].f0.toList
          · rw [h4 (fun h => (h hs).2 ⟨c2, c3⟩)]; exact Ev.pos c3 Ev.some'
          · exact Ev.neg c3 (h3 (fun _ => ⟨c1, fun h => c3 h.2⟩))
        · exact Ev.neg c2 (h3 (fun _ => ⟨c1, fun h => c2 h.1⟩))
    cases same with
    | true =>
      by_cases c : i = j
      · refine Ev.step (fun k => ?_) (h3 (fun h => absurd c (h rfl)))
        show conf_once.l3 (k + 1) _ _ _ _ _ _ _ _ _ _ _ _ _ _ _ _ _ _ _ _ _ _ _ _ _ _ _ _ = _
        rw [conf_once.l3, if_pos (by omega), if_pos (by omega), if_pos (by omega), if_pos rfl, if_pos (by omega), hw]
      · refine Ev.step (fun k => ?_) (tail (fun _ => c))
        show conf_once.l3 (k + 1) _ _ _ _ _ _ _ _ _ _ _ _ _ _ _ _ _ _ _ _ _ _ _ _ _ _ _ _ = _
        rw [conf_once.l3, if_pos (by omega), if_pos (by omega), if_pos (by omega), if_pos rfl, if_neg (by omega), hw, eJ]
    | false =>
      refine Ev.step (fun k => ?_) (tail (fun h => by cases h))
      show conf_once.l3 (k + 1) _ _ _ _ _ _ _ _ _ _ _ _ _ _ _ _ _ _ _ _ _ _ _ _ _ _ _ _ = _
      rw [conf_once.l3, if_pos (by omega), if_pos (by omega), if_pos (by omega), if_neg (by simp), hw, eJ]
  refine loopC (n := y.f2.f3.length) (L := fun k j => conf_once.l3 k same (i : Int) x.f2.f3 (x.f2.f3.length : Int) (i : Int) y.f2.f3 (y.f2.f3.length : Int) j x.f0 x.f1 x.f2.f0 x.f2.f1 x.f2.f2 x.f2.f3 x.f2.f4 x.f2.f5 x.f2.f6 y.f0 y.f1 y.f2.f0 y.f2.f1 y.f2.f2 y.f2.f3 y.f2.f4 y.f2.f5 y.f2.f6 x.f2.f3[i].f0 x.f2.f3[i].f1) (fun j => ∃ h : j < y.f2.f3.length, (same = true → i ≠ j) → DifR x.f0 y.f0 x.f2.f3[i] y.f2.f3[j]) false (fun j hj hp r h3 => ?_) (fun j hj hp => ?_) (fun h3 => ?_) (fun h3 => ?_)
  · exact E j hj r (fun _ => h3) (fun h => absurd hp.2 h)
  · exact E j hj false (fun h => absurd ⟨hj, h⟩ hp) (fun _ => rfl)
  · refine Ev.step (fun k => ?_) (h1 (fun j hj => (h3 j hj).2))
    show conf_once.l3 (k + 1) _ _ _ _ _ _ _ _ _ _ _ _ _ _ _ _ _ _ _ _ _ _ _ _ _ _ _ _ = _
    rw [conf_once.l3, if_neg (by omega), wrap_next hi (by omega)]
  · obtain ⟨j, hj, hp⟩ := h3
    exact h2 (fun h => hp ⟨hj, h j hj⟩)
theorem conf_once_l2 (same : Bool) (x y : Sp) (hx : SmS x.f2) (hy : SmS y.f2) {r : Bool}
    (hr : r = true ↔ ∀ i j, (hi : i < x.f2.f3.length) → (hj : j < y.f2.f3.length) → (same = true → i ≠ j) → DifR x.f0 y.f0 x.f2.f3[i] y.f2.f3[j]) : Ev (fun k => conf_once.l2 k same x.f2.f3 (x.f2.f3.length : Int) 0 x.f0 x.f1 x.f2.f0 x.f2.f1 x.f2.f2 x.f2.f3 x.f2.f4 x.f2.f5 x.f2.f6 y.f0 y.f1 y.f2.f0 y.f2.f1 y.f2.f2 y.f2.f3 y.f2.f4 y.f2.f5 y.f2.f6) r := by
  have b1 := hx.2.1
  have E : ∀ i (hi : i < x.f2.f3.length) (r : Bool), ((∀ j, (hj : j < y.f2.f3.length) → (same = true → i ≠ j) → DifR x.f0 y.f0 x.f2.f3[i] y.f2.f3[j]) → Ev (fun k => conf_once.l2 k same x.f2.f3 (x.f2.f3.length : Int) ((i + 1 : Nat) : Int) x.f0 x.f1 x.f2.f0 x.f2.f1 x.f2.f2 x.f2.f3 x.f2.f4 x.f2.f5 x.f2.f6 y.f0 y.f1 y.f2.f0 y.f2.f1 y.f2.f2 y.f2.f3 y.f2.f4 y.f2.f5 y.f2.f6) r) → ((¬ ∀ j, (hj : j < y.f2.f3.length) → (same = true → i ≠ j) → DifR x.f0 y.f0 x.f2.f3[i] y.f2.f3[j]) → r = false) → Ev (fun k => conf_once.l2 k same x.f2.f3 (x.f2.f3.length : Int) (i : Int) x.f0 x.f1 x.f2.f0 x.f2.f1 x.f2.f2 x.f2.f3 x.f2.f4 x.f2.f5 x.f2.f6 y.f0 y.f1 y.f2.f0 y.f2.f1 y.f2.f2 y.f2.f3 y.f2.f4 y.f2.f5 y.f2.f6) r := by
    intro i hi r h3 h4
    refine Ev.step (fun k => ?_) (conf_once_l3 same x y hx hy i hi h3 h4)
    show conf_once.l2 (k + 1) _ _ _ _ _ _ _ _ _ _ _ _ _ _ _ _ _ _ _ _ _ _ = _
    rw [conf_once.l2, if_pos (by omega), if_pos (by omega), if_pos (by omega), show rd_T59 x.f2.f3 (i : Int) = x.f2.f3[i] from rd_get hi]
  refine loopC (n := x.f2.f3.length) (L := fun k i => conf_once.l2 k same x.f2.f3 (x.f2.f3.length : Int) i x.f0 x.f1 x.f2.f0 x.f2.f1 x.f2.f2 x.f2.f3 x.f2.f4 x.f2.f5 x.f2.f6 y.f0 y.f1 y.f2.f0 y.f2.f1 y.f2.f2 y.f2.f3 y.f2.f4 y.f2.f5 y.f2.f6) (fun i => ∃ h : i < x.f2.f3.length, ∀ j, (hj : j < y.f2.f3.length) → (same = true → i ≠ j) → DifR x.f0 y.f0 x.f2.f3[i] y.f2.f3[j]) false (fun i hi hp r h3 => ?_) (fun i hi hp => ?_) (fun h3 => ?_) (fun h3 => ?_)
  · exact E i hi r (fun _ => h3) (fun h => absurd hp.2 h)
  · exact E i hi false (fun h => absurd ⟨hi, h⟩ hp) (fun _ => rfl)
  · rw [hr.2 (fun i j hi hj => (h3 i hi).2 j hj)]
    refine Ev.step (f := fun _ => some true) (fun k => ?_) Ev.some'
    show conf_once.l2 (k + 1) _ _ _ _ _ _ _ _ _ _ _ _ _ _ _ _ _ _ _ _ _ _ = _
    rw [conf_once.l2, if_neg (by omega)]
  · obtain ⟨i, hi, hp⟩ := h3
    cases r with
    | false => rfl
    | true => exact absurd ⟨hi, fun j hj => hr.1 rfl i j hi hj⟩ hp
theorem conf_once_l1 (same : Bool) (x y : Sp) (hx : SmS x.f2) (hy : SmS y.f2) (i : Nat) (hi : i < x.f2.f2.length) {r : Bool}
    (h1 : (same = true → ∀ j, (hj : j < y.f2.f2.length) → i ≠ j → DisjP x.f2.f2[i] y.f2.f2[j]) → Ev (fun k => conf_once.l0 k same x.f2.f2 (x.f2.f2.length : Int) ((i + 1 : Nat) : Int) x.f0 x.f1 x.f2.f0 x.f2.f1 x.f2.f2 x.f2.f3 x.f2.f4 x.f2.f5 x.f2.f6 y.f0 y.f1 y.f2.f0 y.f2.f1 y.f2.f2 y.f2.f3 y.f2.f4 y.f2.f5 y.f2.f6) r)
    (h2 : (¬ (same = true → ∀ j, (hj : j < y.f2.f2.length) → i ≠ j → DisjP x.f2.f2[i] y.f2.f2[j])) → r = false) : Ev (fun k => conf_once.l1 k same (i : Int) x.f2.f2 (x.f2.f2.length : Int) (i : Int) y.f2.f2 (y.f2.f2.length : Int) 0 x.f0 x.f1 x.f2.f0 x.f2.f1 x.f2.f2 x.f2.f3 x.f2.f4 x.f2.f5 x.f2.f6 y.f0 y.f1 y.f2.f0 y.f2.f1 y.f2.f2 y.f2.f3 y.f2.f4 y.f2.f5 y.f2.f6 x.f2.f2[i].f0 x.f2.f2[i].f1) r := by
  have b1 := hx.1
  have b2 := hy.1
  have E : ∀ j (hj : j < y.f2.f2.length) (r : Bool), ((same = true → i ≠ j → DisjP x.f2.f2[i] y.f2.f2[j]) → Ev (fun k => conf_once.l1 k same (i : Int) x.f2.f2 (x.f2.f2.length : Int) (i : Int) y.f2.f2 (y.f2.f2.length : Int) ((j + 1 : Nat) : Int) x.f0 x.f1 x.f2.f0 x.f2.f1 x.f2.f2 x.f2.f3 x.f2.f4 x.f2.f5 x.f2.f6 y.f0 y.f1 y.f2.f0 y.f2.f1 y.f2.f2 y.f2.f3 y.f2.f4 y.f2.f5 y.f2.f6 x.f2.f2[i].f0 x.f2.f2[i].f1) r) → ((¬ (same = true → i ≠ j → DisjP x.f2.f2[i] y.f2.f2[j])) → r = false) → Ev (fun k => conf_once.l1 k same (i : Int) x.f2.f2 (x.f2.f2.length : Int) (i : Int) y.f2.f2 (y.f2.f2.length : Int) (j : Int) x.f0 x.f1 x.f2.f0 x.f2.f1 x.f2.f2 x.f2.f3 x.f2.f4 x.f2.f5 x.f2.f6 y.f0 y.f1 y.f2.f0 y.f2.f1 y.f2.f2 y.f2.f3 y.f2.f4 y.f2.f5 y.f2.f6 x.f2.f2[i].f0 x.f2.f2[i].f1) r := by
    intro j hj r h3 h4
    have hw : wrap64 ((j : Int) + 1) = ((j + 1 : Nat) : Int) := wrap_next hj (by omega)
    have eJ : rd_T62 y.f2.f2 (j : Int) = y.f2.f2[j] := rd_get hj
    cases same with
    | true =>
      by_cases c : i = j
      · refine Ev.step (fun k => ?_) (h3 (fun _ h => absurd c h))
        show conf_once.l1 (k + 1) _ _ _ _ _ _ _ _ _ _ _ _ _ _ _ _ _ _ _ _ _ _ _ _ _ _ _ _ = _
        rw [conf_once.l1, if_pos (by omega), if_pos (by omega), if_pos (by omega), if_pos rfl, if_pos (by omega), hw]
      · refine Ev.step (f := fun k => if decide (x.f2.f2[i].f0 ≤ y.f2.f2[j].f0 ∧ y.f2.f2[j].f0 ≤ x.f2.f2[i].f1) = true then some false else (if decide (y.f2.f2[j].f0 ≤ x.f2.f2[i].f0 ∧ x.f2.f2[i].f0 ≤ y.f2.f2[j].f1) = true then some false else conf_once.l1 k true (i : Int) x.f2.f2 (x.f2.f2.length : Int) (i : Int) y.f2.f2 (y.f2.f2.length : Int) ((j + 1 : Nat) : Int) x.f0 x.f1 x.f2.f0 x.f2.f1 x.f2.f2 x.f2.f3 x.f2.f4 x.f2.f5 x.f2.f6 y.f0 y.f1 y.f2.f0 y.f2.f1 y.f2.f2 y.f2.f3 y.f2.f4 y.f2.f5 y.f2.f6 x.f2.f2[i].f0 x.f2.f2[i].f1)) (fun k => ?_) ?_
        · show conf_once.l1 (k + 1) _ _ _ _ _ _ _ _ _ _ _ _ _ _ _ _ _ _ _ _ _ _ _ _ _ _ _ _ = _
          rw [conf_once.l1, if_pos (by omega), if_pos (by omega), if_pos (by omega), if_pos rfl, if_neg (by omega), eJ, conf_has_s, Option.bind_some, conf_has_s, Option.bind_some, hw]
        · by_cases c1 : x.f2.f2[i].f0 ≤ y.f2.f2[j].f0 ∧ y.f2.f2[j].f0 ≤ x.f2.f2[i].f1
          · rw [h4 (fun h => (h rfl c).1 c1)]; exact Ev.pos (decide_eq_true c1) Ev.some'
          · refine Ev.neg (by rw [decide_eq_false c1]; simp) ?_
            by_cases c2 : y.f2.f2[j].f0 ≤ x.f2.f2[i].f0 ∧ x.f2.f2[i].f0 ≤ y.f2.f2[j].f1
            · rw [h4 (fun h => (h rfl c).2 c2)]; exact Ev.pos (decide_eq_true c2) Ev.some'
            · exact Ev.neg (by rw [decide_eq_false c2]; simp) (h3 (fun _ _ => ⟨c1, c2⟩))
    | false =>
      refine Ev.step (fun k => ?_) (h3 (fun h => by cases h))
      show conf_once.l1 (k + 1) _ _ _ _ _ _ _ _ _ _ _ _ _ _ _ _ _ _ _ _ _ _ _ _ _ _ _ _ = _
      rw [conf_once.l1, if_pos (by omega), if_pos (by omega), if_pos (by omega), if_neg (by simp), hw]
  refine loopC (n := y.f2.f2.length) (L := fun k j => conf_once.l1 k same (i : Int) x.f2.f2 (x.f2.f2.length : Int) (i : Int) y.f2.f2 (y.f2.f2.length : Int) j x.f0 x.f1 x.f2.f0 x.f2.f1 x.f2.f2 x.f2.f3 x.f2.f4 x.f2.f5 x.f2.f6 y.f0 y.f1 y.f2.f0 y.f2.f1 y.f2.f2 y.f2.f3 y.f2.f4 y.f2.f5 y.f2.f6 x.f2.f2[i].f0 x.f2.f2[i].f1) (fun j => ∃ h : j < y.f2.f2.length, same = true → i ≠ j → DisjP x.f2.f2[i] y.f2.f2[j]) false (fun j hj hp r h3 => ?_) (fun j hj hp => ?_) (fun h3 => ?_) (fun h3 => ?_)
  · exact E j hj r (fun _ => h3) (fun h => absurd hp.2 h)
  · exact E j hj false (fun h => absurd ⟨hj, h⟩ hp) (fun _ => rfl)
  · refine Ev.step (fun k => ?_) (h1 (fun e j hj => (h3 j hj).2 e))
    show conf_once.l1 (k + 1) _ _ _ _ _ _ _ _ _ _ _ _ _ _ _ _ _ _ _ _ _ _ _ _ _ _ _ _ = _
    rw [conf_once.l1, if_neg (by omega), wrap_next hi (by omega)]
  · obtain ⟨j, hj, hp⟩ := h3
    exact h2 (fun h => hp ⟨hj, fun e => h e j hj⟩)
theorem conf_once_l0 (same : Bool) (x y : Sp) (hx : SmS x.f2) (hy : SmS y.f2) {r : Bool}
    (hr : r = true ↔ (same = true → ∀ i j, (hi : i < x.f2.f2.length) → (hj : j < y.f2.f2.length) → i ≠ j → DisjP x.f2.f2[i] y.f2.f2[j]) ∧
      ∀ i j, (hi : i < x.f2.f3.length) → (hj : j < y.f2.f3.length) → (same = true → i ≠ j) → DifR x.f0 y.f0 x.f2.f3[i] y.f2.f3[j]) : Ev (fun k => conf_once.l0 k same x.f2.f2 (x.f2.f2.length : Int) 0 x.f0 x.f1 x.f2.f0 x.f2.f1 x.f2.f2 x.f2.f3 x.f2.f4 x.f2.f5 x.f2.f6 y.f0 y.f1 y.f2.f0 y.f2.f1 y.f2.f2 y.f2.f3 y.f2.f4 y.f2.f5 y.f2.f6) r := by
  have b1 := hx.1
  have E : ∀ i (hi : i < x.f2.f2.length) (r : Bool), ((same = true → ∀ j, (hj : j < y.f2.f2.length) → i ≠ j → DisjP x.f2.f2[i] y.f2.f2[j]) → Ev (fun k => conf_once.l0 k same x.f2.f2 (x.f2.f2.length : Int) ((i + 1 : Nat) : Int) x.f0 x.f1 x.f2.f0 x.f2.f1 x.f2.f2 x.f2.f3 x.f2.f4 x.f2.f5 x.f2.f6 y.f0 y.f1 y.f2.f0 y.f2.f1 y.f2.f2 y.f2.f3 y.f2.f4 y.f2.f5 y.f2.f6) r) → ((¬ (same = true → ∀ j, (hj : j < y.f2.f2.length) → i ≠ j → DisjP x.f2.f2[i] y.f2.f2[j])) → r = false) → Ev (fun k => conf_once.l0 k same x.f2.f2 (x.f2.f2.length : Int) (i : Int) x.f0 x.f1 x.f2.f0 x.f2.f1 x.f2.f2 x.f2.f3 x.f2.f4 x.f2.f5 x.f2.f6 y.f0 y.f1 y.f2.f0 y.f2.f1 y.f2.f2 y.f2.f3 y.f2.f4 y.f2.f5 y.f2.f6) r := by
    intro i hi r h3 h4
    refine Ev.step (fun k => ?_) (conf_once_l1 same x y hx hy i hi h3 h4)
    show conf_once.l0 (k + 1) _ _ _ _ _ _ _ _ _ _ _ _ _ _ _ _ _ _ _ _ _ _ = _
    rw [conf_once.l0, if_pos (by omega), if_pos (by omega), if_pos (by omega), show rd_T62 x.f2.f2 (i : Int) = x.f2.f2[i] from rd_get hi]
  refine loopC (n := x.f2.f2.length) (L := fun k i => conf_once.l0 k same x.f2.f2 (x.f2.f2.length : Int) i x.f0 x.f1 x.f2.f0 x.f2.f1 x.f2.f2 x.f2.f3 x.f2.f4 x.f2.f5 x.f2.f6 y.f0 y.f1 y.f2.f0 y.f2.f1 y.f2.f2 y.f2.f3 y.f2.f4 y.f2.f5 y.f2.f6) (fun i => ∃ h : i < x.f2.f2.length, same = true → ∀ j, (hj : j < y.f2.f2.length) → i ≠ j → DisjP x.f2.f2[i] y.f2.f2[j]) false (fun i hi hp r h3 => ?_) (fun i hi hp => ?_) (fun h3 => ?_) (fun h3 => ?_)
  · exact E i hi r (fun _ => h3) (fun h => absurd hp.2 h)
  · exact E i hi false (fun h => absurd ⟨hi, h⟩ hp) (fun _ => rfl)
  · refine Ev.step (fun k => ?_) (conf_once_l2 same x y hx hy (r := r) ?_)
    · show conf_once.l0 (k + 1) _ _ _ _ _ _ _ _ _ _ _ _ _ _ _ _ _ _ _ _ _ _ = _
      rw [conf_once.l0, if_neg (by omega)]
    · rw [hr]
      exact ⟨fun h => h.2, fun h => ⟨fun e i j hi hj => (h3 i hi).2 e j hj, h⟩⟩
  · obtain ⟨i, hi, hp⟩ := h3
    cases r with
    | false => rfl
    | true => exact absurd ⟨hi, fun e j hj => (hr.1 rfl).1 e i j hi hj⟩ hp
open Classical in
theorem conf_once_s (x y : Sp) (hx : SmS x.f2) (hy : SmS y.f2) (same : Bool) : Ev (fun k => conf_once.f k x.f0 x.f1 x.f2.f0 x.f2.f1 x.f2.f2 x.f2.f3 x.f2.f4 x.f2.f5 x.f2.f6 y.f0 y.f1 y.f2.f0 y.f2.f1 y.f2.f2 y.f2.f3 y.f2.f4 y.f2.f5 y.f2.f6 same) (decide (OnceP x y same)) := by
  have J : ∀ (b : Bool), (b = true → ¬ OnceP x y same) → (b = false → (same = false → FarS x y)) → Ev (fun k => conf_once.j0 k same b x.f0 x.f1 x.f2.f0 x.f2.f1 x.f2.f2 x.f2.f3 x.f2.f4 x.f2.f5 x.f2.f6 y.f0 y.f1 y.f2.f0 y.f2.f1 y.f2.f2 y.f2.f3 y.f2.f4 y.f2.f5 y.f2.f6) (decide (OnceP x y same)) := by
    intro b hb hc
    cases b with
    | true =>
      rw [decide_eq_false (hb rfl)]
      exact Ev.step (f := fun _ => some false) (fun k => by show conf_once.j0 (k + 1) _ _ _ _ _ _ _ _ _ _ _ _ _ _ _ _ _ _ _ _ = _; rw [conf_once.j0, if_pos rfl]) Ev.some'
    | false =>
      refine Ev.step (fun k => by show conf_once.j0 (k + 1) _ _ _ _ _ _ _ _ _ _ _ _ _ _ _ _ _ _ _ _ = _; rw [conf_once.j0, if_neg (by simp)]) (conf_once_l0 same x y hx hy (r := decide (OnceP x y same)) ?_)
      rw [decide_eq_true_iff]
      exact ⟨fun h => h.2, fun h => ⟨hc rfl, h⟩⟩
  cases same with
  | true =>
    refine Ev.congr (f := fun k => conf_once.j0 k true false x.f0 x.f1 x.f2.f0 x.f2.f1 x.f2.f2 x.f2.f3 x.f2.f4 x.f2.f5 x.f2.f6 y.f0 y.f1 y.f2.f0 y.f2.f1 y.f2.f2 y.f2.f3 y.f2.f4 y.f2.f5 y.f2.f6) (fun k => ?_) (J false (fun h => by cases h) (fun _ h => by cases h))
    unfold conf_once.f
    rw [if_pos rfl]
  | false =>
    refine Ev.congr (f := fun k => if meetB x.f2.f0 x.f2.f1 y.f2.f0 y.f2.f1 = true then conf_once.j0 k false true x.f0 x.f1 x.f2.f0 x.f2.f1 x.f2.f2 x.f2.f3 x.f2.f4 x.f2.f5 x.f2.f6 y.f0 y.f1 y.f2.f0 y.f2.f1 y.f2.f2 y.f2.f3 y.f2.f4 y.f2.f5 y.f2.f6 else (if x.f0 = y.f0 then conf_once.j0 k false false x.f0 x.f1 x.f2.f0 x.f2.f1 x.f2.f2 x.f2.f3 x.f2.f4 x.f2.f5 x.f2.f6 y.f0 y.f1 y.f2.f0 y.f2.f1 y.f2.f2 y.f2.f3 y.f2.f4 y.f2.f5 y.f2.f6 else (if x.f2.f4 = y.f2.f4 then conf_once.j0 k false (decide (x.f2.f4 > 0)) x.f0 x.f1 x.f2.f0 x.f2.f1 x.f2.f2 x.f2.f3 x.f2.f4 x.f2.f5 x.f2.f6 y.f0 y.f1 y.f2.f0 y.f2.f1 y.f2.f2 y.f2.f3 y.f2.f4 y.f2.f5 y.f2.f6 else conf_once.j0 k false false x.f0 x.f1 x.f2.f0 x.f2.f1 x.f2.f2 x.f2.f3 x.f2.f4 x.f2.f5 x.f2.f6 y.f0 y.f1 y.f2.f0 y.f2.f1 y.f2.f2 y.f2.f3 y.f2.f4 y.f2.f5 y.f2.f6))) (fun k => ?_) ?_
    · unfold conf_once.f
      rw [if_neg (by simp), addr_Meet_s, Option.bind_some]
    · by_cases c1 : meetB x.f2.f0 x.f2.f1 y.f2.f0 y.f2.f1 = true
      · refine Ev.pos c1 (J true (fun _ h => ?_) (fun h => by cases h))
        have := (h.1 rfl).1
        rw [show meetC x.f2.f0 x.f2.f1 y.f2.f0 y.f2.f1 = meetB x.f2.f0 x.f2.f1 y.f2.f0 y.f2.f1 from rfl, c1] at this
        cases this
      · have c1' : meetC x.f2.f0 x.f2.f1 y.f2.f0 y.f2.f1 = false := Bool.eq_false_iff.mpr c1
        refine Ev.neg c1 ?_
        by_cases c2 : x.f0 = y.f0
        · exact Ev.pos c2 (J false (fun h => by cases h) (fun _ _ => ⟨c1', fun h => h.1 c2⟩))
        · refine Ev.neg c2 ?_
          by_cases c3 : x.f2.f4 = y.f2.f4
          · exact Ev.pos c3 (J _ (fun h h2 => (h2.1 rfl).2 ⟨c2, c3, of_decide_eq_true h⟩) (fun h _ => ⟨c1', fun h2 => of_decide_eq_false h h2.2.2⟩))
          · exact Ev.neg c3 (J false (fun h => by cases h) (fun _ _ => ⟨c1', fun h => c3 h.2.1⟩))

end Go.Proofs.Ytdcabfonjmeajaa.POrder
set_option linter.unusedVariables false
set_option linter.unusedSimpArgs false
namespace Go.Proofs.Ytdcabfonjmeajaa.POrder
open Go.RowKit Go.Proofs.YtdcabfonjmeajaaW.PrintWords Go.Proofs.YtdcabfonjmeajaaW.PrintLast Go.Proofs.YtdcabfonjmeajaaW.PrintMore

/-! ### conf.unlike -/
open Classical in
theorem conf_unlike_l1 (l : List Sp) (hl : l.length ≤ 1000) (hS : ∀ (i : Nat) (hi : i < l.length), SmS l[i].f2) (i : Nat) (hi : i < l.length) {r : Bool}
    (h1 : (∀ j, (hj : j < l.length) → OnceP l[i] l[j] (decide (i = j))) → Ev (fun k => conf_unlike.l0 k l l (l.length : Int) ((i + 1 : Nat) : Int)) r) (h2 : (¬ ∀ j, (hj : j < l.length) → OnceP l[i] l[j] (decide (i = j))) → r = false) :
    Ev (fun k => conf_unlike.l1 k l (i : Int) l (l.length : Int) (i : Int) l (l.length : Int) 0 l[i].f0 l[i].f1 l[i].f2.f0 l[i].f2.f1 l[i].f2.f2 l[i].f2.f3 l[i].f2.f4 l[i].f2.f5 l[i].f2.f6) r := by
  have E : ∀ j (hj : j < l.length) (r : Bool), (OnceP l[i] l[j] (decide (i = j)) → Ev (fun k => conf_unlike.l1 k l (i : Int) l (l.length : Int) (i : Int) l (l.length : Int) ((j + 1 : Nat) : Int) l[i].f0 l[i].f1 l[i].f2.f0 l[i].f2.f1 l[i].f2.f2 l[i].f2.f3 l[i].f2.f4 l[i].f2.f5 l[i].f2.f6) r) →
      (¬ OnceP l[i] l[j] (decide (i = j)) → r = false) → Ev (fun k => conf_unlike.l1 k l (i : Int) l (l.length : Int) (i : Int) l (l.length : Int) (j : Int) l[i].f0 l[i].f1 l[i].f2.f0 l[i].f2.f1 l[i].f2.f2 l[i].f2.f3 l[i].f2.f4 l[i].f2.f5 l[i].f2.f6) r := by
    intro j hj r h3 h4
    have eD : ((i : Int) == (j : Int)) = decide (i = j) := by
      by_cases c : i = j
      · subst c; simp
      · rw [decide_eq_false c]; exact beq_eq_false_iff_ne.2 (fun h => c (by omega))
    refine Ev.step (fun k => ?_) (Ev.bind (conf_once_s l[i] l[j] (hS i hi) (hS j hj) (decide (i = j))) (f := fun k t => if t = true then conf_unlike.l1 k l (i : Int) l (l.length : Int) (i : Int) l (l.length : Int) ((j + 1 : Nat) : Int) l[i].f0 l[i].f1 l[i].f2.f0 l[i].f2.f1 l[i].f2.f2 l[i].f2.f3 l[i].f2.f4 l[i].f2.f5 l[i].f2.f6 else some false) ?_)
    · show conf_unlike.l1 (k + 1) _ _ _ _ _ _ _ _ _ _ _ _ _ _ _ _ _ = _
      rw [conf_unlike.l1, if_pos (by omega), if_pos (by omega), if_pos (by omega), show rd_T66 l (j : Int) = l[j] from rd_get hj, wrap_next hj (by omega), eD]
    · by_cases c : OnceP l[i] l[j] (decide (i = j))
      · exact Ev.pos (decide_eq_true c) (h3 c)
      · rw [h4 c]; exact Ev.neg (by rw [decide_eq_false c]; simp) Ev.some'
  refine loopC (n := l.length) (L := fun k j => conf_unlike.l1 k l (i : Int) l (l.length : Int) (i : Int) l (l.length : Int) j l[i].f0 l[i].f1 l[i].f2.f0 l[i].f2.f1 l[i].f2.f2 l[i].f2.f3 l[i].f2.f4 l[i].f2.f5 l[i].f2.f6) (fun j => ∃ h : j < l.length, OnceP l[i] l[j] (decide (i = j))) false (fun j hj hp r h3 => ?_) (fun j hj hp => ?_) (fun h3 => ?_) (fun h3 => ?_)
  · exact E j hj r (fun _ => h3) (fun h => absurd hp.2 h)
  · exact E j hj false (fun h => absurd ⟨hj, h⟩ hp) (fun _ => rfl)
  · refine Ev.step (fun k => ?_) (h1 (fun j hj => (h3 j hj).2))
    show conf_unlike.l1 (k + 1) _ _ _ _ _ _ _ _ _ _ _ _ _ _ _ _ _ = _
    rw [conf_unlike.l1, if_neg (by omega), wrap_next hi (by omega)]
  · obtain ⟨j, hj, hp⟩ := h3
    exact h2 (fun h => hp ⟨hj, h j hj⟩)
open Classical in
theorem conf_unlike_s (a b : Int) (nets : List Nt) (h : Sm nets) : Ev (fun k => conf_unlike.f k a b nets) (decide (UnlikeP (spotsL nets))) := by
  refine Ev.bind (conf_spots_s a b nets h) (f := fun k t => conf_unlike.l0 k t t (t.length : Int) 0) ?_
  have hN : (spotsL nets).length ≤ 1000 := by have := spots_len (n := 0) (fun x hx => (h.2 x hx).1); have := h.1; unfold spotsL; omega
  have hS : ∀ (i : Nat) (hi : i < (spotsL nets).length), SmS (spotsL nets)[i].f2 := fun i hi => (spots_all (F := SmS)).2 (fun n hn s hs => (h.2 n hn).2 s hs) _ (List.getElem_mem hi)
  generalize spotsL nets = l at *
  have E : ∀ i (hi : i < l.length) (r : Bool), ((∀ j, (hj : j < l.length) → OnceP l[i] l[j] (decide (i = j))) → Ev (fun k => conf_unlike.l0 k l l (l.length : Int) ((i + 1 : Nat) : Int)) r) → ((¬ ∀ j, (hj : j < l.length) → OnceP l[i] l[j] (decide (i = j))) → r = false) → Ev (fun k => conf_unlike.l0 k l l (l.length : Int) (i : Int)) r := by
    intro i hi r h3 h4
    refine Ev.step (fun k => ?_) (conf_unlike_l1 l hN hS i hi h3 h4)
    show conf_unlike.l0 (k + 1) _ _ _ _ = _
    rw [conf_unlike.l0, if_pos (by omega), if_pos (by omega), if_pos (by omega), show rd_T66 l (i : Int) = l[i] from rd_get hi]
  refine loopC (n := l.length) (L := fun k i => conf_unlike.l0 k l l (l.length : Int) i) (fun i => ∃ h : i < l.length, ∀ j, (hj : j < l.length) → OnceP l[i] l[j] (decide (i = j))) false (fun i hi hp r h3 => ?_) (fun i hi hp => ?_) (fun h3 => ?_) (fun h3 => ?_)
  · exact E i hi r (fun _ => h3) (fun h => absurd hp.2 h)
  · exact E i hi false (fun h => absurd ⟨hi, h⟩ hp) (fun _ => rfl)
  · rw [decide_eq_true (show UnlikeP l from fun i j hi hj => (h3 i hi).2 j hj)]
    refine Ev.step (f := fun _ => some true) (fun k => ?_) Ev.some'
    show conf_unlike.l0 (k + 1) _ _ _ _ = _
    rw [conf_unlike.l0, if_neg (by omega)]
  · obtain ⟨i, hi, hp⟩ := h3
    exact decide_eq_false (fun h => hp ⟨hi, fun j hj => h i j hi hj⟩)

end Go.Proofs.Ytdcabfonjmeajaa.POrder
set_option linter.unusedVariables false
set_option linter.unusedSimpArgs false
namespace Go.Proofs.Ytdcabfonjmeajaa.POrder
open Go.RowKit Go.Proofs.YtdcabfonjmeajaaW.PrintWords Go.Proofs.YtdcabfonjmeajaaW.PrintLast Go.Proofs.YtdcabfonjmeajaaW.PrintMore

/-! ### conf.Check -/
open Classical in
theorem conf_Check_s (a b : Int) (nets : List Nt) (h : Sm nets) : Ev (fun k => conf_Check.f k a b nets) (checkI a b nets) := by
  unfold checkI
  refine Ev.bind (conf_form_s a b nets h) (f := fun k t => if t = true then ((conf_placed.f k a b nets).bind fun t193 => (if t193 = true then ((conf_unlike.f k a b nets).bind fun t194 => (if t194 = true then (some 0) else (some 8))) else (some 9))) else (some 1)) ?_
  by_cases c1 : FormP a b nets
  · rw [if_pos c1]
    refine Ev.pos (decide_eq_true c1) (Ev.bind (conf_placed_s a b nets h c1.2.2.2.2.2.2) (f := fun k t193 => (if t193 = true then ((conf_unlike.f k a b nets).bind fun t194 => (if t194 = true then (some 0) else (some 8))) else (some 9))) ?_)
    by_cases c2 : ∀ n ∈ nets, ∀ s ∈ n.f0, PlaceS a s
    · rw [if_pos c2]
      refine Ev.pos (decide_eq_true c2) (Ev.bind (conf_unlike_s a b nets h) (f := fun k t194 => (if t194 = true then (some 0) else (some 8))) ?_)
      by_cases c3 : UnlikeP (spotsL nets)
      · rw [if_pos c3]; exact Ev.pos (decide_eq_true c3) Ev.some'
      · rw [if_neg c3]; exact Ev.neg (by rw [decide_eq_false c3]; simp) Ev.some'
    · rw [if_neg c2]; exact Ev.neg (by rw [decide_eq_false c2]; simp) Ev.some'
  · rw [if_neg c1]; exact Ev.neg (by rw [decide_eq_false c1]; simp) Ev.some'

end Go.Proofs.Ytdcabfonjmeajaa.POrder
