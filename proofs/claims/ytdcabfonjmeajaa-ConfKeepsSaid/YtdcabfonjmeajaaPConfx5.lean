/- Lean functions for Go functions of the given program, and proofs that the code computes them, each under its theorem's own conditions. Written by a program of this session. -/
import Derived.Test.YtdcabfonjmeajaaPConfx0
import Derived.Test.YtdcabfonjmeajaaPConfx3
import Derived.Test.YtdcabfonjmeajaaPConfx4
namespace Go.Proofs.Ytdcabfonjmeajaa.PConf
open Go.RowKit Go.Proofs.YtdcabfonjmeajaaW.PrintWords Go.Proofs.YtdcabfonjmeajaaW.PrintLast Go.Proofs.YtdcabfonjmeajaaW.PrintMore
attribute [local go_sem] max2_int min2_int max_two min_two max_three min_three max_four min_four   -- for this text's walks alone
set_option linter.unusedVariables false
set_option linter.unusedSimpArgs false

/-! ### conf_once: function 69 -/
mutual
def conf_once.j0 : Nat → Bool → Bool → Int → Int → Int → Int → List (S62) → List (S59) → Int → Int → Int → Int → Int → Int → Int → List (S62) → List (S59) → Int → Int → Int → Option (Bool)
  | 0, _, _, _, _, _, _, _, _, _, _, _, _, _, _, _, _, _, _, _, _ => none
  | k + 1, x2, x53, x170000, x170001, x170002, x170003, x170004, x170005, x170006, x170007, x170008, x171000, x171001, x171002, x171003, x171004, x171005, x171006, x171007, x171008 => if x53 = true then (some false) else (conf_once.l0 k x2 x170004 (x170004.length : Int) 0 x170000 x170001 x170002 x170003 x170004 x170005 x170006 x170007 x170008 x171000 x171001 x171002 x171003 x171004 x171005 x171006 x171007 x171008)
def conf_once.l0 : Nat → Bool → List (S62) → Int → Int → Int → Int → Int → Int → List (S62) → List (S59) → Int → Int → Int → Int → Int → Int → Int → List (S62) → List (S59) → Int → Int → Int → Option (Bool)
  | 0, _, _, _, _, _, _, _, _, _, _, _, _, _, _, _, _, _, _, _, _, _, _ => none
  | k + 1, x2, x56, x57, x58, x170000, x170001, x170002, x170003, x170004, x170005, x170006, x170007, x170008, x171000, x171001, x171002, x171003, x171004, x171005, x171006, x171007, x171008 => if x58 < x57 then (if 0 ≤ x58 then (if x58 < (x56.length : Int) then (conf_once.l1 k x2 x58 x56 x57 x58 x171004 (x171004.length : Int) 0 x170000 x170001 x170002 x170003 x170004 x170005 x170006 x170007 x170008 x171000 x171001 x171002 x171003 x171004 x171005 x171006 x171007 x171008 ((rd_T62 x56 x58).f0) ((rd_T62 x56 x58).f1)) else (none)) else (none)) else (conf_once.l2 k x2 x170005 (x170005.length : Int) 0 x170000 x170001 x170002 x170003 x170004 x170005 x170006 x170007 x170008 x171000 x171001 x171002 x171003 x171004 x171005 x171006 x171007 x171008)
def conf_once.l1 : Nat → Bool → Int → List (S62) → Int → Int → List (S62) → Int → Int → Int → Int → Int → Int → List (S62) → List (S59) → Int → Int → Int → Int → Int → Int → Int → List (S62) → List (S59) → Int → Int → Int → Int → Int → Option (Bool)
  | 0, _, _, _, _, _, _, _, _, _, _, _, _, _, _, _, _, _, _, _, _, _, _, _, _, _, _, _, _ => none
  | k + 1, x2, x7, x56, x57, x58, x65, x66, x67, x170000, x170001, x170002, x170003, x170004, x170005, x170006, x170007, x170008, x171000, x171001, x171002, x171003, x171004, x171005, x171006, x171007, x171008, x174000, x174001 => if x67 < x66 then (if 0 ≤ x67 then (if x67 < (x65.length : Int) then (if x2 = true then (if x7 = x67 then (conf_once.l1 k x2 x7 x56 x57 x58 x65 x66 (wrap64 (x67 + 1)) x170000 x170001 x170002 x170003 x170004 x170005 x170006 x170007 x170008 x171000 x171001 x171002 x171003 x171004 x171005 x171006 x171007 x171008 x174000 x174001) else ((conf_has.f x174000 x174001 ((rd_T62 x65 x67).f0)).bind fun t176 => (if t176 = true then (some false) else ((conf_has.f ((rd_T62 x65 x67).f0) ((rd_T62 x65 x67).f1) x174000).bind fun t177 => (if t177 = true then (some false) else (conf_once.l1 k x2 x7 x56 x57 x58 x65 x66 (wrap64 (x67 + 1)) x170000 x170001 x170002 x170003 x170004 x170005 x170006 x170007 x170008 x171000 x171001 x171002 x171003 x171004 x171005 x171006 x171007 x171008 x174000 x174001)))))) else (conf_once.l1 k x2 x7 x56 x57 x58 x65 x66 (wrap64 (x67 + 1)) x170000 x170001 x170002 x170003 x170004 x170005 x170006 x170007 x170008 x171000 x171001 x171002 x171003 x171004 x171005 x171006 x171007 x171008 x174000 x174001)) else (none)) else (none)) else (conf_once.l0 k x2 x56 x57 (wrap64 (x58 + 1)) x170000 x170001 x170002 x170003 x170004 x170005 x170006 x170007 x170008 x171000 x171001 x171002 x171003 x171004 x171005 x171006 x171007 x171008)
def conf_once.l2 : Nat → Bool → List (S59) → Int → Int → Int → Int → Int → Int → List (S62) → List (S59) → Int → Int → Int → Int → Int → Int → Int → List (S62) → List (S59) → Int → Int → Int → Option (Bool)
  | 0, _, _, _, _, _, _, _, _, _, _, _, _, _, _, _, _, _, _, _, _, _, _ => none
  | k + 1, x2, x94, x95, x96, x170000, x170001, x170002, x170003, x170004, x170005, x170006, x170007, x170008, x171000, x171001, x171002, x171003, x171004, x171005, x171006, x171007, x171008 => if x96 < x95 then (if 0 ≤ x96 then (if x96 < (x94.length : Int) then (conf_once.l3 k x2 x96 x94 x95 x96 x171005 (x171005.length : Int) 0 x170000 x170001 x170002 x170003 x170004 x170005 x170006 x170007 x170008 x171000 x171001 x171002 x171003 x171004 x171005 x171006 x171007 x171008 ((rd_T59 x94 x96).f0) ((rd_T59 x94 x96).f1)) else (none)) else (none)) else (some true)
def conf_once.l3 : Nat → Bool → Int → List (S59) → Int → Int → List (S59) → Int → Int → Int → Int → Int → Int → List (S62) → List (S59) → Int → Int → Int → Int → Int → Int → Int → List (S62) → List (S59) → Int → Int → Int → ByteArray → Int → Option (Bool)
  | 0, _, _, _, _, _, _, _, _, _, _, _, _, _, _, _, _, _, _, _, _, _, _, _, _, _, _, _, _ => none
  | k + 1, x2, x11, x94, x95, x96, x103, x104, x105, x170000, x170001, x170002, x170003, x170004, x170005, x170006, x170007, x170008, x171000, x171001, x171002, x171003, x171004, x171005, x171006, x171007, x171008, x180000, x180001 => if x105 < x104 then (if 0 ≤ x105 then (if x105 < (x103.length : Int) then (if x2 = true then (if x11 = x105 then (conf_once.l3 k x2 x11 x94 x95 x96 x103 x104 (wrap64 (x105 + 1)) x170000 x170001 x170002 x170003 x170004 x170005 x170006 x170007 x170008 x171000 x171001 x171002 x171003 x171004 x171005 x171006 x171007 x171008 x180000 x180001) else (if x180001 = ((rd_T59 x103 x105).f1) then (some false) else (if x170000 = x171000 then (if x180000.toList = ((rd_T59 x103 x105).f0).toList then (some false) else (conf_once.l3 k x2 x11 x94 x95 x96 x103 x104 (wrap64 (x105 + 1)) x170000 x170001 x170002 x170003 x170004 x170005 x170006 x170007 x170008 x171000 x171001 x171002 x171003 x171004 x171005 x171006 x171007 x171008 x180000 x180001)) else (conf_once.l3 k x2 x11 x94 x95 x96 x103 x104 (wrap64 (x105 + 1)) x170000 x170001 x170002 x170003 x170004 x170005 x170006 x170007 x170008 x171000 x171001 x171002 x171003 x171004 x171005 x171006 x171007 x171008 x180000 x180001)))) else (if x180001 = ((rd_T59 x103 x105).f1) then (some false) else (if x170000 = x171000 then (if x180000.toList = ((rd_T59 x103 x105).f0).toList then (some false) else (conf_once.l3 k x2 x11 x94 x95 x96 x103 x104 (wrap64 (x105 + 1)) x170000 x170001 x170002 x170003 x170004 x170005 x170006 x170007 x170008 x171000 x171001 x171002 x171003 x171004 x171005 x171006 x171007 x171008 x180000 x180001)) else (conf_once.l3 k x2 x11 x94 x95 x96 x103 x104 (wrap64 (x105 + 1)) x170000 x170001 x170002 x170003 x170004 x170005 x170006 x170007 x170008 x171000 x171001 x171002 x171003 x171004 x171005 x171006 x171007 x171008 x180000 x180001)))) else (none)) else (none)) else (conf_once.l2 k x2 x94 x95 (wrap64 (x96 + 1)) x170000 x170001 x170002 x170003 x170004 x170005 x170006 x170007 x170008 x171000 x171001 x171002 x171003 x171004 x171005 x171006 x171007 x171008)
end
def conf_once.f (k : Nat) (a0_0 : Int) (a0_1 : Int) (a0_2 : Int) (a0_3 : Int) (l0_4 : List (S62)) (l0_5 : List (S59)) (a0_6 : Int) (a0_7 : Int) (a0_8 : Int) (a1_0 : Int) (a1_1 : Int) (a1_2 : Int) (a1_3 : Int) (l1_4 : List (S62)) (l1_5 : List (S59)) (a1_6 : Int) (a1_7 : Int) (a1_8 : Int) (a2 : Bool) : Option (Bool) := if a2 = true then (conf_once.j0 k a2 false a0_0 a0_1 a0_2 a0_3 l0_4 l0_5 a0_6 a0_7 a0_8 a1_0 a1_1 a1_2 a1_3 l1_4 l1_5 a1_6 a1_7 a1_8) else ((addr_Meet.f a0_2 a0_3 a1_2 a1_3).bind fun t171 => (if t171 = true then (conf_once.j0 k a2 true a0_0 a0_1 a0_2 a0_3 l0_4 l0_5 a0_6 a0_7 a0_8 a1_0 a1_1 a1_2 a1_3 l1_4 l1_5 a1_6 a1_7 a1_8) else (if a0_0 = a1_0 then (conf_once.j0 k a2 false a0_0 a0_1 a0_2 a0_3 l0_4 l0_5 a0_6 a0_7 a0_8 a1_0 a1_1 a1_2 a1_3 l1_4 l1_5 a1_6 a1_7 a1_8) else (if a0_6 = a1_6 then (conf_once.j0 k a2 (decide (a0_6 > 0)) a0_0 a0_1 a0_2 a0_3 l0_4 l0_5 a0_6 a0_7 a0_8 a1_0 a1_1 a1_2 a1_3 l1_4 l1_5 a1_6 a1_7 a1_8) else (conf_once.j0 k a2 false a0_0 a0_1 a0_2 a0_3 l0_4 l0_5 a0_6 a0_7 a0_8 a1_0 a1_1 a1_2 a1_3 l1_4 l1_5 a1_6 a1_7 a1_8)))))
theorem conf_once.mono_l : ∀ k, (∀ y0 y1 y2 y3 y4 y5 y6 y7 y8 y9 y10 y11 y12 y13 y14 y15 y16 y17 y18 y19, LeO (conf_once.j0 k y0 y1 y2 y3 y4 y5 y6 y7 y8 y9 y10 y11 y12 y13 y14 y15 y16 y17 y18 y19) (conf_once.j0 (k + 1) y0 y1 y2 y3 y4 y5 y6 y7 y8 y9 y10 y11 y12 y13 y14 y15 y16 y17 y18 y19)) ∧ (∀ y0 y1 y2 y3 y4 y5 y6 y7 y8 y9 y10 y11 y12 y13 y14 y15 y16 y17 y18 y19 y20 y21, LeO (conf_once.l0 k y0 y1 y2 y3 y4 y5 y6 y7 y8 y9 y10 y11 y12 y13 y14 y15 y16 y17 y18 y19 y20 y21) (conf_once.l0 (k + 1) y0 y1 y2 y3 y4 y5 y6 y7 y8 y9 y10 y11 y12 y13 y14 y15 y16 y17 y18 y19 y20 y21)) ∧ (∀ y0 y1 y2 y3 y4 y5 y6 y7 y8 y9 y10 y11 y12 y13 y14 y15 y16 y17 y18 y19 y20 y21 y22 y23 y24 y25 y26 y27, LeO (conf_once.l1 k y0 y1 y2 y3 y4 y5 y6 y7 y8 y9 y10 y11 y12 y13 y14 y15 y16 y17 y18 y19 y20 y21 y22 y23 y24 y25 y26 y27) (conf_once.l1 (k + 1) y0 y1 y2 y3 y4 y5 y6 y7 y8 y9 y10 y11 y12 y13 y14 y15 y16 y17 y18 y19 y20 y21 y22 y23 y24 y25 y26 y27)) ∧ (∀ y0 y1 y2 y3 y4 y5 y6 y7 y8 y9 y10 y11 y12 y13 y14 y15 y16 y17 y18 y19 y20 y21, LeO (conf_once.l2 k y0 y1 y2 y3 y4 y5 y6 y7 y8 y9 y10 y11 y12 y13 y14 y15 y16 y17 y18 y19 y20 y21) (conf_once.l2 (k + 1) y0 y1 y2 y3 y4 y5 y6 y7 y8 y9 y10 y11 y12 y13 y14 y15 y16 y17 y18 y19 y20 y21)) ∧ (∀ y0 y1 y2 y3 y4 y5 y6 y7 y8 y9 y10 y11 y12 y13 y14 y15 y16 y17 y18 y19 y20 y21 y22 y23 y24 y25 y26 y27, LeO (conf_once.l3 k y0 y1 y2 y3 y4 y5 y6 y7 y8 y9 y10 y11 y12 y13 y14 y15 y16 y17 y18 y19 y20 y21 y22 y23 y24 y25 y26 y27) (conf_once.l3 (k + 1) y0 y1 y2 y3 y4 y5 y6 y7 y8 y9 y10 y11 y12 y13 y14 y15 y16 y17 y18 y19 y20 y21 y22 y23 y24 y25 y26 y27))
  | 0 => ⟨fun _ _ _ _ _ _ _ _ _ _ _ _ _ _ _ _ _ _ _ _ r h => by simp [conf_once.j0] at h, fun _ _ _ _ _ _ _ _ _ _ _ _ _ _ _ _ _ _ _ _ _ _ r h => by simp [conf_once.l0] at h, fun _ _ _ _ _ _ _ _ _ _ _ _ _ _ _ _ _ _ _ _ _ _ _ _ _ _ _ _ r h => by simp [conf_once.l1] at h, fun _ _ _ _ _ _ _ _ _ _ _ _ _ _ _ _ _ _ _ _ _ _ r h => by simp [conf_once.l2] at h, fun _ _ _ _ _ _ _ _ _ _ _ _ _ _ _ _ _ _ _ _ _ _ _ _ _ _ _ _ r h => by simp [conf_once.l3] at h⟩
  | k + 1 => by
    obtain ⟨ih0, ih1, ih2, ih3, ih4⟩ := conf_once.mono_l k
    refine ⟨?_, ?_, ?_, ?_, ?_⟩
    · intro y0 y1 y2 y3 y4 y5 y6 y7 y8 y9 y10 y11 y12 y13 y14 y15 y16 y17 y18 y19
      unfold conf_once.j0
      repeat' first
      | (with_reducible exact ih0 _ _ _ _ _ _ _ _ _ _ _ _ _ _ _ _ _ _ _ _)
      | (with_reducible exact ih1 _ _ _ _ _ _ _ _ _ _ _ _ _ _ _ _ _ _ _ _ _ _)
      | (with_reducible exact ih2 _ _ _ _ _ _ _ _ _ _ _ _ _ _ _ _ _ _ _ _ _ _ _ _ _ _ _ _)
      | (with_reducible exact ih3 _ _ _ _ _ _ _ _ _ _ _ _ _ _ _ _ _ _ _ _ _ _)
      | (with_reducible exact ih4 _ _ _ _ _ _ _ _ _ _ _ _ _ _ _ _ _ _ _ _ _ _ _ _ _ _ _ _)
      | (with_reducible exact LeO.refl _)
      | (with_reducible exact LeO.none _)
      | (with_reducible refine LeO.ite ?_ ?_)
      | (with_reducible refine LeO.bind ?_ (fun _ => ?_))
    · intro y0 y1 y2 y3 y4 y5 y6 y7 y8 y9 y10 y11 y12 y13 y14 y15 y16 y17 y18 y19 y20 y21
      unfold conf_once.l0
      repeat' first
      | (with_reducible exact ih0 _ _ _ _ _ _ _ _ _ _ _ _ _ _ _ _ _ _ _ _)
      | (with_reducible exact ih1 _ _ _ _ _ _ _ _ _ _ _ _ _ _ _ _ _ _ _ _ _ _)
      | (with_reducible exact ih2 _ _ _ _ _ _ _ _ _ _ _ _ _ _ _ _ _ _ _ _ _ _ _ _ _ _ _ _)
      | (with_reducible exact ih3 _ _ _ _ _ _ _ _ _ _ _ _ _ _ _ _ _ _ _ _ _ _)
      | (with_reducible exact ih4 _ _ _ _ _ _ _ _ _ _ _ _ _ _ _ _ _ _ _ _ _ _ _ _ _ _ _ _)
      | (with_reducible exact LeO.refl _)
      | (with_reducible exact LeO.none _)
      | (with_reducible refine LeO.ite ?_ ?_)
      | (with_reducible refine LeO.bind ?_ (fun _ => ?_))
    · intro y0 y1 y2 y3 y4 y5 y6 y7 y8 y9 y10 y11 y12 y13 y14 y15 y16 y17 y18 y19 y20 y21 y22 y23 y24 y25 y26 y27
      unfold conf_once.l1
      repeat' first
      | (with_reducible exact ih0 _ _ _ _ _ _ _ _ _ _ _ _ _ _ _ _ _ _ _ _)
      | (with_reducible exact ih1 _ _ _ _ _ _ _ _ _ _ _ _ _ _ _ _ _ _ _ _ _ _)
      | (with_reducible exact ih2 _ _ _ _ _ _ _ _ _ _ _ _ _ _ _ _ _ _ _ _ _ _ _ _ _ _ _ _)
      | (with_reducible exact ih3 _ _ _ _ _ _ _ _ _ _ _ _ _ _ _ _ _ _ _ _ _ _)
      | (with_reducible exact ih4 _ _ _ _ _ _ _ _ _ _ _ _ _ _ _ _ _ _ _ _ _ _ _ _ _ _ _ _)
      | (with_reducible exact LeO.refl _)
      | (with_reducible exact LeO.none _)
      | (with_reducible refine LeO.ite ?_ ?_)
      | (with_reducible refine LeO.bind ?_ (fun _ => ?_))
    · intro y0 y1 y2 y3 y4 y5 y6 y7 y8 y9 y10 y11 y12 y13 y14 y15 y16 y17 y18 y19 y20 y21
      unfold conf_once.l2
      repeat' first
      | (with_reducible exact ih0 _ _ _ _ _ _ _ _ _ _ _ _ _ _ _ _ _ _ _ _)
      | (with_reducible exact ih1 _ _ _ _ _ _ _ _ _ _ _ _ _ _ _ _ _ _ _ _ _ _)
      | (with_reducible exact ih2 _ _ _ _ _ _ _ _ _ _ _ _ _ _ _ _ _ _ _ _ _ _ _ _ _ _ _ _)
      | (with_reducible exact ih3 _ _ _ _ _ _ _ _ _ _ _ _ _ _ _ _ _ _ _ _ _ _)
      | (with_reducible exact ih4 _ _ _ _ _ _ _ _ _ _ _ _ _ _ _ _ _ _ _ _ _ _ _ _ _ _ _ _)
      | (with_reducible exact LeO.refl _)
      | (with_reducible exact LeO.none _)
      | (with_reducible refine LeO.ite ?_ ?_)
      | (with_reducible refine LeO.bind ?_ (fun _ => ?_))
    · intro y0 y1 y2 y3 y4 y5 y6 y7 y8 y9 y10 y11 y12 y13 y14 y15 y16 y17 y18 y19 y20 y21 y22 y23 y24 y25 y26 y27
      unfold conf_once.l3
      repeat' first
      | (with_reducible exact ih0 _ _ _ _ _ _ _ _ _ _ _ _ _ _ _ _ _ _ _ _)
      | (with_reducible exact ih1 _ _ _ _ _ _ _ _ _ _ _ _ _ _ _ _ _ _ _ _ _ _)
      | (with_reducible exact ih2 _ _ _ _ _ _ _ _ _ _ _ _ _ _ _ _ _ _ _ _ _ _ _ _ _ _ _ _)
      | (with_reducible exact ih3 _ _ _ _ _ _ _ _ _ _ _ _ _ _ _ _ _ _ _ _ _ _)
      | (with_reducible exact ih4 _ _ _ _ _ _ _ _ _ _ _ _ _ _ _ _ _ _ _ _ _ _ _ _ _ _ _ _)
      | (with_reducible exact LeO.refl _)
      | (with_reducible exact LeO.none _)
      | (with_reducible refine LeO.ite ?_ ?_)
      | (with_reducible refine LeO.bind ?_ (fun _ => ?_))
theorem conf_once.mono : ∀ a0 a1 a2 a3 a4 a5 a6 a7 a8 a9 a10 a11 a12 a13 a14 a15 a16 a17 a18 k, LeO (conf_once.f k a0 a1 a2 a3 a4 a5 a6 a7 a8 a9 a10 a11 a12 a13 a14 a15 a16 a17 a18) (conf_once.f (k + 1) a0 a1 a2 a3 a4 a5 a6 a7 a8 a9 a10 a11 a12 a13 a14 a15 a16 a17 a18) := by
 intro a0 a1 a2 a3 a4 a5 a6 a7 a8 a9 a10 a11 a12 a13 a14 a15 a16 a17 a18 k
 obtain ⟨ih0, ih1, ih2, ih3, ih4⟩ := conf_once.mono_l k
 unfold conf_once.f
 repeat' first
  | (with_reducible exact ih0 _ _ _ _ _ _ _ _ _ _ _ _ _ _ _ _ _ _ _ _)
  | (with_reducible exact ih1 _ _ _ _ _ _ _ _ _ _ _ _ _ _ _ _ _ _ _ _ _ _)
  | (with_reducible exact ih2 _ _ _ _ _ _ _ _ _ _ _ _ _ _ _ _ _ _ _ _ _ _ _ _ _ _ _ _)
  | (with_reducible exact ih3 _ _ _ _ _ _ _ _ _ _ _ _ _ _ _ _ _ _ _ _ _ _)
  | (with_reducible exact ih4 _ _ _ _ _ _ _ _ _ _ _ _ _ _ _ _ _ _ _ _ _ _ _ _ _ _ _ _)
  | (with_reducible exact LeO.refl _)
  | (with_reducible exact LeO.none _)
  | (with_reducible refine LeO.ite ?_ ?_)
  | (with_reducible refine LeO.bind ?_ (fun _ => ?_))
set_option maxHeartbeats 8000000 in
set_option maxRecDepth 100000 in
theorem conf_once.calls (k : Nat) (a0_0 : Int) (a0_1 : Int) (a0_2 : Int) (a0_3 : Int) (A0_4 : Option Addr) (c0_4 : Nat) (l0_4 : List (S62)) (A0_5 : Option Addr) (c0_5 : Nat) (l0_5 : List (S59)) (a0_6 : Int) (a0_7 : Int) (a0_8 : Int) (a1_0 : Int) (a1_1 : Int) (a1_2 : Int) (a1_3 : Int) (A1_4 : Option Addr) (c1_4 : Nat) (l1_4 : List (S62)) (A1_5 : Option Addr) (c1_5 : Nat) (l1_5 : List (S59)) (a1_6 : Int) (a1_7 : Int) (a1_8 : Int) (a2 : Bool) (r : Bool) (w : World) (hr0_4 : Kd.C k62 w A0_4 l0_4.length l0_4) (hc0_4 : l0_4.length ≤ c0_4) (hr0_5 : Kd.C k59 w A0_5 l0_5.length l0_5) (hc0_5 : l0_5.length ≤ c0_5) (hr1_4 : Kd.C k62 w A1_4 l1_4.length l1_4) (hc1_4 : l1_4.length ≤ c1_4) (hr1_5 : Kd.C k59 w A1_5 l1_5.length l1_5) (hc1_5 : l1_5.length ≤ c1_5) (h : conf_once.f k a0_0 a0_1 a0_2 a0_3 l0_4 l0_5 a0_6 a0_7 a0_8 a1_0 a1_1 a1_2 a1_3 l1_4 l1_5 a1_6 a1_7 a1_8 a2 = some r) :
    Calls Try.prog 69 #[.agg #[.int .i64 a0_0, .int .i64 a0_1, .int .i64 a0_2, .int .i64 a0_3, .slice A0_4 l0_4.length c0_4, .slice A0_5 l0_5.length c0_5, .int .i64 a0_6, .int .i64 a0_7, .int .i64 a0_8], .agg #[.int .i64 a1_0, .int .i64 a1_1, .int .i64 a1_2, .int .i64 a1_3, .slice A1_4 l1_4.length c1_4, .slice A1_5 l1_5.length c1_5, .int .i64 a1_6, .int .i64 a1_7, .int .i64 a1_8], .bool a2] w fun e w' => e = .returned (.bool r) ∧ Below w.heap.size w w' := by
 have hu66 := Try.underlying66
 have hu62 := Try.underlying62
 have hu59 := Try.underlying59
 have HR0_4 := Aside0.mk hr0_4
 have HC0_4 := Aside0.mk hc0_4
 clear hr0_4 hc0_4
 have HR0_5 := Aside0.mk hr0_5
 have HC0_5 := Aside0.mk hc0_5
 clear hr0_5 hc0_5
 have HR1_4 := Aside0.mk hr1_4
 have HC1_4 := Aside0.mk hc1_4
 clear hr1_4 hc1_4
 have HR1_5 := Aside0.mk hr1_5
 have HC1_5 := Aside0.mk hc1_5
 clear hr1_5 hc1_5
 have HB := Aside0.mk (Below.refl w.heap.size w)
 have H : (if a2 = true then (conf_once.j0 k a2 false a0_0 a0_1 a0_2 a0_3 l0_4 l0_5 a0_6 a0_7 a0_8 a1_0 a1_1 a1_2 a1_3 l1_4 l1_5 a1_6 a1_7 a1_8) else ((addr_Meet.f a0_2 a0_3 a1_2 a1_3).bind fun t171 => (if t171 = true then (conf_once.j0 k a2 true a0_0 a0_1 a0_2 a0_3 l0_4 l0_5 a0_6 a0_7 a0_8 a1_0 a1_1 a1_2 a1_3 l1_4 l1_5 a1_6 a1_7 a1_8) else (if a0_0 = a1_0 then (conf_once.j0 k a2 false a0_0 a0_1 a0_2 a0_3 l0_4 l0_5 a0_6 a0_7 a0_8 a1_0 a1_1 a1_2 a1_3 l1_4 l1_5 a1_6 a1_7 a1_8) else (if a0_6 = a1_6 then (conf_once.j0 k a2 (decide (a0_6 > 0)) a0_0 a0_1 a0_2 a0_3 l0_4 l0_5 a0_6 a0_7 a0_8 a1_0 a1_1 a1_2 a1_3 l1_4 l1_5 a1_6 a1_7 a1_8) else (conf_once.j0 k a2 false a0_0 a0_1 a0_2 a0_3 l0_4 l0_5 a0_6 a0_7 a0_8 a1_0 a1_1 a1_2 a1_3 l1_4 l1_5 a1_6 a1_7 a1_8)))))) = some r := h
 clear h
 have HC4 := Aside0.mk H
 clear H
 go_enter Try.func69, Try.ntmps69
 go_upto_region 1 with (first | ((with_reducible refine gate_dst (N := 3) rfl ?_); refine box_event rfl (N := 3) rfl (cs := #[.int .i64 a0_0, .int .i64 a0_1, .int .i64 a0_2, .int .i64 a0_3, .slice A0_4 l0_4.length c0_4, .slice A0_5 l0_5.length c0_5, .int .i64 a0_6, .int .i64 a0_7, .int .i64 a0_8]) (t := 66) sqs ?_; intro gb169 hg w5 hbox hb; have BK169 := sqM (hbox); have GW169 := sqM (sqZ hg (sqB HB.out)); have GE169 := sqM (sqZ hg (sqB HB.out)); replace HB := sqM (below_step (sqB HB.out) hb); clear hb hbox hg) | ((with_reducible refine gate_dst (N := 4) rfl ?_); refine box_event rfl (N := 4) rfl (cs := #[.int .i64 a1_0, .int .i64 a1_1, .int .i64 a1_2, .int .i64 a1_3, .slice A1_4 l1_4.length c1_4, .slice A1_5 l1_5.length c1_5, .int .i64 a1_6, .int .i64 a1_7, .int .i64 a1_8]) (t := 66) sqs ?_; intro gb170 hg w6 hbox hb; have BK170 := sqM (hbox); have GW170 := sqM (sqZ hg (sqB1 HB.out GE169.out)); have GE170 := sqM (sqZ hg (sqB1 HB.out GE169.out)); have NB169_170 := sqM (sqL hg (sqK BK169.out)); have NB170_169 := sqM (sqG hg (sqK BK169.out)); replace BK169 := sqM (blk_below (sqK BK169.out) hb); replace HB := sqM (below_step (sqB1 HB.out GE169.out) hb); clear hb hbox hg))
 (try simp only [Act.put, List.setIfInBounds_toArray, List.set_cons_zero, List.set_cons_succ])
 go_cut [53] (fun v53 wc => ∃ (kq : Nat) (x53_3 : Bool), v53 = .bool x53_3 ∧ Aside0 (conf_once.j0 kq a2 x53_3 a0_0 a0_1 a0_2 a0_3 l0_4 l0_5 a0_6 a0_7 a0_8 a1_0 a1_1 a1_2 a1_3 l1_4 l1_5 a1_6 a1_7 a1_8 = some r) ∧ Aside0 (kq ≤ k) ∧ Aside0 (wc.heap[gb169]? = some (.cells #[.int .i64 a0_0, .int .i64 a0_1, .int .i64 a0_2, .int .i64 a0_3, (.slice A0_4 l0_4.length c0_4), (.slice A0_5 l0_5.length c0_5), .int .i64 a0_6, .int .i64 a0_7, .int .i64 a0_8] 66 (0, 0))) ∧ Aside0 (wc.heap[gb170]? = some (.cells #[.int .i64 a1_0, .int .i64 a1_1, .int .i64 a1_2, .int .i64 a1_3, (.slice A1_4 l1_4.length c1_4), (.slice A1_5 l1_5.length c1_5), .int .i64 a1_6, .int .i64 a1_7, .int .i64 a1_8] 66 (0, 0))) ∧ Aside0 (Below w.heap.size w wc))
 case first =>
  have H := HC4.out
  clear HC4
  by_cases c7 : a2 = true
  · subst c7
    have H1 : (conf_once.j0 k true false a0_0 a0_1 a0_2 a0_3 l0_4 l0_5 a0_6 a0_7 a0_8 a1_0 a1_1 a1_2 a1_3 l1_4 l1_5 a1_6 a1_7 a1_8) = some r := by rw [if_pos rfl] at H; exact H
    clear H
    have H := H1
    clear H1
    have H' := Aside0.mk H
    clear H
    go_wp2
    go_meet
    case rel => exact ⟨_, (false), sqI, H', ⟨by first | omega | exact Nat.le_refl _⟩, ⟨sqK BK169.out⟩, ⟨sqK BK170.out⟩, ⟨sqB2 HB.out GE169.out GE170.out⟩⟩
  replace c7 := Bool.eq_false_iff.mpr c7
  subst c7
  have H1 : ((addr_Meet.f a0_2 a0_3 a1_2 a1_3).bind fun t171 => (if t171 = true then (conf_once.j0 k false true a0_0 a0_1 a0_2 a0_3 l0_4 l0_5 a0_6 a0_7 a0_8 a1_0 a1_1 a1_2 a1_3 l1_4 l1_5 a1_6 a1_7 a1_8) else (if a0_0 = a1_0 then (conf_once.j0 k false false a0_0 a0_1 a0_2 a0_3 l0_4 l0_5 a0_6 a0_7 a0_8 a1_0 a1_1 a1_2 a1_3 l1_4 l1_5 a1_6 a1_7 a1_8) else (if a0_6 = a1_6 then (conf_once.j0 k false (decide (a0_6 > 0)) a0_0 a0_1 a0_2 a0_3 l0_4 l0_5 a0_6 a0_7 a0_8 a1_0 a1_1 a1_2 a1_3 l1_4 l1_5 a1_6 a1_7 a1_8) else (conf_once.j0 k false false a0_0 a0_1 a0_2 a0_3 l0_4 l0_5 a0_6 a0_7 a0_8 a1_0 a1_1 a1_2 a1_3 l1_4 l1_5 a1_6 a1_7 a1_8))))) = some r := by rw [if_neg (show ¬ (false = true) by decide)] at H; exact H
  clear H
  have H := H1
  clear H1
  replace H := Option.bind_eq_some_iff.mp H
  obtain ⟨t171, A80, H⟩ := H
  replace H : (if t171 = true then (conf_once.j0 k false true a0_0 a0_1 a0_2 a0_3 l0_4 l0_5 a0_6 a0_7 a0_8 a1_0 a1_1 a1_2 a1_3 l1_4 l1_5 a1_6 a1_7 a1_8) else (if a0_0 = a1_0 then (conf_once.j0 k false false a0_0 a0_1 a0_2 a0_3 l0_4 l0_5 a0_6 a0_7 a0_8 a1_0 a1_1 a1_2 a1_3 l1_4 l1_5 a1_6 a1_7 a1_8) else (if a0_6 = a1_6 then (conf_once.j0 k false (decide (a0_6 > 0)) a0_0 a0_1 a0_2 a0_3 l0_4 l0_5 a0_6 a0_7 a0_8 a1_0 a1_1 a1_2 a1_3 l1_4 l1_5 a1_6 a1_7 a1_8) else (conf_once.j0 k false false a0_0 a0_1 a0_2 a0_3 l0_4 l0_5 a0_6 a0_7 a0_8 a1_0 a1_1 a1_2 a1_3 l1_4 l1_5 a1_6 a1_7 a1_8)))) = some r := H
  have A8 := Aside0.mk A80
  clear A80
  by_cases c9 : t171 = true
  · subst c9
    have H1 : (conf_once.j0 k false true a0_0 a0_1 a0_2 a0_3 l0_4 l0_5 a0_6 a0_7 a0_8 a1_0 a1_1 a1_2 a1_3 l1_4 l1_5 a1_6 a1_7 a1_8) = some r := by rw [if_pos rfl] at H; exact H
    clear H
    have H := H1
    clear H1
    have H' := Aside0.mk H
    clear H
    have hnb10 := NB169_170.out
    have hnc10 := NB170_169.out
    obtain ⟨hcz11_0, hcz11_1, hcz11_2, hcz11_3, hcz11_4, hcz11_5, hcz11_6, hcz11_7, hcz11_8, hfz11_0, hfz11_1, hfz11_2, hfz11_3, hfz11_4, hfz11_5, hfz11_6, hfz11_7, hfz11_8⟩ := sqF9 BK169.out
    obtain ⟨hcz12_0, hcz12_1, hcz12_2, hcz12_3, hcz12_4, hcz12_5, hcz12_6, hcz12_7, hcz12_8, hfz12_0, hfz12_1, hfz12_2, hfz12_3, hfz12_4, hfz12_5, hfz12_6, hfz12_7, hfz12_8⟩ := sqF9 BK170.out
    go_wp2_with (first | (go_at_call 86; (with_reducible refine (addr_Meet.calls _ _ _ _ _ _ A8.out).mono ?_); rintro e w' ⟨rfl, ⟨nd, rfl⟩⟩))
    go_meet
    case rel => exact ⟨_, (true), sqI, H', ⟨by first | omega | exact Nat.le_refl _⟩, ⟨sqK BK169.out⟩, ⟨sqK BK170.out⟩, ⟨sqB2 HB.out GE169.out GE170.out⟩⟩
  replace c9 := Bool.eq_false_iff.mpr c9
  subst c9
  have H1 : (if a0_0 = a1_0 then (conf_once.j0 k false false a0_0 a0_1 a0_2 a0_3 l0_4 l0_5 a0_6 a0_7 a0_8 a1_0 a1_1 a1_2 a1_3 l1_4 l1_5 a1_6 a1_7 a1_8) else (if a0_6 = a1_6 then (conf_once.j0 k false (decide (a0_6 > 0)) a0_0 a0_1 a0_2 a0_3 l0_4 l0_5 a0_6 a0_7 a0_8 a1_0 a1_1 a1_2 a1_3 l1_4 l1_5 a1_6 a1_7 a1_8) else (conf_once.j0 k false false a0_0 a0_1 a0_2 a0_3 l0_4 l0_5 a0_6 a0_7 a0_8 a1_0 a1_1 a1_2 a1_3 l1_4 l1_5 a1_6 a1_7 a1_8))) = some r := by rw [if_neg (show ¬ (false = true) by decide)] at H; exact H
  clear H
  have H := H1
  clear H1
  by_cases c13 : a0_0 = a1_0
  · rw [if_pos c13] at H
    have c13b0 : (a0_0 == a1_0) = true := beq_iff_eq.mpr c13
    have c13b1 : (a0_0 != a1_0) = false := bne_eq_false_iff_eq.mpr c13
    clear c13
    (first | rw [c13b0] | (simp only [i64_w, i32_w]; rw [c13b0]) | skip)
    have H' := Aside0.mk H
    clear H
    have hnb14 := NB169_170.out
    have hnc14 := NB170_169.out
    obtain ⟨hcz15_0, hcz15_1, hcz15_2, hcz15_3, hcz15_4, hcz15_5, hcz15_6, hcz15_7, hcz15_8, hfz15_0, hfz15_1, hfz15_2, hfz15_3, hfz15_4, hfz15_5, hfz15_6, hfz15_7, hfz15_8⟩ := sqF9 BK169.out
    obtain ⟨hcz16_0, hcz16_1, hcz16_2, hcz16_3, hcz16_4, hcz16_5, hcz16_6, hcz16_7, hcz16_8, hfz16_0, hfz16_1, hfz16_2, hfz16_3, hfz16_4, hfz16_5, hfz16_6, hfz16_7, hfz16_8⟩ := sqF9 BK170.out
    go_wp2_with (first | (go_at_call 86; (with_reducible refine (addr_Meet.calls _ _ _ _ _ _ A8.out).mono ?_); rintro e w' ⟨rfl, ⟨nd, rfl⟩⟩))
    go_meet
    case rel => exact ⟨_, (false), sqI, H', ⟨by first | omega | exact Nat.le_refl _⟩, ⟨sqK BK169.out⟩, ⟨sqK BK170.out⟩, ⟨sqB2 HB.out GE169.out GE170.out⟩⟩
  rw [if_neg c13] at H
  have c13b0 : (a0_0 == a1_0) = false := beq_eq_false_iff_ne.mpr c13
  have c13b1 : (a0_0 != a1_0) = true := bne_iff_ne.mpr c13
  (first | rw [c13b0] | (simp only [i64_w, i32_w]; rw [c13b0]) | skip)
  by_cases c17 : a0_6 = a1_6
  rotate_left
  · rw [if_neg c17] at H
    have c17b0 : (a0_6 == a1_6) = false := beq_eq_false_iff_ne.mpr c17
    have c17b1 : (a0_6 != a1_6) = true := bne_iff_ne.mpr c17
    have H' := Aside0.mk H
    clear H
    have hnb21 := NB169_170.out
    have hnc21 := NB170_169.out
    obtain ⟨hcz22_0, hcz22_1, hcz22_2, hcz22_3, hcz22_4, hcz22_5, hcz22_6, hcz22_7, hcz22_8, hfz22_0, hfz22_1, hfz22_2, hfz22_3, hfz22_4, hfz22_5, hfz22_6, hfz22_7, hfz22_8⟩ := sqF9 BK169.out
    obtain ⟨hcz23_0, hcz23_1, hcz23_2, hcz23_3, hcz23_4, hcz23_5, hcz23_6, hcz23_7, hcz23_8, hfz23_0, hfz23_1, hfz23_2, hfz23_3, hfz23_4, hfz23_5, hfz23_6, hfz23_7, hfz23_8⟩ := sqF9 BK170.out
    go_wp2_with (first | (go_at_call 86; (with_reducible refine (addr_Meet.calls _ _ _ _ _ _ A8.out).mono ?_); rintro e w' ⟨rfl, ⟨nd, rfl⟩⟩))
    go_meet
    case rel => exact ⟨_, (false), sqI, H', ⟨by first | omega | exact Nat.le_refl _⟩, ⟨sqK BK169.out⟩, ⟨sqK BK170.out⟩, ⟨sqB2 HB.out GE169.out GE170.out⟩⟩
  rw [if_pos c17] at H
  have c17b0 : (a0_6 == a1_6) = true := beq_iff_eq.mpr c17
  have c17b1 : (a0_6 != a1_6) = false := bne_eq_false_iff_eq.mpr c17
  clear c17
  have H' := Aside0.mk H
  clear H
  have hnb18 := NB169_170.out
  have hnc18 := NB170_169.out
  obtain ⟨hcz19_0, hcz19_1, hcz19_2, hcz19_3, hcz19_4, hcz19_5, hcz19_6, hcz19_7, hcz19_8, hfz19_0, hfz19_1, hfz19_2, hfz19_3, hfz19_4, hfz19_5, hfz19_6, hfz19_7, hfz19_8⟩ := sqF9 BK169.out
  obtain ⟨hcz20_0, hcz20_1, hcz20_2, hcz20_3, hcz20_4, hcz20_5, hcz20_6, hcz20_7, hcz20_8, hfz20_0, hfz20_1, hfz20_2, hfz20_3, hfz20_4, hfz20_5, hfz20_6, hfz20_7, hfz20_8⟩ := sqF9 BK170.out
  go_wp2_with (first | (go_at_call 86; (with_reducible refine (addr_Meet.calls _ _ _ _ _ _ A8.out).mono ?_); rintro e w' ⟨rfl, ⟨nd, rfl⟩⟩))
  go_meet
  case rel => exact ⟨_, (decide (a0_6 > 0)), sqI, H', ⟨by first | omega | exact Nat.le_refl _⟩, ⟨sqK BK169.out⟩, ⟨sqK BK170.out⟩, ⟨sqB2 HB.out GE169.out GE170.out⟩⟩
 clear HC4
 try clear c1
 try clear c2
 try clear p2
 try clear c6
 try clear c7
 try clear c9
 try clear c10
 try clear c13
 try clear c13b0
 try clear c13b1
 try clear c14
 try clear c17
 try clear c17b0
 try clear c17b1
 try clear c18
 try clear c21
 try clear hcz11_0 hcz11_1 hcz11_2 hcz11_3 hcz11_4 hcz11_5 hcz11_6 hcz11_7 hcz11_8
 try clear hcz12_0 hcz12_1 hcz12_2 hcz12_3 hcz12_4 hcz12_5 hcz12_6 hcz12_7 hcz12_8
 try clear hcz15_0 hcz15_1 hcz15_2 hcz15_3 hcz15_4 hcz15_5 hcz15_6 hcz15_7 hcz15_8
 try clear hcz16_0 hcz16_1 hcz16_2 hcz16_3 hcz16_4 hcz16_5 hcz16_6 hcz16_7 hcz16_8
 try clear hcz19_0 hcz19_1 hcz19_2 hcz19_3 hcz19_4 hcz19_5 hcz19_6 hcz19_7 hcz19_8
 try clear hcz20_0 hcz20_1 hcz20_2 hcz20_3 hcz20_4 hcz20_5 hcz20_6 hcz20_7 hcz20_8
 try clear hcz22_0 hcz22_1 hcz22_2 hcz22_3 hcz22_4 hcz22_5 hcz22_6 hcz22_7 hcz22_8
 try clear hcz23_0 hcz23_1 hcz23_2 hcz23_3 hcz23_4 hcz23_5 hcz23_6 hcz23_7 hcz23_8
 try clear hfz11_0 hfz11_1 hfz11_2 hfz11_3 hfz11_4 hfz11_5 hfz11_6 hfz11_7 hfz11_8
 try clear hfz12_0 hfz12_1 hfz12_2 hfz12_3 hfz12_4 hfz12_5 hfz12_6 hfz12_7 hfz12_8
 try clear hfz15_0 hfz15_1 hfz15_2 hfz15_3 hfz15_4 hfz15_5 hfz15_6 hfz15_7 hfz15_8
 try clear hfz16_0 hfz16_1 hfz16_2 hfz16_3 hfz16_4 hfz16_5 hfz16_6 hfz16_7 hfz16_8
 try clear hfz19_0 hfz19_1 hfz19_2 hfz19_3 hfz19_4 hfz19_5 hfz19_6 hfz19_7 hfz19_8
 try clear hfz20_0 hfz20_1 hfz20_2 hfz20_3 hfz20_4 hfz20_5 hfz20_6 hfz20_7 hfz20_8
 try clear hfz22_0 hfz22_1 hfz22_2 hfz22_3 hfz22_4 hfz22_5 hfz22_6 hfz22_7 hfz22_8
 try clear hfz23_0 hfz23_1 hfz23_2 hfz23_3 hfz23_4 hfz23_5 hfz23_6 hfz23_7 hfz23_8
 obtain ⟨kq, x53_3, rfl, HA, HJ3, BK169, BK170, HB⟩ := hcut
 cases kq with
 | zero => exact absurd HA.out (by simp [conf_once.j0])
 | succ kj3 => ?_
 have H := HA.out
 clear HA
 simp only [conf_once.j0] at H
 by_cases c24 : x53_3 = true
 · subst c24
   have H1 : (some false) = some r := by rw [if_pos rfl] at H; exact H
   clear H
   have H := H1
   clear H1
   obtain rfl := Option.some.inj H
   go_wp2
   go_ret
   exact ⟨sqE, sqB2 HB.out GE169.out GE170.out⟩
 replace c24 := Bool.eq_false_iff.mpr c24
 subst c24
 have H1 : (conf_once.l0 kj3 a2 l0_4 (l0_4.length : Int) 0 a0_0 a0_1 a0_2 a0_3 l0_4 l0_5 a0_6 a0_7 a0_8 a1_0 a1_1 a1_2 a1_3 l1_4 l1_5 a1_6 a1_7 a1_8) = some r := by rw [if_neg (show ¬ (false = true) by decide)] at H; exact H
 clear H
 have H := H1
 clear H1
 have H' := Aside0.mk H
 clear H
 have hnb25 := NB169_170.out
 have hnc25 := NB170_169.out
 obtain ⟨hcz26_0, hcz26_1, hcz26_2, hcz26_3, hcz26_4, hcz26_5, hcz26_6, hcz26_7, hcz26_8, hfz26_0, hfz26_1, hfz26_2, hfz26_3, hfz26_4, hfz26_5, hfz26_6, hfz26_7, hfz26_8⟩ := sqF9 BK169.out
 go_wp2
 go_loopg [58] kj3 (fun kq v58 w' => ∃ (x58_2 : Int), v58 = .int .i64 x58_2 ∧ Aside0 (conf_once.l0 kq a2 l0_4 (l0_4.length : Int) x58_2 a0_0 a0_1 a0_2 a0_3 l0_4 l0_5 a0_6 a0_7 a0_8 a1_0 a1_1 a1_2 a1_3 l1_4 l1_5 a1_6 a1_7 a1_8 = some r) ∧ Aside0 (kq ≤ kj3) ∧ Aside0 (w'.heap[gb169]? = some (.cells #[.int .i64 a0_0, .int .i64 a0_1, .int .i64 a0_2, .int .i64 a0_3, (.slice A0_4 l0_4.length c0_4), (.slice A0_5 l0_5.length c0_5), .int .i64 a0_6, .int .i64 a0_7, .int .i64 a0_8] 66 (0, 0))) ∧ Aside0 (w'.heap[gb170]? = some (.cells #[.int .i64 a1_0, .int .i64 a1_1, .int .i64 a1_2, .int .i64 a1_3, (.slice A1_4 l1_4.length c1_4), (.slice A1_5 l1_5.length c1_5), .int .i64 a1_6, .int .i64 a1_7, .int .i64 a1_8] 66 (0, 0))) ∧ Aside0 (Below w.heap.size w w'))
 case atStart => exact ⟨(0), sqI, H', ⟨Nat.le_refl _⟩, ⟨sqK BK169.out⟩, ⟨sqK BK170.out⟩, ⟨sqB2 HB.out GE169.out GE170.out⟩⟩
 clear H'
 try clear c1
 try clear c2
 try clear p2
 try clear c6
 try clear c7
 try clear c9
 try clear c10
 try clear c13
 try clear c13b0
 try clear c13b1
 try clear c14
 try clear c17
 try clear c17b0
 try clear c17b1
 try clear c18
 try clear c21
 try clear c24
 try clear c25
 try clear hcz11_0 hcz11_1 hcz11_2 hcz11_3 hcz11_4 hcz11_5 hcz11_6 hcz11_7 hcz11_8
 try clear hcz12_0 hcz12_1 hcz12_2 hcz12_3 hcz12_4 hcz12_5 hcz12_6 hcz12_7 hcz12_8
 try clear hcz15_0 hcz15_1 hcz15_2 hcz15_3 hcz15_4 hcz15_5 hcz15_6 hcz15_7 hcz15_8
 try clear hcz16_0 hcz16_1 hcz16_2 hcz16_3 hcz16_4 hcz16_5 hcz16_6 hcz16_7 hcz16_8
 try clear hcz19_0 hcz19_1 hcz19_2 hcz19_3 hcz19_4 hcz19_5 hcz19_6 hcz19_7 hcz19_8
 try clear hcz20_0 hcz20_1 hcz20_2 hcz20_3 hcz20_4 hcz20_5 hcz20_6 hcz20_7 hcz20_8
 try clear hcz22_0 hcz22_1 hcz22_2 hcz22_3 hcz22_4 hcz22_5 hcz22_6 hcz22_7 hcz22_8
 try clear hcz23_0 hcz23_1 hcz23_2 hcz23_3 hcz23_4 hcz23_5 hcz23_6 hcz23_7 hcz23_8
 try clear hcz26_0 hcz26_1 hcz26_2 hcz26_3 hcz26_4 hcz26_5 hcz26_6 hcz26_7 hcz26_8
 try clear hfz11_0 hfz11_1 hfz11_2 hfz11_3 hfz11_4 hfz11_5 hfz11_6 hfz11_7 hfz11_8
 try clear hfz12_0 hfz12_1 hfz12_2 hfz12_3 hfz12_4 hfz12_5 hfz12_6 hfz12_7 hfz12_8
 try clear hfz15_0 hfz15_1 hfz15_2 hfz15_3 hfz15_4 hfz15_5 hfz15_6 hfz15_7 hfz15_8
 try clear hfz16_0 hfz16_1 hfz16_2 hfz16_3 hfz16_4 hfz16_5 hfz16_6 hfz16_7 hfz16_8
 try clear hfz19_0 hfz19_1 hfz19_2 hfz19_3 hfz19_4 hfz19_5 hfz19_6 hfz19_7 hfz19_8
 try clear hfz20_0 hfz20_1 hfz20_2 hfz20_3 hfz20_4 hfz20_5 hfz20_6 hfz20_7 hfz20_8
 try clear hfz22_0 hfz22_1 hfz22_2 hfz22_3 hfz22_4 hfz22_5 hfz22_6 hfz22_7 hfz22_8
 try clear hfz23_0 hfz23_1 hfz23_2 hfz23_3 hfz23_4 hfz23_5 hfz23_6 hfz23_7 hfz23_8
 try clear hfz26_0 hfz26_1 hfz26_2 hfz26_3 hfz26_4 hfz26_5 hfz26_6 hfz26_7 hfz26_8
 try clear p2
 obtain ⟨x58_2, rfl, HA, HK2, BK169, BK170, HB⟩ := hrel
 cases gk with
 | zero => exact absurd HA.out (by simp [conf_once.l0])
 | succ k2 => ?_
 have H := HA.out
 clear HA
 simp only [conf_once.l0] at H
 by_cases c27 : x58_2 < (l0_4.length : Int)
 · rw [if_pos c27] at H
   have c27b0 : decide (x58_2 < (l0_4.length : Int)) = true := decide_eq_true c27
   clear c27
   by_cases c28 : 0 ≤ x58_2
   rotate_left
   · rw [if_neg c28] at H
     exact absurd H (by simp)
   rw [if_pos c28] at H
   have c28b0 : decide (0 ≤ x58_2) = true := decide_eq_true c28
   clear c28
   by_cases c29 : x58_2 < (l0_4.length : Int)
   rotate_left
   · rw [if_neg c29] at H
     exact absurd H (by simp)
   rw [if_pos c29] at H
   have c29b0 : decide (x58_2 < (l0_4.length : Int)) = true := decide_eq_true c29
   clear c29
   have H' := Aside0.mk H
   clear H
   have p172 : 0 ≤ (x58_2 : Int) := of_decide_eq_true sqH
   have q172 : x58_2 < (l0_4.length : Int) := of_decide_eq_true sqH
   obtain ⟨ad172, e172, hx172_0, hx172_1⟩ := at_T62 HR0_4.out x58_2 p172 q172
   cases e172
   replace hx172_0 := sqx HB.out hx172_0
   replace hx172_1 := sqx HB.out hx172_1
   replace p172 := eq_true p172
   replace q172 := eq_true q172
   go_wp2_with (first | ((with_reducible refine gate_dst (N := 8) rfl ?_); refine box_event rfl (N := 8) rfl (cs := #[.int .i64 0, .int .i64 0]) (t := 62) sqs ?_; intro gb173 hg w30 hbox hb; have BK173 := sqM (hbox); have GW173 := sqM (sqZ hg (sqB2 HB.out GE169.out GE170.out)); have GE173 := sqM (sqZ hg (sqB2 HB.out GE169.out GE170.out)); have NB169_173 := sqM (sqL hg (sqK BK169.out)); have NB173_169 := sqM (sqG hg (sqK BK169.out)); have NB170_173 := sqM (sqL hg (sqK BK170.out)); have NB173_170 := sqM (sqG hg (sqK BK170.out)); replace BK169 := sqM (blk_below (sqK BK169.out) hb); replace BK170 := sqM (blk_below (sqK BK170.out) hb); replace HB := sqM (below_step (sqB2 HB.out GE169.out GE170.out) hb); clear hb hbox hg; have hnb31 := NB173_169.out; have hnc31 := NB169_173.out; have hnb32 := NB173_170.out; have hnc32 := NB170_173.out; obtain ⟨hcz33_0, hcz33_1, hfz33_0, hfz33_1⟩ := sqF2 BK173.out; have hnb34 := NB170_169.out; have hnc34 := NB169_170.out; obtain ⟨hcz35_0, hcz35_1, hcz35_2, hcz35_3, hcz35_4, hcz35_5, hcz35_6, hcz35_7, hcz35_8, hfz35_0, hfz35_1, hfz35_2, hfz35_3, hfz35_4, hfz35_5, hfz35_6, hfz35_7, hfz35_8⟩ := sqF9 BK170.out))
   go_loopg [67] k2 (fun kq v67 w' => ∃ (x67_3 : Int), v67 = .int .i64 x67_3 ∧ Aside0 (conf_once.l1 kq a2 x58_2 l0_4 (l0_4.length : Int) x58_2 l1_4 (l1_4.length : Int) x67_3 a0_0 a0_1 a0_2 a0_3 l0_4 l0_5 a0_6 a0_7 a0_8 a1_0 a1_1 a1_2 a1_3 l1_4 l1_5 a1_6 a1_7 a1_8 ((rd_T62 l0_4 x58_2).f0) ((rd_T62 l0_4 x58_2).f1) = some r) ∧ Aside0 (kq ≤ k2) ∧ Aside0 (w'.heap[gb169]? = some (.cells #[.int .i64 a0_0, .int .i64 a0_1, .int .i64 a0_2, .int .i64 a0_3, (.slice (some ad172) l0_4.length c0_4), (.slice A0_5 l0_5.length c0_5), .int .i64 a0_6, .int .i64 a0_7, .int .i64 a0_8] 66 (0, 0))) ∧ Aside0 (w'.heap[gb170]? = some (.cells #[.int .i64 a1_0, .int .i64 a1_1, .int .i64 a1_2, .int .i64 a1_3, (.slice A1_4 l1_4.length c1_4), (.slice A1_5 l1_5.length c1_5), .int .i64 a1_6, .int .i64 a1_7, .int .i64 a1_8] 66 (0, 0))) ∧ Aside0 (w'.heap[gb173]? = some (.cells #[.int .i64 ((rd_T62 l0_4 x58_2).f0), .int .i64 ((rd_T62 l0_4 x58_2).f1)] 62 (0, 0))) ∧ Aside0 (Below w.heap.size w w'))
   case atStart => exact ⟨(0), sqI, H', ⟨Nat.le_refl _⟩, ⟨(sqK (sqX2 BK169.out NB169_173.out))⟩, ⟨(sqK (sqX2 BK170.out NB170_173.out))⟩, ⟨(sqK (sqP2 BK173.out))⟩, ⟨sqB3 HB.out GE169.out GE170.out GE173.out⟩⟩
   clear H'
   try clear c1
   try clear p1
   try clear q1
   try clear hx1
   try clear c2
   try clear p2
   try clear c3
   try clear c6
   try clear c7
   try clear c9
   try clear c10
   try clear c13
   try clear c13b0
   try clear c13b1
   try clear c14
   try clear c17
   try clear c17b0
   try clear c17b1
   try clear p17
   try clear q17
   try clear hx17
   try clear c18
   try clear c21
   try clear c24
   try clear c25
   try clear c27
   try clear c27b0
   try clear c28
   try clear c28b0
   try clear c29
   try clear c29b0
   try clear c31
   try clear c32
   try clear c34
   try clear hcz11_0 hcz11_1 hcz11_2 hcz11_3 hcz11_4 hcz11_5 hcz11_6 hcz11_7 hcz11_8
   try clear hcz12_0 hcz12_1 hcz12_2 hcz12_3 hcz12_4 hcz12_5 hcz12_6 hcz12_7 hcz12_8
   try clear hcz15_0 hcz15_1 hcz15_2 hcz15_3 hcz15_4 hcz15_5 hcz15_6 hcz15_7 hcz15_8
   try clear hcz16_0 hcz16_1 hcz16_2 hcz16_3 hcz16_4 hcz16_5 hcz16_6 hcz16_7 hcz16_8
   try clear hcz19_0 hcz19_1 hcz19_2 hcz19_3 hcz19_4 hcz19_5 hcz19_6 hcz19_7 hcz19_8
   try clear hcz20_0 hcz20_1 hcz20_2 hcz20_3 hcz20_4 hcz20_5 hcz20_6 hcz20_7 hcz20_8
   try clear hcz22_0 hcz22_1 hcz22_2 hcz22_3 hcz22_4 hcz22_5 hcz22_6 hcz22_7 hcz22_8
   try clear hcz23_0 hcz23_1 hcz23_2 hcz23_3 hcz23_4 hcz23_5 hcz23_6 hcz23_7 hcz23_8
   try clear hcz26_0 hcz26_1 hcz26_2 hcz26_3 hcz26_4 hcz26_5 hcz26_6 hcz26_7 hcz26_8
   try clear hcz33_0 hcz33_1
   try clear hcz35_0 hcz35_1 hcz35_2 hcz35_3 hcz35_4 hcz35_5 hcz35_6 hcz35_7 hcz35_8
   try clear hfz11_0 hfz11_1 hfz11_2 hfz11_3 hfz11_4 hfz11_5 hfz11_6 hfz11_7 hfz11_8
   try clear hfz12_0 hfz12_1 hfz12_2 hfz12_3 hfz12_4 hfz12_5 hfz12_6 hfz12_7 hfz12_8
   try clear hfz15_0 hfz15_1 hfz15_2 hfz15_3 hfz15_4 hfz15_5 hfz15_6 hfz15_7 hfz15_8
   try clear hfz16_0 hfz16_1 hfz16_2 hfz16_3 hfz16_4 hfz16_5 hfz16_6 hfz16_7 hfz16_8
   try clear hfz19_0 hfz19_1 hfz19_2 hfz19_3 hfz19_4 hfz19_5 hfz19_6 hfz19_7 hfz19_8
   try clear hfz20_0 hfz20_1 hfz20_2 hfz20_3 hfz20_4 hfz20_5 hfz20_6 hfz20_7 hfz20_8
   try clear hfz22_0 hfz22_1 hfz22_2 hfz22_3 hfz22_4 hfz22_5 hfz22_6 hfz22_7 hfz22_8
   try clear hfz23_0 hfz23_1 hfz23_2 hfz23_3 hfz23_4 hfz23_5 hfz23_6 hfz23_7 hfz23_8
   try clear hfz26_0 hfz26_1 hfz26_2 hfz26_3 hfz26_4 hfz26_5 hfz26_6 hfz26_7 hfz26_8
   try clear hfz33_0 hfz33_1
   try clear hfz35_0 hfz35_1 hfz35_2 hfz35_3 hfz35_4 hfz35_5 hfz35_6 hfz35_7 hfz35_8
   try clear hx172_0 hx172_1
   try clear p172
   try clear p2
   try clear q172
   obtain ⟨x67_3, rfl, HA, HK3, BK169, BK170, BK173, HB⟩ := hrel
   cases gk with
   | zero => exact absurd HA.out (by simp [conf_once.l1])
   | succ k3 => ?_
   have H := HA.out
   clear HA
   simp only [conf_once.l1] at H
   by_cases c36 : x67_3 < (l1_4.length : Int)
   rotate_left
   · rw [if_neg c36] at H
     have c36b0 : decide (x67_3 < (l1_4.length : Int)) = false := decide_eq_false c36
     clear c36
     have H' := Aside0.mk H
     clear H
     go_wp2
     go_roundg k3
     case measure => have := HJ3.out; have := HK2.out; have := HK3.out; omega
     case rel => exact ⟨(wrap64 (x58_2 + 1)), sqI, H', ⟨by have := HJ3.out; have := HK2.out; have := HK3.out; omega⟩, ⟨sqK BK169.out⟩, ⟨sqK BK170.out⟩, ⟨sqB3 HB.out GE169.out GE170.out GE173.out⟩⟩
   rw [if_pos c36] at H
   have c36b0 : decide (x67_3 < (l1_4.length : Int)) = true := decide_eq_true c36
   clear c36
   by_cases c37 : 0 ≤ x67_3
   rotate_left
   · rw [if_neg c37] at H
     exact absurd H (by simp)
   rw [if_pos c37] at H
   have c37b0 : decide (0 ≤ x67_3) = true := decide_eq_true c37
   clear c37
   by_cases c38 : x67_3 < (l1_4.length : Int)
   rotate_left
   · rw [if_neg c38] at H
     exact absurd H (by simp)
   rw [if_pos c38] at H
   have c38b0 : decide (x67_3 < (l1_4.length : Int)) = true := decide_eq_true c38
   clear c38
   by_cases c39 : a2 = true
   rotate_left
   · replace c39 := Bool.eq_false_iff.mpr c39
     subst c39
     have H1 : (conf_once.l1 k3 false x58_2 l0_4 (l0_4.length : Int) x58_2 l1_4 (l1_4.length : Int) (wrap64 (x67_3 + 1)) a0_0 a0_1 a0_2 a0_3 l0_4 l0_5 a0_6 a0_7 a0_8 a1_0 a1_1 a1_2 a1_3 l1_4 l1_5 a1_6 a1_7 a1_8 ((rd_T62 l0_4 x58_2).f0) ((rd_T62 l0_4 x58_2).f1)) = some r := by rw [if_neg (show ¬ (false = true) by decide)] at H; exact H
     clear H
     have H := H1
     clear H1
     have H' := Aside0.mk H
     clear H
     have p174 : 0 ≤ (x67_3 : Int) := of_decide_eq_true sqH
     have q174 : x67_3 < (l1_4.length : Int) := of_decide_eq_true sqH
     obtain ⟨ad174, e174, hx174_0, hx174_1⟩ := at_T62 HR1_4.out x67_3 p174 q174
     cases e174
     replace hx174_0 := sqx HB.out hx174_0
     replace hx174_1 := sqx HB.out hx174_1
     replace p174 := eq_true p174
     replace q174 := eq_true q174
     go_wp2_with (first | ((with_reducible refine gate_dst (N := 10) rfl ?_); refine box_event rfl (N := 10) rfl (cs := #[.int .i64 0, .int .i64 0]) (t := 62) sqs ?_; intro gb175 hg w83 hbox hb; have BK175 := sqM (hbox); have GW175 := sqM (sqZ hg (sqB3 HB.out GE169.out GE170.out GE173.out)); have GE175 := sqM (sqZ hg (sqB3 HB.out GE169.out GE170.out GE173.out)); have NB169_175 := sqM (sqL hg (sqK BK169.out)); have NB175_169 := sqM (sqG hg (sqK BK169.out)); have NB170_175 := sqM (sqL hg (sqK BK170.out)); have NB175_170 := sqM (sqG hg (sqK BK170.out)); have NB173_175 := sqM (sqL hg (sqK BK173.out)); have NB175_173 := sqM (sqG hg (sqK BK173.out)); replace BK169 := sqM (blk_below (sqK BK169.out) hb); replace BK170 := sqM (blk_below (sqK BK170.out) hb); replace BK173 := sqM (blk_below (sqK BK173.out) hb); replace HB := sqM (below_step (sqB3 HB.out GE169.out GE170.out GE173.out) hb); clear hb hbox hg; have hnb84 := NB175_169.out; have hnc84 := NB169_175.out; have hnb85 := NB175_170.out; have hnc85 := NB170_175.out; have hnb86 := NB175_173.out; have hnc86 := NB173_175.out; obtain ⟨hcz87_0, hcz87_1, hfz87_0, hfz87_1⟩ := sqF2 BK175.out))
     go_roundg k3
     case measure => have := HJ3.out; have := HK2.out; have := HK3.out; omega
     case rel => exact ⟨(wrap64 (x67_3 + 1)), sqI, H', ⟨by have := HJ3.out; have := HK2.out; have := HK3.out; omega⟩, ⟨(sqK (sqX2 BK169.out NB169_175.out))⟩, ⟨(sqK (sqX2 BK170.out NB170_175.out))⟩, ⟨(sqK (sqX2 BK173.out NB173_175.out))⟩, ⟨sqB4 HB.out GE169.out GE170.out GE173.out GE175.out⟩⟩
   subst c39
   have H1 : (if x58_2 = x67_3 then (conf_once.l1 k3 true x58_2 l0_4 (l0_4.length : Int) x58_2 l1_4 (l1_4.length : Int) (wrap64 (x67_3 + 1)) a0_0 a0_1 a0_2 a0_3 l0_4 l0_5 a0_6 a0_7 a0_8 a1_0 a1_1 a1_2 a1_3 l1_4 l1_5 a1_6 a1_7 a1_8 ((rd_T62 l0_4 x58_2).f0) ((rd_T62 l0_4 x58_2).f1)) else ((conf_has.f ((rd_T62 l0_4 x58_2).f0) ((rd_T62 l0_4 x58_2).f1) ((rd_T62 l1_4 x67_3).f0)).bind fun t176 => (if t176 = true then (some false) else ((conf_has.f ((rd_T62 l1_4 x67_3).f0) ((rd_T62 l1_4 x67_3).f1) ((rd_T62 l0_4 x58_2).f0)).bind fun t177 => (if t177 = true then (some false) else (conf_once.l1 k3 true x58_2 l0_4 (l0_4.length : Int) x58_2 l1_4 (l1_4.length : Int) (wrap64 (x67_3 + 1)) a0_0 a0_1 a0_2 a0_3 l0_4 l0_5 a0_6 a0_7 a0_8 a1_0 a1_1 a1_2 a1_3 l1_4 l1_5 a1_6 a1_7 a1_8 ((rd_T62 l0_4 x58_2).f0) ((rd_T62 l0_4 x58_2).f1))))))) = some r := by rw [if_pos rfl] at H; exact H
   clear H
   have H := H1
   clear H1
   by_cases c40 : x58_2 = x67_3
   · rw [if_pos c40] at H
     have c40b0 : (x58_2 == x67_3) = true := beq_iff_eq.mpr c40
     have c40b1 : (x58_2 != x67_3) = false := bne_eq_false_iff_eq.mpr c40
     clear c40
     have H' := Aside0.mk H
     clear H
     have p174 : 0 ≤ (x67_3 : Int) := of_decide_eq_true sqH
     have q174 : x67_3 < (l1_4.length : Int) := of_decide_eq_true sqH
     obtain ⟨ad174, e174, hx174_0, hx174_1⟩ := at_T62 HR1_4.out x67_3 p174 q174
     cases e174
     replace hx174_0 := sqx HB.out hx174_0
     replace hx174_1 := sqx HB.out hx174_1
     replace p174 := eq_true p174
     replace q174 := eq_true q174
     go_wp2_with (first | ((with_reducible refine gate_dst (N := 10) rfl ?_); refine box_event rfl (N := 10) rfl (cs := #[.int .i64 0, .int .i64 0]) (t := 62) sqs ?_; intro gb175 hg w41 hbox hb; have BK175 := sqM (hbox); have GW175 := sqM (sqZ hg (sqB3 HB.out GE169.out GE170.out GE173.out)); have GE175 := sqM (sqZ hg (sqB3 HB.out GE169.out GE170.out GE173.out)); have NB169_175 := sqM (sqL hg (sqK BK169.out)); have NB175_169 := sqM (sqG hg (sqK BK169.out)); have NB170_175 := sqM (sqL hg (sqK BK170.out)); have NB175_170 := sqM (sqG hg (sqK BK170.out)); have NB173_175 := sqM (sqL hg (sqK BK173.out)); have NB175_173 := sqM (sqG hg (sqK BK173.out)); replace BK169 := sqM (blk_below (sqK BK169.out) hb); replace BK170 := sqM (blk_below (sqK BK170.out) hb); replace BK173 := sqM (blk_below (sqK BK173.out) hb); replace HB := sqM (below_step (sqB3 HB.out GE169.out GE170.out GE173.out) hb); clear hb hbox hg; have hnb42 := NB175_169.out; have hnc42 := NB169_175.out; have hnb43 := NB175_170.out; have hnc43 := NB170_175.out; have hnb44 := NB175_173.out; have hnc44 := NB173_175.out; obtain ⟨hcz45_0, hcz45_1, hfz45_0, hfz45_1⟩ := sqF2 BK175.out))
     go_roundg k3
     case measure => have := HJ3.out; have := HK2.out; have := HK3.out; omega
     case rel => exact ⟨(wrap64 (x67_3 + 1)), sqI, H', ⟨by have := HJ3.out; have := HK2.out; have := HK3.out; omega⟩, ⟨(sqK (sqX2 BK169.out NB169_175.out))⟩, ⟨(sqK (sqX2 BK170.out NB170_175.out))⟩, ⟨(sqK (sqX2 BK173.out NB173_175.out))⟩, ⟨sqB4 HB.out GE169.out GE170.out GE173.out GE175.out⟩⟩
   rw [if_neg c40] at H
   have c40b0 : (x58_2 == x67_3) = false := beq_eq_false_iff_ne.mpr c40
   have c40b1 : (x58_2 != x67_3) = true := bne_iff_ne.mpr c40
   replace H := Option.bind_eq_some_iff.mp H
   obtain ⟨t176, A460, H⟩ := H
   replace H : (if t176 = true then (some false) else ((conf_has.f ((rd_T62 l1_4 x67_3).f0) ((rd_T62 l1_4 x67_3).f1) ((rd_T62 l0_4 x58_2).f0)).bind fun t177 => (if t177 = true then (some false) else (conf_once.l1 k3 true x58_2 l0_4 (l0_4.length : Int) x58_2 l1_4 (l1_4.length : Int) (wrap64 (x67_3 + 1)) a0_0 a0_1 a0_2 a0_3 l0_4 l0_5 a0_6 a0_7 a0_8 a1_0 a1_1 a1_2 a1_3 l1_4 l1_5 a1_6 a1_7 a1_8 ((rd_T62 l0_4 x58_2).f0) ((rd_T62 l0_4 x58_2).f1))))) = some r := H
   have A46 := Aside0.mk A460
   clear A460
   by_cases c47 : t176 = true
   · subst c47
     have H1 : (some false) = some r := by rw [if_pos rfl] at H; exact H
     clear H
     have H := H1
     clear H1
     obtain rfl := Option.some.inj H
     have p174 : 0 ≤ (x67_3 : Int) := of_decide_eq_true sqH
     have q174 : x67_3 < (l1_4.length : Int) := of_decide_eq_true sqH
     obtain ⟨ad174, e174, hx174_0, hx174_1⟩ := at_T62 HR1_4.out x67_3 p174 q174
     cases e174
     replace hx174_0 := sqx HB.out hx174_0
     replace hx174_1 := sqx HB.out hx174_1
     replace p174 := eq_true p174
     replace q174 := eq_true q174
     go_wp2_with (first | ((with_reducible refine gate_dst (N := 10) rfl ?_); refine box_event rfl (N := 10) rfl (cs := #[.int .i64 0, .int .i64 0]) (t := 62) sqs ?_; intro gb175 hg w48 hbox hb; have BK175 := sqM (hbox); have GW175 := sqM (sqZ hg (sqB3 HB.out GE169.out GE170.out GE173.out)); have GE175 := sqM (sqZ hg (sqB3 HB.out GE169.out GE170.out GE173.out)); have NB169_175 := sqM (sqL hg (sqK BK169.out)); have NB175_169 := sqM (sqG hg (sqK BK169.out)); have NB170_175 := sqM (sqL hg (sqK BK170.out)); have NB175_170 := sqM (sqG hg (sqK BK170.out)); have NB173_175 := sqM (sqL hg (sqK BK173.out)); have NB175_173 := sqM (sqG hg (sqK BK173.out)); replace BK169 := sqM (blk_below (sqK BK169.out) hb); replace BK170 := sqM (blk_below (sqK BK170.out) hb); replace BK173 := sqM (blk_below (sqK BK173.out) hb); replace HB := sqM (below_step (sqB3 HB.out GE169.out GE170.out GE173.out) hb); clear hb hbox hg; have hnb49 := NB175_169.out; have hnc49 := NB169_175.out; have hnb50 := NB175_170.out; have hnc50 := NB170_175.out; have hnb51 := NB175_173.out; have hnc51 := NB173_175.out; obtain ⟨hcz52_0, hcz52_1, hfz52_0, hfz52_1⟩ := sqF2 BK175.out; have hnb53 := NB173_169.out; have hnc53 := NB169_173.out; have hnb54 := NB173_170.out; have hnc54 := NB170_173.out; obtain ⟨hcz55_0, hcz55_1, hfz55_0, hfz55_1⟩ := sqF2 BK173.out) | (go_at_call 48; (with_reducible refine (conf_has.calls _ _ _ _ _ A46.out).mono ?_); rintro e w56 ⟨rfl, hb⟩; replace BK169 := sqM (blk_below (sqK (sqX2 BK169.out NB169_175.out)) hb); replace BK170 := sqM (blk_below (sqK (sqX2 BK170.out NB170_175.out)) hb); replace BK173 := sqM (blk_below (sqK (sqX2 BK173.out NB173_175.out)) hb); replace BK175 := sqM (blk_below (sqK (sqP2 BK175.out)) hb); replace HB := sqM (below_step (sqB4 HB.out GE169.out GE170.out GE173.out GE175.out) hb); (try clear hb); (try clear hb2); (try clear hk); (try clear hi)))
     go_ret
     exact ⟨sqE, sqB4 HB.out GE169.out GE170.out GE173.out GE175.out⟩
   replace c47 := Bool.eq_false_iff.mpr c47
   subst c47
   have H1 : ((conf_has.f ((rd_T62 l1_4 x67_3).f0) ((rd_T62 l1_4 x67_3).f1) ((rd_T62 l0_4 x58_2).f0)).bind fun t177 => (if t177 = true then (some false) else (conf_once.l1 k3 true x58_2 l0_4 (l0_4.length : Int) x58_2 l1_4 (l1_4.length : Int) (wrap64 (x67_3 + 1)) a0_0 a0_1 a0_2 a0_3 l0_4 l0_5 a0_6 a0_7 a0_8 a1_0 a1_1 a1_2 a1_3 l1_4 l1_5 a1_6 a1_7 a1_8 ((rd_T62 l0_4 x58_2).f0) ((rd_T62 l0_4 x58_2).f1)))) = some r := by rw [if_neg (show ¬ (false = true) by decide)] at H; exact H
   clear H
   have H := H1
   clear H1
   replace H := Option.bind_eq_some_iff.mp H
   obtain ⟨t177, A570, H⟩ := H
   replace H : (if t177 = true then (some false) else (conf_once.l1 k3 true x58_2 l0_4 (l0_4.length : Int) x58_2 l1_4 (l1_4.length : Int) (wrap64 (x67_3 + 1)) a0_0 a0_1 a0_2 a0_3 l0_4 l0_5 a0_6 a0_7 a0_8 a1_0 a1_1 a1_2 a1_3 l1_4 l1_5 a1_6 a1_7 a1_8 ((rd_T62 l0_4 x58_2).f0) ((rd_T62 l0_4 x58_2).f1))) = some r := H
   have A57 := Aside0.mk A570
   clear A570
   by_cases c58 : t177 = true
   · subst c58
     have H1 : (some false) = some r := by rw [if_pos rfl] at H; exact H
     clear H
     have H := H1
     clear H1
     obtain rfl := Option.some.inj H
     have p174 : 0 ≤ (x67_3 : Int) := of_decide_eq_true sqH
     have q174 : x67_3 < (l1_4.length : Int) := of_decide_eq_true sqH
     obtain ⟨ad174, e174, hx174_0, hx174_1⟩ := at_T62 HR1_4.out x67_3 p174 q174
     cases e174
     replace hx174_0 := sqx HB.out hx174_0
     replace hx174_1 := sqx HB.out hx174_1
     replace p174 := eq_true p174
     replace q174 := eq_true q174
     go_wp2_with (first | ((with_reducible refine gate_dst (N := 10) rfl ?_); refine box_event rfl (N := 10) rfl (cs := #[.int .i64 0, .int .i64 0]) (t := 62) sqs ?_; intro gb175 hg w59 hbox hb; have BK175 := sqM (hbox); have GW175 := sqM (sqZ hg (sqB3 HB.out GE169.out GE170.out GE173.out)); have GE175 := sqM (sqZ hg (sqB3 HB.out GE169.out GE170.out GE173.out)); have NB169_175 := sqM (sqL hg (sqK BK169.out)); have NB175_169 := sqM (sqG hg (sqK BK169.out)); have NB170_175 := sqM (sqL hg (sqK BK170.out)); have NB175_170 := sqM (sqG hg (sqK BK170.out)); have NB173_175 := sqM (sqL hg (sqK BK173.out)); have NB175_173 := sqM (sqG hg (sqK BK173.out)); replace BK169 := sqM (blk_below (sqK BK169.out) hb); replace BK170 := sqM (blk_below (sqK BK170.out) hb); replace BK173 := sqM (blk_below (sqK BK173.out) hb); replace HB := sqM (below_step (sqB3 HB.out GE169.out GE170.out GE173.out) hb); clear hb hbox hg; have hnb60 := NB175_169.out; have hnc60 := NB169_175.out; have hnb61 := NB175_170.out; have hnc61 := NB170_175.out; have hnb62 := NB175_173.out; have hnc62 := NB173_175.out; obtain ⟨hcz63_0, hcz63_1, hfz63_0, hfz63_1⟩ := sqF2 BK175.out; have hnb64 := NB173_169.out; have hnc64 := NB169_173.out; have hnb65 := NB173_170.out; have hnc65 := NB170_173.out; obtain ⟨hcz66_0, hcz66_1, hfz66_0, hfz66_1⟩ := sqF2 BK173.out) | (go_at_call 48; (with_reducible refine (conf_has.calls _ _ _ _ _ A46.out).mono ?_); rintro e w67 ⟨rfl, hb⟩; replace BK169 := sqM (blk_below (sqK (sqX2 BK169.out NB169_175.out)) hb); replace BK170 := sqM (blk_below (sqK (sqX2 BK170.out NB170_175.out)) hb); replace BK173 := sqM (blk_below (sqK (sqX2 BK173.out NB173_175.out)) hb); replace BK175 := sqM (blk_below (sqK (sqP2 BK175.out)) hb); replace HB := sqM (below_step (sqB4 HB.out GE169.out GE170.out GE173.out GE175.out) hb); (try clear hb); (try clear hb2); (try clear hk); (try clear hi); obtain ⟨hcz68_0, hcz68_1, hfz68_0, hfz68_1⟩ := sqF2 BK175.out; obtain ⟨hcz69_0, hcz69_1, hfz69_0, hfz69_1⟩ := sqF2 BK173.out) | (go_at_call 48; (with_reducible refine (conf_has.calls _ _ _ _ _ A57.out).mono ?_); rintro e w70 ⟨rfl, hb⟩; replace BK169 := sqM (blk_below (sqK BK169.out) hb); replace BK170 := sqM (blk_below (sqK BK170.out) hb); replace BK173 := sqM (blk_below (sqK BK173.out) hb); replace BK175 := sqM (blk_below (sqK BK175.out) hb); replace HB := sqM (below_step (sqB4 HB.out GE169.out GE170.out GE173.out GE175.out) hb); (try clear hb); (try clear hb2); (try clear hk); (try clear hi)))
     go_ret
     exact ⟨sqE, sqB4 HB.out GE169.out GE170.out GE173.out GE175.out⟩
   replace c58 := Bool.eq_false_iff.mpr c58
   subst c58
   have H1 : (conf_once.l1 k3 true x58_2 l0_4 (l0_4.length : Int) x58_2 l1_4 (l1_4.length : Int) (wrap64 (x67_3 + 1)) a0_0 a0_1 a0_2 a0_3 l0_4 l0_5 a0_6 a0_7 a0_8 a1_0 a1_1 a1_2 a1_3 l1_4 l1_5 a1_6 a1_7 a1_8 ((rd_T62 l0_4 x58_2).f0) ((rd_T62 l0_4 x58_2).f1)) = some r := by rw [if_neg (show ¬ (false = true) by decide)] at H; exact H
   clear H
   have H := H1
   clear H1
   have H' := Aside0.mk H
   clear H
   have p174 : 0 ≤ (x67_3 : Int) := of_decide_eq_true sqH
   have q174 : x67_3 < (l1_4.length : Int) := of_decide_eq_true sqH
   obtain ⟨ad174, e174, hx174_0, hx174_1⟩ := at_T62 HR1_4.out x67_3 p174 q174
   cases e174
   replace hx174_0 := sqx HB.out hx174_0
   replace hx174_1 := sqx HB.out hx174_1
   replace p174 := eq_true p174
   replace q174 := eq_true q174
   go_wp2_with (first | ((with_reducible refine gate_dst (N := 10) rfl ?_); refine box_event rfl (N := 10) rfl (cs := #[.int .i64 0, .int .i64 0]) (t := 62) sqs ?_; intro gb175 hg w71 hbox hb; have BK175 := sqM (hbox); have GW175 := sqM (sqZ hg (sqB3 HB.out GE169.out GE170.out GE173.out)); have GE175 := sqM (sqZ hg (sqB3 HB.out GE169.out GE170.out GE173.out)); have NB169_175 := sqM (sqL hg (sqK BK169.out)); have NB175_169 := sqM (sqG hg (sqK BK169.out)); have NB170_175 := sqM (sqL hg (sqK BK170.out)); have NB175_170 := sqM (sqG hg (sqK BK170.out)); have NB173_175 := sqM (sqL hg (sqK BK173.out)); have NB175_173 := sqM (sqG hg (sqK BK173.out)); replace BK169 := sqM (blk_below (sqK BK169.out) hb); replace BK170 := sqM (blk_below (sqK BK170.out) hb); replace BK173 := sqM (blk_below (sqK BK173.out) hb); replace HB := sqM (below_step (sqB3 HB.out GE169.out GE170.out GE173.out) hb); clear hb hbox hg; have hnb72 := NB175_169.out; have hnc72 := NB169_175.out; have hnb73 := NB175_170.out; have hnc73 := NB170_175.out; have hnb74 := NB175_173.out; have hnc74 := NB173_175.out; obtain ⟨hcz75_0, hcz75_1, hfz75_0, hfz75_1⟩ := sqF2 BK175.out; have hnb76 := NB173_169.out; have hnc76 := NB169_173.out; have hnb77 := NB173_170.out; have hnc77 := NB170_173.out; obtain ⟨hcz78_0, hcz78_1, hfz78_0, hfz78_1⟩ := sqF2 BK173.out) | (go_at_call 48; (with_reducible refine (conf_has.calls _ _ _ _ _ A46.out).mono ?_); rintro e w79 ⟨rfl, hb⟩; replace BK169 := sqM (blk_below (sqK (sqX2 BK169.out NB169_175.out)) hb); replace BK170 := sqM (blk_below (sqK (sqX2 BK170.out NB170_175.out)) hb); replace BK173 := sqM (blk_below (sqK (sqX2 BK173.out NB173_175.out)) hb); replace BK175 := sqM (blk_below (sqK (sqP2 BK175.out)) hb); replace HB := sqM (below_step (sqB4 HB.out GE169.out GE170.out GE173.out GE175.out) hb); (try clear hb); (try clear hb2); (try clear hk); (try clear hi); obtain ⟨hcz80_0, hcz80_1, hfz80_0, hfz80_1⟩ := sqF2 BK175.out; obtain ⟨hcz81_0, hcz81_1, hfz81_0, hfz81_1⟩ := sqF2 BK173.out) | (go_at_call 48; (with_reducible refine (conf_has.calls _ _ _ _ _ A57.out).mono ?_); rintro e w82 ⟨rfl, hb⟩; replace BK169 := sqM (blk_below (sqK BK169.out) hb); replace BK170 := sqM (blk_below (sqK BK170.out) hb); replace BK173 := sqM (blk_below (sqK BK173.out) hb); replace BK175 := sqM (blk_below (sqK BK175.out) hb); replace HB := sqM (below_step (sqB4 HB.out GE169.out GE170.out GE173.out GE175.out) hb); (try clear hb); (try clear hb2); (try clear hk); (try clear hi)))
   go_roundg k3
   case measure => have := HJ3.out; have := HK2.out; have := HK3.out; omega
   case rel => exact ⟨(wrap64 (x67_3 + 1)), sqI, H', ⟨by have := HJ3.out; have := HK2.out; have := HK3.out; omega⟩, ⟨sqK BK169.out⟩, ⟨sqK BK170.out⟩, ⟨sqK BK173.out⟩, ⟨sqB4 HB.out GE169.out GE170.out GE173.out GE175.out⟩⟩
 rw [if_neg c27] at H
 have c27b0 : decide (x58_2 < (l0_4.length : Int)) = false := decide_eq_false c27
 clear c27
 have H' := Aside0.mk H
 clear H
 have hnb88 := NB169_170.out
 have hnc88 := NB170_169.out
 obtain ⟨hcz89_0, hcz89_1, hcz89_2, hcz89_3, hcz89_4, hcz89_5, hcz89_6, hcz89_7, hcz89_8, hfz89_0, hfz89_1, hfz89_2, hfz89_3, hfz89_4, hfz89_5, hfz89_6, hfz89_7, hfz89_8⟩ := sqF9 BK169.out
 go_wp2
 go_loopg [96] k2 (fun kq v96 w' => ∃ (x96_3 : Int), v96 = .int .i64 x96_3 ∧ Aside0 (conf_once.l2 kq a2 l0_5 (l0_5.length : Int) x96_3 a0_0 a0_1 a0_2 a0_3 l0_4 l0_5 a0_6 a0_7 a0_8 a1_0 a1_1 a1_2 a1_3 l1_4 l1_5 a1_6 a1_7 a1_8 = some r) ∧ Aside0 (kq ≤ k2) ∧ Aside0 (w'.heap[gb169]? = some (.cells #[.int .i64 a0_0, .int .i64 a0_1, .int .i64 a0_2, .int .i64 a0_3, (.slice A0_4 l0_4.length c0_4), (.slice A0_5 l0_5.length c0_5), .int .i64 a0_6, .int .i64 a0_7, .int .i64 a0_8] 66 (0, 0))) ∧ Aside0 (w'.heap[gb170]? = some (.cells #[.int .i64 a1_0, .int .i64 a1_1, .int .i64 a1_2, .int .i64 a1_3, (.slice A1_4 l1_4.length c1_4), (.slice A1_5 l1_5.length c1_5), .int .i64 a1_6, .int .i64 a1_7, .int .i64 a1_8] 66 (0, 0))) ∧ Aside0 (Below w.heap.size w w'))
 case atStart => exact ⟨(0), sqI, H', ⟨Nat.le_refl _⟩, ⟨sqK BK169.out⟩, ⟨sqK BK170.out⟩, ⟨sqB2 HB.out GE169.out GE170.out⟩⟩
 clear H'
 try clear c1
 try clear p1
 try clear q1
 try clear hx1
 try clear c2
 try clear p2
 try clear c3
 try clear c4
 try clear c5
 try clear c6
 try clear p6
 try clear c7
 try clear c8
 try clear c9
 try clear c10
 try clear c13
 try clear c13b0
 try clear c13b1
 try clear c14
 try clear c17
 try clear c17b0
 try clear c17b1
 try clear p17
 try clear q17
 try clear hx17
 try clear c18
 try clear c21
 try clear c24
 try clear c25
 try clear c27
 try clear c27b0
 try clear c28
 try clear c28b0
 try clear c29
 try clear c29b0
 try clear c31
 try clear c32
 try clear c34
 try clear c36
 try clear c36b0
 try clear c37
 try clear c37b0
 try clear c38
 try clear c38b0
 try clear c39
 try clear c40
 try clear c40b0
 try clear c40b1
 try clear c42
 try clear c43
 try clear c44
 try clear c47
 try clear c49
 try clear c50
 try clear c51
 try clear c53
 try clear c54
 try clear c58
 try clear c60
 try clear c61
 try clear c62
 try clear c64
 try clear p64
 try clear c65
 try clear c72
 try clear c73
 try clear c74
 try clear c76
 try clear c77
 try clear c84
 try clear c85
 try clear c86
 try clear c88
 try clear hcz11_0 hcz11_1 hcz11_2 hcz11_3 hcz11_4 hcz11_5 hcz11_6 hcz11_7 hcz11_8
 try clear hcz12_0 hcz12_1 hcz12_2 hcz12_3 hcz12_4 hcz12_5 hcz12_6 hcz12_7 hcz12_8
 try clear hcz15_0 hcz15_1 hcz15_2 hcz15_3 hcz15_4 hcz15_5 hcz15_6 hcz15_7 hcz15_8
 try clear hcz16_0 hcz16_1 hcz16_2 hcz16_3 hcz16_4 hcz16_5 hcz16_6 hcz16_7 hcz16_8
 try clear hcz19_0 hcz19_1 hcz19_2 hcz19_3 hcz19_4 hcz19_5 hcz19_6 hcz19_7 hcz19_8
 try clear hcz20_0 hcz20_1 hcz20_2 hcz20_3 hcz20_4 hcz20_5 hcz20_6 hcz20_7 hcz20_8
 try clear hcz22_0 hcz22_1 hcz22_2 hcz22_3 hcz22_4 hcz22_5 hcz22_6 hcz22_7 hcz22_8
 try clear hcz23_0 hcz23_1 hcz23_2 hcz23_3 hcz23_4 hcz23_5 hcz23_6 hcz23_7 hcz23_8
 try clear hcz26_0 hcz26_1 hcz26_2 hcz26_3 hcz26_4 hcz26_5 hcz26_6 hcz26_7 hcz26_8
 try clear hcz33_0 hcz33_1
 try clear hcz35_0 hcz35_1 hcz35_2 hcz35_3 hcz35_4 hcz35_5 hcz35_6 hcz35_7 hcz35_8
 try clear hcz45_0 hcz45_1
 try clear hcz52_0 hcz52_1
 try clear hcz55_0 hcz55_1
 try clear hcz63_0 hcz63_1
 try clear hcz66_0 hcz66_1
 try clear hcz68_0 hcz68_1
 try clear hcz69_0 hcz69_1
 try clear hcz75_0 hcz75_1
 try clear hcz78_0 hcz78_1
 try clear hcz80_0 hcz80_1
 try clear hcz81_0 hcz81_1
 try clear hcz87_0 hcz87_1
 try clear hcz89_0 hcz89_1 hcz89_2 hcz89_3 hcz89_4 hcz89_5 hcz89_6 hcz89_7 hcz89_8
 try clear hfz11_0 hfz11_1 hfz11_2 hfz11_3 hfz11_4 hfz11_5 hfz11_6 hfz11_7 hfz11_8
 try clear hfz12_0 hfz12_1 hfz12_2 hfz12_3 hfz12_4 hfz12_5 hfz12_6 hfz12_7 hfz12_8
 try clear hfz15_0 hfz15_1 hfz15_2 hfz15_3 hfz15_4 hfz15_5 hfz15_6 hfz15_7 hfz15_8
 try clear hfz16_0 hfz16_1 hfz16_2 hfz16_3 hfz16_4 hfz16_5 hfz16_6 hfz16_7 hfz16_8
 try clear hfz19_0 hfz19_1 hfz19_2 hfz19_3 hfz19_4 hfz19_5 hfz19_6 hfz19_7 hfz19_8
 try clear hfz20_0 hfz20_1 hfz20_2 hfz20_3 hfz20_4 hfz20_5 hfz20_6 hfz20_7 hfz20_8
 try clear hfz22_0 hfz22_1 hfz22_2 hfz22_3 hfz22_4 hfz22_5 hfz22_6 hfz22_7 hfz22_8
 try clear hfz23_0 hfz23_1 hfz23_2 hfz23_3 hfz23_4 hfz23_5 hfz23_6 hfz23_7 hfz23_8
 try clear hfz26_0 hfz26_1 hfz26_2 hfz26_3 hfz26_4 hfz26_5 hfz26_6 hfz26_7 hfz26_8
 try clear hfz33_0 hfz33_1
 try clear hfz35_0 hfz35_1 hfz35_2 hfz35_3 hfz35_4 hfz35_5 hfz35_6 hfz35_7 hfz35_8
 try clear hfz45_0 hfz45_1
 try clear hfz52_0 hfz52_1
 try clear hfz55_0 hfz55_1
 try clear hfz63_0 hfz63_1
 try clear hfz66_0 hfz66_1
 try clear hfz68_0 hfz68_1
 try clear hfz69_0 hfz69_1
 try clear hfz75_0 hfz75_1
 try clear hfz78_0 hfz78_1
 try clear hfz80_0 hfz80_1
 try clear hfz81_0 hfz81_1
 try clear hfz87_0 hfz87_1
 try clear hfz89_0 hfz89_1 hfz89_2 hfz89_3 hfz89_4 hfz89_5 hfz89_6 hfz89_7 hfz89_8
 try clear hx172_0 hx172_1
 try clear hx174_0 hx174_1
 try clear p1
 try clear p17
 try clear p172
 try clear p174
 try clear p2
 try clear q1
 try clear q17
 try clear q172
 try clear q174
 obtain ⟨x96_3, rfl, HA, HK3, BK169, BK170, HB⟩ := hrel
 cases gk with
 | zero => exact absurd HA.out (by simp [conf_once.l2])
 | succ k3 => ?_
 have H := HA.out
 clear HA
 simp only [conf_once.l2] at H
 by_cases c90 : x96_3 < (l0_5.length : Int)
 rotate_left
 · rw [if_neg c90] at H
   have c90b0 : decide (x96_3 < (l0_5.length : Int)) = false := decide_eq_false c90
   clear c90
   obtain rfl := Option.some.inj H
   go_wp2
   go_ret
   exact ⟨sqE, sqB2 HB.out GE169.out GE170.out⟩
 rw [if_pos c90] at H
 have c90b0 : decide (x96_3 < (l0_5.length : Int)) = true := decide_eq_true c90
 clear c90
 by_cases c91 : 0 ≤ x96_3
 rotate_left
 · rw [if_neg c91] at H
   exact absurd H (by simp)
 rw [if_pos c91] at H
 have c91b0 : decide (0 ≤ x96_3) = true := decide_eq_true c91
 clear c91
 by_cases c92 : x96_3 < (l0_5.length : Int)
 rotate_left
 · rw [if_neg c92] at H
   exact absurd H (by simp)
 rw [if_pos c92] at H
 have c92b0 : decide (x96_3 < (l0_5.length : Int)) = true := decide_eq_true c92
 clear c92
 have H' := Aside0.mk H
 clear H
 have p178 : 0 ≤ (x96_3 : Int) := of_decide_eq_true sqH
 have q178 : x96_3 < (l0_5.length : Int) := of_decide_eq_true sqH
 obtain ⟨ad178, e178, hx178_0, hx178_1⟩ := at_T59 HR0_5.out x96_3 p178 q178
 cases e178
 replace hx178_0 := sqx HB.out hx178_0
 replace hx178_1 := sqx HB.out hx178_1
 replace p178 := eq_true p178
 replace q178 := eq_true q178
 go_wp2_with (first | ((with_reducible refine gate_dst (N := 12) rfl ?_); refine box_event rfl (N := 12) rfl (cs := #[.string (⟨#[]⟩ : ByteArray), .int .i64 0]) (t := 59) sqs ?_; intro gb179 hg w93 hbox hb; have BK179 := sqM (hbox); have GW179 := sqM (sqZ hg (sqB2 HB.out GE169.out GE170.out)); have GE179 := sqM (sqZ hg (sqB2 HB.out GE169.out GE170.out)); have NB169_179 := sqM (sqL hg (sqK BK169.out)); have NB179_169 := sqM (sqG hg (sqK BK169.out)); have NB170_179 := sqM (sqL hg (sqK BK170.out)); have NB179_170 := sqM (sqG hg (sqK BK170.out)); replace BK169 := sqM (blk_below (sqK BK169.out) hb); replace BK170 := sqM (blk_below (sqK BK170.out) hb); replace HB := sqM (below_step (sqB2 HB.out GE169.out GE170.out) hb); clear hb hbox hg; have hnb94 := NB179_169.out; have hnc94 := NB169_179.out; have hnb95 := NB179_170.out; have hnc95 := NB170_179.out; obtain ⟨hcz96_0, hcz96_1, hfz96_0, hfz96_1⟩ := sqF2 BK179.out; have hnb97 := NB170_169.out; have hnc97 := NB169_170.out; obtain ⟨hcz98_0, hcz98_1, hcz98_2, hcz98_3, hcz98_4, hcz98_5, hcz98_6, hcz98_7, hcz98_8, hfz98_0, hfz98_1, hfz98_2, hfz98_3, hfz98_4, hfz98_5, hfz98_6, hfz98_7, hfz98_8⟩ := sqF9 BK170.out))
 go_loopg [105] k3 (fun kq v105 w' => ∃ (x105_4 : Int), v105 = .int .i64 x105_4 ∧ Aside0 (conf_once.l3 kq a2 x96_3 l0_5 (l0_5.length : Int) x96_3 l1_5 (l1_5.length : Int) x105_4 a0_0 a0_1 a0_2 a0_3 l0_4 l0_5 a0_6 a0_7 a0_8 a1_0 a1_1 a1_2 a1_3 l1_4 l1_5 a1_6 a1_7 a1_8 ((rd_T59 l0_5 x96_3).f0) ((rd_T59 l0_5 x96_3).f1) = some r) ∧ Aside0 (kq ≤ k3) ∧ Aside0 (w'.heap[gb169]? = some (.cells #[.int .i64 a0_0, .int .i64 a0_1, .int .i64 a0_2, .int .i64 a0_3, (.slice A0_4 l0_4.length c0_4), (.slice (some ad178) l0_5.length c0_5), .int .i64 a0_6, .int .i64 a0_7, .int .i64 a0_8] 66 (0, 0))) ∧ Aside0 (w'.heap[gb170]? = some (.cells #[.int .i64 a1_0, .int .i64 a1_1, .int .i64 a1_2, .int .i64 a1_3, (.slice A1_4 l1_4.length c1_4), (.slice A1_5 l1_5.length c1_5), .int .i64 a1_6, .int .i64 a1_7, .int .i64 a1_8] 66 (0, 0))) ∧ Aside0 (w'.heap[gb179]? = some (.cells #[.string ((rd_T59 l0_5 x96_3).f0), .int .i64 ((rd_T59 l0_5 x96_3).f1)] 59 (0, 0))) ∧ Aside0 (Below w.heap.size w w'))
 case atStart => exact ⟨(0), sqI, H', ⟨Nat.le_refl _⟩, ⟨(sqK (sqX2 BK169.out NB169_179.out))⟩, ⟨(sqK (sqX2 BK170.out NB170_179.out))⟩, ⟨(sqK (sqP2 BK179.out))⟩, ⟨sqB3 HB.out GE169.out GE170.out GE179.out⟩⟩
 clear H'
 try clear c1
 try clear p1
 try clear q1
 try clear hx1
 try clear c2
 try clear p2
 try clear c3
 try clear c4
 try clear c5
 try clear c6
 try clear p6
 try clear c7
 try clear c8
 try clear c9
 try clear c10
 try clear c13
 try clear c13b0
 try clear c13b1
 try clear c14
 try clear c17
 try clear c17b0
 try clear c17b1
 try clear p17
 try clear q17
 try clear hx17
 try clear c18
 try clear c21
 try clear c24
 try clear c25
 try clear c27
 try clear c27b0
 try clear c28
 try clear c28b0
 try clear c29
 try clear c29b0
 try clear c31
 try clear c32
 try clear c34
 try clear c36
 try clear c36b0
 try clear c37
 try clear c37b0
 try clear c38
 try clear c38b0
 try clear c39
 try clear c40
 try clear c40b0
 try clear c40b1
 try clear c42
 try clear c43
 try clear c44
 try clear c47
 try clear c49
 try clear c50
 try clear c51
 try clear c53
 try clear c54
 try clear c58
 try clear c60
 try clear c61
 try clear c62
 try clear c64
 try clear p64
 try clear c65
 try clear c72
 try clear c73
 try clear c74
 try clear c76
 try clear c77
 try clear c84
 try clear c85
 try clear c86
 try clear c88
 try clear c90
 try clear c90b0
 try clear c91
 try clear c91b0
 try clear c92
 try clear c92b0
 try clear c94
 try clear c95
 try clear c97
 try clear hcz11_0 hcz11_1 hcz11_2 hcz11_3 hcz11_4 hcz11_5 hcz11_6 hcz11_7 hcz11_8
 try clear hcz12_0 hcz12_1 hcz12_2 hcz12_3 hcz12_4 hcz12_5 hcz12_6 hcz12_7 hcz12_8
 try clear hcz15_0 hcz15_1 hcz15_2 hcz15_3 hcz15_4 hcz15_5 hcz15_6 hcz15_7 hcz15_8
 try clear hcz16_0 hcz16_1 hcz16_2 hcz16_3 hcz16_4 hcz16_5 hcz16_6 hcz16_7 hcz16_8
 try clear hcz19_0 hcz19_1 hcz19_2 hcz19_3 hcz19_4 hcz19_5 hcz19_6 hcz19_7 hcz19_8
 try clear hcz20_0 hcz20_1 hcz20_2 hcz20_3 hcz20_4 hcz20_5 hcz20_6 hcz20_7 hcz20_8
 try clear hcz22_0 hcz22_1 hcz22_2 hcz22_3 hcz22_4 hcz22_5 hcz22_6 hcz22_7 hcz22_8
 try clear hcz23_0 hcz23_1 hcz23_2 hcz23_3 hcz23_4 hcz23_5 hcz23_6 hcz23_7 hcz23_8
 try clear hcz26_0 hcz26_1 hcz26_2 hcz26_3 hcz26_4 hcz26_5 hcz26_6 hcz26_7 hcz26_8
 try clear hcz33_0 hcz33_1
 try clear hcz35_0 hcz35_1 hcz35_2 hcz35_3 hcz35_4 hcz35_5 hcz35_6 hcz35_7 hcz35_8
 try clear hcz45_0 hcz45_1
 try clear hcz52_0 hcz52_1
 try clear hcz55_0 hcz55_1
 try clear hcz63_0 hcz63_1
 try clear hcz66_0 hcz66_1
 try clear hcz68_0 hcz68_1
 try clear hcz69_0 hcz69_1
 try clear hcz75_0 hcz75_1
 try clear hcz78_0 hcz78_1
 try clear hcz80_0 hcz80_1
 try clear hcz81_0 hcz81_1
 try clear hcz87_0 hcz87_1
 try clear hcz89_0 hcz89_1 hcz89_2 hcz89_3 hcz89_4 hcz89_5 hcz89_6 hcz89_7 hcz89_8
 try clear hcz96_0 hcz96_1
 try clear hcz98_0 hcz98_1 hcz98_2 hcz98_3 hcz98_4 hcz98_5 hcz98_6 hcz98_7 hcz98_8
 try clear hfz11_0 hfz11_1 hfz11_2 hfz11_3 hfz11_4 hfz11_5 hfz11_6 hfz11_7 hfz11_8
 try clear hfz12_0 hfz12_1 hfz12_2 hfz12_3 hfz12_4 hfz12_5 hfz12_6 hfz12_7 hfz12_8
 try clear hfz15_0 hfz15_1 hfz15_2 hfz15_3 hfz15_4 hfz15_5 hfz15_6 hfz15_7 hfz15_8
 try clear hfz16_0 hfz16_1 hfz16_2 hfz16_3 hfz16_4 hfz16_5 hfz16_6 hfz16_7 hfz16_8
 try clear hfz19_0 hfz19_1 hfz19_2 hfz19_3 hfz19_4 hfz19_5 hfz19_6 hfz19_7 hfz19_8
 try clear hfz20_0 hfz20_1 hfz20_2 hfz20_3 hfz20_4 hfz20_5 hfz20_6 hfz20_7 hfz20_8
 try clear hfz22_0 hfz22_1 hfz22_2 hfz22_3 hfz22_4 hfz22_5 hfz22_6 hfz22_7 hfz22_8
 try clear hfz23_0 hfz23_1 hfz23_2 hfz23_3 hfz23_4 hfz23_5 hfz23_6 hfz23_7 hfz23_8
 try clear hfz26_0 hfz26_1 hfz26_2 hfz26_3 hfz26_4 hfz26_5 hfz26_6 hfz26_7 hfz26_8
 try clear hfz33_0 hfz33_1
 try clear hfz35_0 hfz35_1 hfz35_2 hfz35_3 hfz35_4 hfz35_5 hfz35_6 hfz35_7 hfz35_8
 try clear hfz45_0 hfz45_1
 try clear hfz52_0 hfz52_1
 try clear hfz55_0 hfz55_1
 try clear hfz63_0 hfz63_1
 try clear hfz66_0 hfz66_1
 try clear hfz68_0 hfz68_1
 try clear hfz69_0 hfz69_1
 try clear hfz75_0 hfz75_1
 try clear hfz78_0 hfz78_1
 try clear hfz80_0 hfz80_1
 try clear hfz81_0 hfz81_1
 try clear hfz87_0 hfz87_1
 try clear hfz89_0 hfz89_1 hfz89_2 hfz89_3 hfz89_4 hfz89_5 hfz89_6 hfz89_7 hfz89_8
 try clear hfz96_0 hfz96_1
 try clear hfz98_0 hfz98_1 hfz98_2 hfz98_3 hfz98_4 hfz98_5 hfz98_6 hfz98_7 hfz98_8
 try clear hx172_0 hx172_1
 try clear hx174_0 hx174_1
 try clear hx178_0 hx178_1
 try clear p1
 try clear p17
 try clear p172
 try clear p174
 try clear p178
 try clear p2
 try clear p6
 try clear p64
 try clear q1
 try clear q17
 try clear q172
 try clear q174
 try clear q178
 obtain ⟨x105_4, rfl, HA, HK4, BK169, BK170, BK179, HB⟩ := hrel
 cases gk with
 | zero => exact absurd HA.out (by simp [conf_once.l3])
 | succ k4 => ?_
 have H := HA.out
 clear HA
 simp only [conf_once.l3] at H
 by_cases c99 : x105_4 < (l1_5.length : Int)
 rotate_left
 · rw [if_neg c99] at H
   have c99b0 : decide (x105_4 < (l1_5.length : Int)) = false := decide_eq_false c99
   clear c99
   have H' := Aside0.mk H
   clear H
   go_wp2
   go_roundg k4
   case measure => have := HJ3.out; have := HK2.out; have := HK3.out; have := HK4.out; omega
   case rel => exact ⟨(wrap64 (x96_3 + 1)), sqI, H', ⟨by have := HJ3.out; have := HK2.out; have := HK3.out; have := HK4.out; omega⟩, ⟨sqK BK169.out⟩, ⟨sqK BK170.out⟩, ⟨sqB3 HB.out GE169.out GE170.out GE179.out⟩⟩
 rw [if_pos c99] at H
 have c99b0 : decide (x105_4 < (l1_5.length : Int)) = true := decide_eq_true c99
 clear c99
 by_cases c100 : 0 ≤ x105_4
 rotate_left
 · rw [if_neg c100] at H
   exact absurd H (by simp)
 rw [if_pos c100] at H
 have c100b0 : decide (0 ≤ x105_4) = true := decide_eq_true c100
 clear c100
 by_cases c101 : x105_4 < (l1_5.length : Int)
 rotate_left
 · rw [if_neg c101] at H
   exact absurd H (by simp)
 rw [if_pos c101] at H
 have c101b0 : decide (x105_4 < (l1_5.length : Int)) = true := decide_eq_true c101
 clear c101
 by_cases c102 : a2 = true
 rotate_left
 · replace c102 := Bool.eq_false_iff.mpr c102
   subst c102
   have H1 : (if ((rd_T59 l0_5 x96_3).f1) = ((rd_T59 l1_5 x105_4).f1) then (some false) else (if a0_0 = a1_0 then (if ((rd_T59 l0_5 x96_3).f0).toList = ((rd_T59 l1_5 x105_4).f0).toList then (some false) else (conf_once.l3 k4 false x96_3 l0_5 (l0_5.length : Int) x96_3 l1_5 (l1_5.length : Int) (wrap64 (x105_4 + 1)) a0_0 a0_1 a0_2 a0_3 l0_4 l0_5 a0_6 a0_7 a0_8 a1_0 a1_1 a1_2 a1_3 l1_4 l1_5 a1_6 a1_7 a1_8 ((rd_T59 l0_5 x96_3).f0) ((rd_T59 l0_5 x96_3).f1))) else (conf_once.l3 k4 false x96_3 l0_5 (l0_5.length : Int) x96_3 l1_5 (l1_5.length : Int) (wrap64 (x105_4 + 1)) a0_0 a0_1 a0_2 a0_3 l0_4 l0_5 a0_6 a0_7 a0_8 a1_0 a1_1 a1_2 a1_3 l1_4 l1_5 a1_6 a1_7 a1_8 ((rd_T59 l0_5 x96_3).f0) ((rd_T59 l0_5 x96_3).f1)))) = some r := by rw [if_neg (show ¬ (false = true) by decide)] at H; exact H
   clear H
   have H := H1
   clear H1
   by_cases c153 : ((rd_T59 l0_5 x96_3).f1) = ((rd_T59 l1_5 x105_4).f1)
   · rw [if_pos c153] at H
     have c153b0 : (((rd_T59 l0_5 x96_3).f1) == ((rd_T59 l1_5 x105_4).f1)) = true := beq_iff_eq.mpr c153
     have c153b1 : (((rd_T59 l0_5 x96_3).f1) != ((rd_T59 l1_5 x105_4).f1)) = false := bne_eq_false_iff_eq.mpr c153
     clear c153
     obtain rfl := Option.some.inj H
     have p180 : 0 ≤ (x105_4 : Int) := of_decide_eq_true sqH
     have q180 : x105_4 < (l1_5.length : Int) := of_decide_eq_true sqH
     obtain ⟨ad180, e180, hx180_0, hx180_1⟩ := at_T59 HR1_5.out x105_4 p180 q180
     cases e180
     replace hx180_0 := sqx HB.out hx180_0
     replace hx180_1 := sqx HB.out hx180_1
     replace p180 := eq_true p180
     replace q180 := eq_true q180
     go_wp2_with (first | ((with_reducible refine gate_dst (N := 14) rfl ?_); refine box_event rfl (N := 14) rfl (cs := #[.string (⟨#[]⟩ : ByteArray), .int .i64 0]) (t := 59) sqs ?_; intro gb181 hg w154 hbox hb; have BK181 := sqM (hbox); have GW181 := sqM (sqZ hg (sqB3 HB.out GE169.out GE170.out GE179.out)); have GE181 := sqM (sqZ hg (sqB3 HB.out GE169.out GE170.out GE179.out)); have NB169_181 := sqM (sqL hg (sqK BK169.out)); have NB181_169 := sqM (sqG hg (sqK BK169.out)); have NB170_181 := sqM (sqL hg (sqK BK170.out)); have NB181_170 := sqM (sqG hg (sqK BK170.out)); have NB179_181 := sqM (sqL hg (sqK BK179.out)); have NB181_179 := sqM (sqG hg (sqK BK179.out)); replace BK169 := sqM (blk_below (sqK BK169.out) hb); replace BK170 := sqM (blk_below (sqK BK170.out) hb); replace BK179 := sqM (blk_below (sqK BK179.out) hb); replace HB := sqM (below_step (sqB3 HB.out GE169.out GE170.out GE179.out) hb); clear hb hbox hg; have hnb155 := NB181_169.out; have hnc155 := NB169_181.out; have hnb156 := NB181_170.out; have hnc156 := NB170_181.out; have hnb157 := NB181_179.out; have hnc157 := NB179_181.out; obtain ⟨hcz158_0, hcz158_1, hfz158_0, hfz158_1⟩ := sqF2 BK181.out; have hnb159 := NB179_169.out; have hnc159 := NB169_179.out; have hnb160 := NB179_170.out; have hnc160 := NB170_179.out; obtain ⟨hcz161_0, hcz161_1, hfz161_0, hfz161_1⟩ := sqF2 BK179.out))
     go_ret
     exact ⟨sqE, sqB4 HB.out GE169.out GE170.out GE179.out GE181.out⟩
   rw [if_neg c153] at H
   have c153b0 : (((rd_T59 l0_5 x96_3).f1) == ((rd_T59 l1_5 x105_4).f1)) = false := beq_eq_false_iff_ne.mpr c153
   have c153b1 : (((rd_T59 l0_5 x96_3).f1) != ((rd_T59 l1_5 x105_4).f1)) = true := bne_iff_ne.mpr c153
   by_cases c162 : a0_0 = a1_0
   rotate_left
   · rw [if_neg c162] at H
     have c162b0 : (a0_0 == a1_0) = false := beq_eq_false_iff_ne.mpr c162
     have c162b1 : (a0_0 != a1_0) = true := bne_iff_ne.mpr c162
     have H' := sqM H
     clear H
     have p180 : 0 ≤ (x105_4 : Int) := of_decide_eq_true sqH
     have q180 : x105_4 < (l1_5.length : Int) := of_decide_eq_true sqH
     obtain ⟨ad180, e180, hx180_0, hx180_1⟩ := at_T59 HR1_5.out x105_4 p180 q180
     cases e180
     replace hx180_0 := sqx HB.out hx180_0
     replace hx180_1 := sqx HB.out hx180_1
     replace p180 := eq_true p180
     replace q180 := eq_true q180
     go_wp2_with (first | ((with_reducible refine gate_dst (N := 14) rfl ?_); refine box_event rfl (N := 14) rfl (cs := #[.string (⟨#[]⟩ : ByteArray), .int .i64 0]) (t := 59) sqs ?_; intro gb181 hg w186 hbox hb; have BK181 := sqM (hbox); have GW181 := sqM (sqZ hg (sqB3 HB.out GE169.out GE170.out GE179.out)); have GE181 := sqM (sqZ hg (sqB3 HB.out GE169.out GE170.out GE179.out)); have NB169_181 := sqM (sqL hg (sqK BK169.out)); have NB181_169 := sqM (sqG hg (sqK BK169.out)); have NB170_181 := sqM (sqL hg (sqK BK170.out)); have NB181_170 := sqM (sqG hg (sqK BK170.out)); have NB179_181 := sqM (sqL hg (sqK BK179.out)); have NB181_179 := sqM (sqG hg (sqK BK179.out)); replace BK169 := sqM (blk_below (sqK BK169.out) hb); replace BK170 := sqM (blk_below (sqK BK170.out) hb); replace BK179 := sqM (blk_below (sqK BK179.out) hb); replace HB := sqM (below_step (sqB3 HB.out GE169.out GE170.out GE179.out) hb); clear hb hbox hg; have hnb187 := NB181_169.out; have hnc187 := NB169_181.out; have hnb188 := NB181_170.out; have hnc188 := NB170_181.out; have hnb189 := NB181_179.out; have hnc189 := NB179_181.out; obtain ⟨hcz190_0, hcz190_1, hfz190_0, hfz190_1⟩ := sqF2 BK181.out; have hnb191 := NB179_169.out; have hnc191 := NB169_179.out; have hnb192 := NB179_170.out; have hnc192 := NB170_179.out; obtain ⟨hcz193_0, hcz193_1, hfz193_0, hfz193_1⟩ := sqF2 BK179.out; have hnb194 := NB169_170.out; have hnc194 := NB170_169.out; obtain ⟨hcz195_0, hcz195_1, hcz195_2, hcz195_3, hcz195_4, hcz195_5, hcz195_6, hcz195_7, hcz195_8, hfz195_0, hfz195_1, hfz195_2, hfz195_3, hfz195_4, hfz195_5, hfz195_6, hfz195_7, hfz195_8⟩ := sqF9 BK169.out; obtain ⟨hcz196_0, hcz196_1, hcz196_2, hcz196_3, hcz196_4, hcz196_5, hcz196_6, hcz196_7, hcz196_8, hfz196_0, hfz196_1, hfz196_2, hfz196_3, hfz196_4, hfz196_5, hfz196_6, hfz196_7, hfz196_8⟩ := sqF9 BK170.out))
     go_roundg k4
     case measure => have := HJ3.out; have := HK2.out; have := HK3.out; have := HK4.out; omega
     case rel => exact ⟨(wrap64 (x105_4 + 1)), sqI, H', ⟨by have := HJ3.out; have := HK2.out; have := HK3.out; have := HK4.out; omega⟩, ⟨(sqK (sqX2 BK169.out NB169_181.out))⟩, ⟨(sqK (sqX2 BK170.out NB170_181.out))⟩, ⟨(sqK (sqX2 BK179.out NB179_181.out))⟩, ⟨sqB4 HB.out GE169.out GE170.out GE179.out GE181.out⟩⟩
   rw [if_pos c162] at H
   have c162b0 : (a0_0 == a1_0) = true := beq_iff_eq.mpr c162
   have c162b1 : (a0_0 != a1_0) = false := bne_eq_false_iff_eq.mpr c162
   clear c162
   by_cases c163 : ((rd_T59 l0_5 x96_3).f0).toList = ((rd_T59 l1_5 x105_4).f0).toList
   · rw [if_pos c163] at H
     have c163b0 : (((rd_T59 l0_5 x96_3).f0).toList == ((rd_T59 l1_5 x105_4).f0).toList) = true := beq_iff_eq.mpr c163
     have c163b1 : (((rd_T59 l0_5 x96_3).f0).toList != ((rd_T59 l1_5 x105_4).f0).toList) = false := bne_eq_false_iff_eq.mpr c163
     clear c163
     obtain rfl := Option.some.inj H
     have p180 : 0 ≤ (x105_4 : Int) := of_decide_eq_true sqH
     have q180 : x105_4 < (l1_5.length : Int) := of_decide_eq_true sqH
     obtain ⟨ad180, e180, hx180_0, hx180_1⟩ := at_T59 HR1_5.out x105_4 p180 q180
     cases e180
     replace hx180_0 := sqx HB.out hx180_0
     replace hx180_1 := sqx HB.out hx180_1
     replace p180 := eq_true p180
     replace q180 := eq_true q180
     go_wp2_with (first | ((with_reducible refine gate_dst (N := 14) rfl ?_); refine box_event rfl (N := 14) rfl (cs := #[.string (⟨#[]⟩ : ByteArray), .int .i64 0]) (t := 59) sqs ?_; intro gb181 hg w164 hbox hb; have BK181 := sqM (hbox); have GW181 := sqM (sqZ hg (sqB3 HB.out GE169.out GE170.out GE179.out)); have GE181 := sqM (sqZ hg (sqB3 HB.out GE169.out GE170.out GE179.out)); have NB169_181 := sqM (sqL hg (sqK BK169.out)); have NB181_169 := sqM (sqG hg (sqK BK169.out)); have NB170_181 := sqM (sqL hg (sqK BK170.out)); have NB181_170 := sqM (sqG hg (sqK BK170.out)); have NB179_181 := sqM (sqL hg (sqK BK179.out)); have NB181_179 := sqM (sqG hg (sqK BK179.out)); replace BK169 := sqM (blk_below (sqK BK169.out) hb); replace BK170 := sqM (blk_below (sqK BK170.out) hb); replace BK179 := sqM (blk_below (sqK BK179.out) hb); replace HB := sqM (below_step (sqB3 HB.out GE169.out GE170.out GE179.out) hb); clear hb hbox hg; have hnb165 := NB181_169.out; have hnc165 := NB169_181.out; have hnb166 := NB181_170.out; have hnc166 := NB170_181.out; have hnb167 := NB181_179.out; have hnc167 := NB179_181.out; obtain ⟨hcz168_0, hcz168_1, hfz168_0, hfz168_1⟩ := sqF2 BK181.out; have hnb169 := NB179_169.out; have hnc169 := NB169_179.out; have hnb170 := NB179_170.out; have hnc170 := NB170_179.out; obtain ⟨hcz171_0, hcz171_1, hfz171_0, hfz171_1⟩ := sqF2 BK179.out; have hnb172 := NB169_170.out; have hnc172 := NB170_169.out; obtain ⟨hcz173_0, hcz173_1, hcz173_2, hcz173_3, hcz173_4, hcz173_5, hcz173_6, hcz173_7, hcz173_8, hfz173_0, hfz173_1, hfz173_2, hfz173_3, hfz173_4, hfz173_5, hfz173_6, hfz173_7, hfz173_8⟩ := sqF9 BK169.out; obtain ⟨hcz174_0, hcz174_1, hcz174_2, hcz174_3, hcz174_4, hcz174_5, hcz174_6, hcz174_7, hcz174_8, hfz174_0, hfz174_1, hfz174_2, hfz174_3, hfz174_4, hfz174_5, hfz174_6, hfz174_7, hfz174_8⟩ := sqF9 BK170.out))
     go_ret
     exact ⟨sqE, sqB4 HB.out GE169.out GE170.out GE179.out GE181.out⟩
   rw [if_neg c163] at H
   have c163b0 : (((rd_T59 l0_5 x96_3).f0).toList == ((rd_T59 l1_5 x105_4).f0).toList) = false := beq_eq_false_iff_ne.mpr c163
   have c163b1 : (((rd_T59 l0_5 x96_3).f0).toList != ((rd_T59 l1_5 x105_4).f0).toList) = true := bne_iff_ne.mpr c163
   have H' := sqM H
   clear H
   have p180 : 0 ≤ (x105_4 : Int) := of_decide_eq_true sqH
   have q180 : x105_4 < (l1_5.length : Int) := of_decide_eq_true sqH
   obtain ⟨ad180, e180, hx180_0, hx180_1⟩ := at_T59 HR1_5.out x105_4 p180 q180
   cases e180
   replace hx180_0 := sqx HB.out hx180_0
   replace hx180_1 := sqx HB.out hx180_1
   replace p180 := eq_true p180
   replace q180 := eq_true q180
   go_wp2_with (first | ((with_reducible refine gate_dst (N := 14) rfl ?_); refine box_event rfl (N := 14) rfl (cs := #[.string (⟨#[]⟩ : ByteArray), .int .i64 0]) (t := 59) sqs ?_; intro gb181 hg w175 hbox hb; have BK181 := sqM (hbox); have GW181 := sqM (sqZ hg (sqB3 HB.out GE169.out GE170.out GE179.out)); have GE181 := sqM (sqZ hg (sqB3 HB.out GE169.out GE170.out GE179.out)); have NB169_181 := sqM (sqL hg (sqK BK169.out)); have NB181_169 := sqM (sqG hg (sqK BK169.out)); have NB170_181 := sqM (sqL hg (sqK BK170.out)); have NB181_170 := sqM (sqG hg (sqK BK170.out)); have NB179_181 := sqM (sqL hg (sqK BK179.out)); have NB181_179 := sqM (sqG hg (sqK BK179.out)); replace BK169 := sqM (blk_below (sqK BK169.out) hb); replace BK170 := sqM (blk_below (sqK BK170.out) hb); replace BK179 := sqM (blk_below (sqK BK179.out) hb); replace HB := sqM (below_step (sqB3 HB.out GE169.out GE170.out GE179.out) hb); clear hb hbox hg; have hnb176 := NB181_169.out; have hnc176 := NB169_181.out; have hnb177 := NB181_170.out; have hnc177 := NB170_181.out; have hnb178 := NB181_179.out; have hnc178 := NB179_181.out; obtain ⟨hcz179_0, hcz179_1, hfz179_0, hfz179_1⟩ := sqF2 BK181.out; have hnb180 := NB179_169.out; have hnc180 := NB169_179.out; have hnb181 := NB179_170.out; have hnc181 := NB170_179.out; obtain ⟨hcz182_0, hcz182_1, hfz182_0, hfz182_1⟩ := sqF2 BK179.out; have hnb183 := NB169_170.out; have hnc183 := NB170_169.out; obtain ⟨hcz184_0, hcz184_1, hcz184_2, hcz184_3, hcz184_4, hcz184_5, hcz184_6, hcz184_7, hcz184_8, hfz184_0, hfz184_1, hfz184_2, hfz184_3, hfz184_4, hfz184_5, hfz184_6, hfz184_7, hfz184_8⟩ := sqF9 BK169.out; obtain ⟨hcz185_0, hcz185_1, hcz185_2, hcz185_3, hcz185_4, hcz185_5, hcz185_6, hcz185_7, hcz185_8, hfz185_0, hfz185_1, hfz185_2, hfz185_3, hfz185_4, hfz185_5, hfz185_6, hfz185_7, hfz185_8⟩ := sqF9 BK170.out))
   go_roundg k4
   case measure => have := HJ3.out; have := HK2.out; have := HK3.out; have := HK4.out; omega
   case rel => exact ⟨(wrap64 (x105_4 + 1)), sqI, H', ⟨by have := HJ3.out; have := HK2.out; have := HK3.out; have := HK4.out; omega⟩, ⟨(sqK (sqX2 BK169.out NB169_181.out))⟩, ⟨(sqK (sqX2 BK170.out NB170_181.out))⟩, ⟨(sqK (sqX2 BK179.out NB179_181.out))⟩, ⟨sqB4 HB.out GE169.out GE170.out GE179.out GE181.out⟩⟩
 subst c102
 have H1 : (if x96_3 = x105_4 then (conf_once.l3 k4 true x96_3 l0_5 (l0_5.length : Int) x96_3 l1_5 (l1_5.length : Int) (wrap64 (x105_4 + 1)) a0_0 a0_1 a0_2 a0_3 l0_4 l0_5 a0_6 a0_7 a0_8 a1_0 a1_1 a1_2 a1_3 l1_4 l1_5 a1_6 a1_7 a1_8 ((rd_T59 l0_5 x96_3).f0) ((rd_T59 l0_5 x96_3).f1)) else (if ((rd_T59 l0_5 x96_3).f1) = ((rd_T59 l1_5 x105_4).f1) then (some false) else (if a0_0 = a1_0 then (if ((rd_T59 l0_5 x96_3).f0).toList = ((rd_T59 l1_5 x105_4).f0).toList then (some false) else (conf_once.l3 k4 true x96_3 l0_5 (l0_5.length : Int) x96_3 l1_5 (l1_5.length : Int) (wrap64 (x105_4 + 1)) a0_0 a0_1 a0_2 a0_3 l0_4 l0_5 a0_6 a0_7 a0_8 a1_0 a1_1 a1_2 a1_3 l1_4 l1_5 a1_6 a1_7 a1_8 ((rd_T59 l0_5 x96_3).f0) ((rd_T59 l0_5 x96_3).f1))) else (conf_once.l3 k4 true x96_3 l0_5 (l0_5.length : Int) x96_3 l1_5 (l1_5.length : Int) (wrap64 (x105_4 + 1)) a0_0 a0_1 a0_2 a0_3 l0_4 l0_5 a0_6 a0_7 a0_8 a1_0 a1_1 a1_2 a1_3 l1_4 l1_5 a1_6 a1_7 a1_8 ((rd_T59 l0_5 x96_3).f0) ((rd_T59 l0_5 x96_3).f1))))) = some r := by rw [if_pos rfl] at H; exact H
 clear H
 have H := H1
 clear H1
 by_cases c103 : x96_3 = x105_4
 · rw [if_pos c103] at H
   have c103b0 : (x96_3 == x105_4) = true := beq_iff_eq.mpr c103
   have c103b1 : (x96_3 != x105_4) = false := bne_eq_false_iff_eq.mpr c103
   clear c103
   have H' := Aside0.mk H
   clear H
   have p180 : 0 ≤ (x105_4 : Int) := of_decide_eq_true sqH
   have q180 : x105_4 < (l1_5.length : Int) := of_decide_eq_true sqH
   obtain ⟨ad180, e180, hx180_0, hx180_1⟩ := at_T59 HR1_5.out x105_4 p180 q180
   cases e180
   replace hx180_0 := sqx HB.out hx180_0
   replace hx180_1 := sqx HB.out hx180_1
   replace p180 := eq_true p180
   replace q180 := eq_true q180
   go_wp2_with (first | ((with_reducible refine gate_dst (N := 14) rfl ?_); refine box_event rfl (N := 14) rfl (cs := #[.string (⟨#[]⟩ : ByteArray), .int .i64 0]) (t := 59) sqs ?_; intro gb181 hg w104 hbox hb; have BK181 := sqM (hbox); have GW181 := sqM (sqZ hg (sqB3 HB.out GE169.out GE170.out GE179.out)); have GE181 := sqM (sqZ hg (sqB3 HB.out GE169.out GE170.out GE179.out)); have NB169_181 := sqM (sqL hg (sqK BK169.out)); have NB181_169 := sqM (sqG hg (sqK BK169.out)); have NB170_181 := sqM (sqL hg (sqK BK170.out)); have NB181_170 := sqM (sqG hg (sqK BK170.out)); have NB179_181 := sqM (sqL hg (sqK BK179.out)); have NB181_179 := sqM (sqG hg (sqK BK179.out)); replace BK169 := sqM (blk_below (sqK BK169.out) hb); replace BK170 := sqM (blk_below (sqK BK170.out) hb); replace BK179 := sqM (blk_below (sqK BK179.out) hb); replace HB := sqM (below_step (sqB3 HB.out GE169.out GE170.out GE179.out) hb); clear hb hbox hg; have hnb105 := NB181_169.out; have hnc105 := NB169_181.out; have hnb106 := NB181_170.out; have hnc106 := NB170_181.out; have hnb107 := NB181_179.out; have hnc107 := NB179_181.out; obtain ⟨hcz108_0, hcz108_1, hfz108_0, hfz108_1⟩ := sqF2 BK181.out))
   go_roundg k4
   case measure => have := HJ3.out; have := HK2.out; have := HK3.out; have := HK4.out; omega
   case rel => exact ⟨(wrap64 (x105_4 + 1)), sqI, H', ⟨by have := HJ3.out; have := HK2.out; have := HK3.out; have := HK4.out; omega⟩, ⟨(sqK (sqX2 BK169.out NB169_181.out))⟩, ⟨(sqK (sqX2 BK170.out NB170_181.out))⟩, ⟨(sqK (sqX2 BK179.out NB179_181.out))⟩, ⟨sqB4 HB.out GE169.out GE170.out GE179.out GE181.out⟩⟩
 rw [if_neg c103] at H
 have c103b0 : (x96_3 == x105_4) = false := beq_eq_false_iff_ne.mpr c103
 have c103b1 : (x96_3 != x105_4) = true := bne_iff_ne.mpr c103
 by_cases c109 : ((rd_T59 l0_5 x96_3).f1) = ((rd_T59 l1_5 x105_4).f1)
 · rw [if_pos c109] at H
   have c109b0 : (((rd_T59 l0_5 x96_3).f1) == ((rd_T59 l1_5 x105_4).f1)) = true := beq_iff_eq.mpr c109
   have c109b1 : (((rd_T59 l0_5 x96_3).f1) != ((rd_T59 l1_5 x105_4).f1)) = false := bne_eq_false_iff_eq.mpr c109
   clear c109
   obtain rfl := Option.some.inj H
   have p180 : 0 ≤ (x105_4 : Int) := of_decide_eq_true sqH
   have q180 : x105_4 < (l1_5.length : Int) := of_decide_eq_true sqH
   obtain ⟨ad180, e180, hx180_0, hx180_1⟩ := at_T59 HR1_5.out x105_4 p180 q180
   cases e180
   replace hx180_0 := sqx HB.out hx180_0
   replace hx180_1 := sqx HB.out hx180_1
   replace p180 := eq_true p180
   replace q180 := eq_true q180
   go_wp2_with (first | ((with_reducible refine gate_dst (N := 14) rfl ?_); refine box_event rfl (N := 14) rfl (cs := #[.string (⟨#[]⟩ : ByteArray), .int .i64 0]) (t := 59) sqs ?_; intro gb181 hg w110 hbox hb; have BK181 := sqM (hbox); have GW181 := sqM (sqZ hg (sqB3 HB.out GE169.out GE170.out GE179.out)); have GE181 := sqM (sqZ hg (sqB3 HB.out GE169.out GE170.out GE179.out)); have NB169_181 := sqM (sqL hg (sqK BK169.out)); have NB181_169 := sqM (sqG hg (sqK BK169.out)); have NB170_181 := sqM (sqL hg (sqK BK170.out)); have NB181_170 := sqM (sqG hg (sqK BK170.out)); have NB179_181 := sqM (sqL hg (sqK BK179.out)); have NB181_179 := sqM (sqG hg (sqK BK179.out)); replace BK169 := sqM (blk_below (sqK BK169.out) hb); replace BK170 := sqM (blk_below (sqK BK170.out) hb); replace BK179 := sqM (blk_below (sqK BK179.out) hb); replace HB := sqM (below_step (sqB3 HB.out GE169.out GE170.out GE179.out) hb); clear hb hbox hg; have hnb111 := NB181_169.out; have hnc111 := NB169_181.out; have hnb112 := NB181_170.out; have hnc112 := NB170_181.out; have hnb113 := NB181_179.out; have hnc113 := NB179_181.out; obtain ⟨hcz114_0, hcz114_1, hfz114_0, hfz114_1⟩ := sqF2 BK181.out; have hnb115 := NB179_169.out; have hnc115 := NB169_179.out; have hnb116 := NB179_170.out; have hnc116 := NB170_179.out; obtain ⟨hcz117_0, hcz117_1, hfz117_0, hfz117_1⟩ := sqF2 BK179.out))
   go_ret
   exact ⟨sqE, sqB4 HB.out GE169.out GE170.out GE179.out GE181.out⟩
 rw [if_neg c109] at H
 have c109b0 : (((rd_T59 l0_5 x96_3).f1) == ((rd_T59 l1_5 x105_4).f1)) = false := beq_eq_false_iff_ne.mpr c109
 have c109b1 : (((rd_T59 l0_5 x96_3).f1) != ((rd_T59 l1_5 x105_4).f1)) = true := bne_iff_ne.mpr c109
 by_cases c118 : a0_0 = a1_0
 rotate_left
 · rw [if_neg c118] at H
   have c118b0 : (a0_0 == a1_0) = false := beq_eq_false_iff_ne.mpr c118
   have c118b1 : (a0_0 != a1_0) = true := bne_iff_ne.mpr c118
   have H' := sqM H
   clear H
   have p180 : 0 ≤ (x105_4 : Int) := of_decide_eq_true sqH
   have q180 : x105_4 < (l1_5.length : Int) := of_decide_eq_true sqH
   obtain ⟨ad180, e180, hx180_0, hx180_1⟩ := at_T59 HR1_5.out x105_4 p180 q180
   cases e180
   replace hx180_0 := sqx HB.out hx180_0
   replace hx180_1 := sqx HB.out hx180_1
   replace p180 := eq_true p180
   replace q180 := eq_true q180
   go_wp2_with (first | ((with_reducible refine gate_dst (N := 14) rfl ?_); refine box_event rfl (N := 14) rfl (cs := #[.string (⟨#[]⟩ : ByteArray), .int .i64 0]) (t := 59) sqs ?_; intro gb181 hg w142 hbox hb; have BK181 := sqM (hbox); have GW181 := sqM (sqZ hg (sqB3 HB.out GE169.out GE170.out GE179.out)); have GE181 := sqM (sqZ hg (sqB3 HB.out GE169.out GE170.out GE179.out)); have NB169_181 := sqM (sqL hg (sqK BK169.out)); have NB181_169 := sqM (sqG hg (sqK BK169.out)); have NB170_181 := sqM (sqL hg (sqK BK170.out)); have NB181_170 := sqM (sqG hg (sqK BK170.out)); have NB179_181 := sqM (sqL hg (sqK BK179.out)); have NB181_179 := sqM (sqG hg (sqK BK179.out)); replace BK169 := sqM (blk_below (sqK BK169.out) hb); replace BK170 := sqM (blk_below (sqK BK170.out) hb); replace BK179 := sqM (blk_below (sqK BK179.out) hb); replace HB := sqM (below_step (sqB3 HB.out GE169.out GE170.out GE179.out) hb); clear hb hbox hg; have hnb143 := NB181_169.out; have hnc143 := NB169_181.out; have hnb144 := NB181_170.out; have hnc144 := NB170_181.out; have hnb145 := NB181_179.out; have hnc145 := NB179_181.out; obtain ⟨hcz146_0, hcz146_1, hfz146_0, hfz146_1⟩ := sqF2 BK181.out; have hnb147 := NB179_169.out; have hnc147 := NB169_179.out; have hnb148 := NB179_170.out; have hnc148 := NB170_179.out; obtain ⟨hcz149_0, hcz149_1, hfz149_0, hfz149_1⟩ := sqF2 BK179.out; have hnb150 := NB169_170.out; have hnc150 := NB170_169.out; obtain ⟨hcz151_0, hcz151_1, hcz151_2, hcz151_3, hcz151_4, hcz151_5, hcz151_6, hcz151_7, hcz151_8, hfz151_0, hfz151_1, hfz151_2, hfz151_3, hfz151_4, hfz151_5, hfz151_6, hfz151_7, hfz151_8⟩ := sqF9 BK169.out; obtain ⟨hcz152_0, hcz152_1, hcz152_2, hcz152_3, hcz152_4, hcz152_5, hcz152_6, hcz152_7, hcz152_8, hfz152_0, hfz152_1, hfz152_2, hfz152_3, hfz152_4, hfz152_5, hfz152_6, hfz152_7, hfz152_8⟩ := sqF9 BK170.out))
   go_roundg k4
   case measure => have := HJ3.out; have := HK2.out; have := HK3.out; have := HK4.out; omega
   case rel => exact ⟨(wrap64 (x105_4 + 1)), sqI, H', ⟨by have := HJ3.out; have := HK2.out; have := HK3.out; have := HK4.out; omega⟩, ⟨(sqK (sqX2 BK169.out NB169_181.out))⟩, ⟨(sqK (sqX2 BK170.out NB170_181.out))⟩, ⟨(sqK (sqX2 BK179.out NB179_181.out))⟩, ⟨sqB4 HB.out GE169.out GE170.out GE179.out GE181.out⟩⟩
 rw [if_pos c118] at H
 have c118b0 : (a0_0 == a1_0) = true := beq_iff_eq.mpr c118
 have c118b1 : (a0_0 != a1_0) = false := bne_eq_false_iff_eq.mpr c118
 clear c118
 by_cases c119 : ((rd_T59 l0_5 x96_3).f0).toList = ((rd_T59 l1_5 x105_4).f0).toList
 · rw [if_pos c119] at H
   have c119b0 : (((rd_T59 l0_5 x96_3).f0).toList == ((rd_T59 l1_5 x105_4).f0).toList) = true := beq_iff_eq.mpr c119
   have c119b1 : (((rd_T59 l0_5 x96_3).f0).toList != ((rd_T59 l1_5 x105_4).f0).toList) = false := bne_eq_false_iff_eq.mpr c119
   clear c119
   obtain rfl := Option.some.inj H
   have p180 : 0 ≤ (x105_4 : Int) := of_decide_eq_true sqH
   have q180 : x105_4 < (l1_5.length : Int) := of_decide_eq_true sqH
   obtain ⟨ad180, e180, hx180_0, hx180_1⟩ := at_T59 HR1_5.out x105_4 p180 q180
   cases e180
   replace hx180_0 := sqx HB.out hx180_0
   replace hx180_1 := sqx HB.out hx180_1
   replace p180 := eq_true p180
   replace q180 := eq_true q180
   go_wp2_with (first | ((with_reducible refine gate_dst (N := 14) rfl ?_); refine box_event rfl (N := 14) rfl (cs := #[.string (⟨#[]⟩ : ByteArray), .int .i64 0]) (t := 59) sqs ?_; intro gb181 hg w120 hbox hb; have BK181 := sqM (hbox); have GW181 := sqM (sqZ hg (sqB3 HB.out GE169.out GE170.out GE179.out)); have GE181 := sqM (sqZ hg (sqB3 HB.out GE169.out GE170.out GE179.out)); have NB169_181 := sqM (sqL hg (sqK BK169.out)); have NB181_169 := sqM (sqG hg (sqK BK169.out)); have NB170_181 := sqM (sqL hg (sqK BK170.out)); have NB181_170 := sqM (sqG hg (sqK BK170.out)); have NB179_181 := sqM (sqL hg (sqK BK179.out)); have NB181_179 := sqM (sqG hg (sqK BK179.out)); replace BK169 := sqM (blk_below (sqK BK169.out) hb); replace BK170 := sqM (blk_below (sqK BK170.out) hb); replace BK179 := sqM (blk_below (sqK BK179.out) hb); replace HB := sqM (below_step (sqB3 HB.out GE169.out GE170.out GE179.out) hb); clear hb hbox hg; have hnb121 := NB181_169.out; have hnc121 := NB169_181.out; have hnb122 := NB181_170.out; have hnc122 := NB170_181.out; have hnb123 := NB181_179.out; have hnc123 := NB179_181.out; obtain ⟨hcz124_0, hcz124_1, hfz124_0, hfz124_1⟩ := sqF2 BK181.out; have hnb125 := NB179_169.out; have hnc125 := NB169_179.out; have hnb126 := NB179_170.out; have hnc126 := NB170_179.out; obtain ⟨hcz127_0, hcz127_1, hfz127_0, hfz127_1⟩ := sqF2 BK179.out; have hnb128 := NB169_170.out; have hnc128 := NB170_169.out; obtain ⟨hcz129_0, hcz129_1, hcz129_2, hcz129_3, hcz129_4, hcz129_5, hcz129_6, hcz129_7, hcz129_8, hfz129_0, hfz129_1, hfz129_2, hfz129_3, hfz129_4, hfz129_5, hfz129_6, hfz129_7, hfz129_8⟩ := sqF9 BK169.out; obtain ⟨hcz130_0, hcz130_1, hcz130_2, hcz130_3, hcz130_4, hcz130_5, hcz130_6, hcz130_7, hcz130_8, hfz130_0, hfz130_1, hfz130_2, hfz130_3, hfz130_4, hfz130_5, hfz130_6, hfz130_7, hfz130_8⟩ := sqF9 BK170.out))
   go_ret
   exact ⟨sqE, sqB4 HB.out GE169.out GE170.out GE179.out GE181.out⟩
 rw [if_neg c119] at H
 have c119b0 : (((rd_T59 l0_5 x96_3).f0).toList == ((rd_T59 l1_5 x105_4).f0).toList) = false := beq_eq_false_iff_ne.mpr c119
 have c119b1 : (((rd_T59 l0_5 x96_3).f0).toList != ((rd_T59 l1_5 x105_4).f0).toList) = true := bne_iff_ne.mpr c119
 have H' := sqM H
 clear H
 have p180 : 0 ≤ (x105_4 : Int) := of_decide_eq_true sqH
 have q180 : x105_4 < (l1_5.length : Int) := of_decide_eq_true sqH
 obtain ⟨ad180, e180, hx180_0, hx180_1⟩ := at_T59 HR1_5.out x105_4 p180 q180
 cases e180
 replace hx180_0 := sqx HB.out hx180_0
 replace hx180_1 := sqx HB.out hx180_1
 replace p180 := eq_true p180
 replace q180 := eq_true q180
 go_wp2_with (first | ((with_reducible refine gate_dst (N := 14) rfl ?_); refine box_event rfl (N := 14) rfl (cs := #[.string (⟨#[]⟩ : ByteArray), .int .i64 0]) (t := 59) sqs ?_; intro gb181 hg w131 hbox hb; have BK181 := sqM (hbox); have GW181 := sqM (sqZ hg (sqB3 HB.out GE169.out GE170.out GE179.out)); have GE181 := sqM (sqZ hg (sqB3 HB.out GE169.out GE170.out GE179.out)); have NB169_181 := sqM (sqL hg (sqK BK169.out)); have NB181_169 := sqM (sqG hg (sqK BK169.out)); have NB170_181 := sqM (sqL hg (sqK BK170.out)); have NB181_170 := sqM (sqG hg (sqK BK170.out)); have NB179_181 := sqM (sqL hg (sqK BK179.out)); have NB181_179 := sqM (sqG hg (sqK BK179.out)); replace BK169 := sqM (blk_below (sqK BK169.out) hb); replace BK170 := sqM (blk_below (sqK BK170.out) hb); replace BK179 := sqM (blk_below (sqK BK179.out) hb); replace HB := sqM (below_step (sqB3 HB.out GE169.out GE170.out GE179.out) hb); clear hb hbox hg; have hnb132 := NB181_169.out; have hnc132 := NB169_181.out; have hnb133 := NB181_170.out; have hnc133 := NB170_181.out; have hnb134 := NB181_179.out; have hnc134 := NB179_181.out; obtain ⟨hcz135_0, hcz135_1, hfz135_0, hfz135_1⟩ := sqF2 BK181.out; have hnb136 := NB179_169.out; have hnc136 := NB169_179.out; have hnb137 := NB179_170.out; have hnc137 := NB170_179.out; obtain ⟨hcz138_0, hcz138_1, hfz138_0, hfz138_1⟩ := sqF2 BK179.out; have hnb139 := NB169_170.out; have hnc139 := NB170_169.out; obtain ⟨hcz140_0, hcz140_1, hcz140_2, hcz140_3, hcz140_4, hcz140_5, hcz140_6, hcz140_7, hcz140_8, hfz140_0, hfz140_1, hfz140_2, hfz140_3, hfz140_4, hfz140_5, hfz140_6, hfz140_7, hfz140_8⟩ := sqF9 BK169.out; obtain ⟨hcz141_0, hcz141_1, hcz141_2, hcz141_3, hcz141_4, hcz141_5, hcz141_6, hcz141_7, hcz141_8, hfz141_0, hfz141_1, hfz141_2, hfz141_3, hfz141_4, hfz141_5, hfz141_6, hfz141_7, hfz141_8⟩ := sqF9 BK170.out))
 go_roundg k4
 case measure => have := HJ3.out; have := HK2.out; have := HK3.out; have := HK4.out; omega
 case rel => exact ⟨(wrap64 (x105_4 + 1)), sqI, H', ⟨by have := HJ3.out; have := HK2.out; have := HK3.out; have := HK4.out; omega⟩, ⟨(sqK (sqX2 BK169.out NB169_181.out))⟩, ⟨(sqK (sqX2 BK170.out NB170_181.out))⟩, ⟨(sqK (sqX2 BK179.out NB179_181.out))⟩, ⟨sqB4 HB.out GE169.out GE170.out GE179.out GE181.out⟩⟩

end Go.Proofs.Ytdcabfonjmeajaa.PConf
