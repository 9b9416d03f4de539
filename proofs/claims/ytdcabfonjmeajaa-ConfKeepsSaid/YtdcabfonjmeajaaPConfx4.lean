/- Lean functions for Go functions of the given program, and proofs that the code computes them, each under its theorem's own conditions. Written by a program of this session. -/
import Derived.Test.YtdcabfonjmeajaaPConfx0
import Derived.Test.YtdcabfonjmeajaaPConfx1
import Derived.Test.YtdcabfonjmeajaaPConfx3
namespace Go.Proofs.Ytdcabfonjmeajaa.PConf
open Go.RowKit Go.Proofs.YtdcabfonjmeajaaW.PrintWords Go.Proofs.YtdcabfonjmeajaaW.PrintLast Go.Proofs.YtdcabfonjmeajaaW.PrintMore
attribute [local go_sem] max2_int min2_int max_two min_two max_three min_three max_four min_four   -- for this text's walks alone
set_option linter.unusedVariables false
set_option linter.unusedSimpArgs false

/-! ### conf_placed: function 41 -/
mutual
def conf_placed.l0 : Nat → List (S66) → Int → Int → Int → Int → List (S41) → Option (Bool)
  | 0, _, _, _, _, _, _ => none
  | k + 1, x10, x11, x12, x151000, x151001, x151002 => if x12 < x11 then (if 0 ≤ x12 then (if x12 < (x10.length : Int) then (conf_placed.l1 k x10 x11 x12 ((rd_T66 x10 x12).f2.f2) (((rd_T66 x10 x12).f2.f2).length : Int) 0 x151000 x151001 x151002 ((rd_T66 x10 x12).f0) ((rd_T66 x10 x12).f1) ((rd_T66 x10 x12).f2.f0) ((rd_T66 x10 x12).f2.f1) ((rd_T66 x10 x12).f2.f2) ((rd_T66 x10 x12).f2.f3) ((rd_T66 x10 x12).f2.f4) ((rd_T66 x10 x12).f2.f5) ((rd_T66 x10 x12).f2.f6)) else (none)) else (none)) else (some true)
def conf_placed.l1 : Nat → List (S66) → Int → Int → List (S62) → Int → Int → Int → Int → List (S41) → Int → Int → Int → Int → List (S62) → List (S59) → Int → Int → Int → Option (Bool)
  | 0, _, _, _, _, _, _, _, _, _, _, _, _, _, _, _, _, _, _ => none
  | k + 1, x10, x11, x12, x18, x19, x20, x151000, x151001, x151002, x156000, x156001, x156002, x156003, x156004, x156005, x156006, x156007, x156008 => if x20 < x19 then (if 0 ≤ x20 then (if x20 < (x18.length : Int) then ((conf_inside.f x156002 x156003 x156004 x156005 x156006 x156007 x156008 ((rd_T62 x18 x20).f0)).bind fun t158 => (if t158 = true then ((conf_inside.f x156002 x156003 x156004 x156005 x156006 x156007 x156008 ((rd_T62 x18 x20).f1)).bind fun t159 => (if t159 = true then ((conf_has.f ((rd_T62 x18 x20).f0) ((rd_T62 x18 x20).f1) x151000).bind fun t160 => (if t160 = true then (some false) else (conf_placed.l1 k x10 x11 x12 x18 x19 (wrap64 (x20 + 1)) x151000 x151001 x151002 x156000 x156001 x156002 x156003 x156004 x156005 x156006 x156007 x156008))) else (some false))) else (some false))) else (none)) else (none)) else (conf_placed.l2 k x10 x11 x12 x156005 (x156005.length : Int) 0 x151000 x151001 x151002 x156000 x156001 x156002 x156003 x156004 x156005 x156006 x156007 x156008)
def conf_placed.l2 : Nat → List (S66) → Int → Int → List (S59) → Int → Int → Int → Int → List (S41) → Int → Int → Int → Int → List (S62) → List (S59) → Int → Int → Int → Option (Bool)
  | 0, _, _, _, _, _, _, _, _, _, _, _, _, _, _, _, _, _, _ => none
  | k + 1, x10, x11, x12, x47, x48, x49, x151000, x151001, x151002, x156000, x156001, x156002, x156003, x156004, x156005, x156006, x156007, x156008 => if x49 < x48 then (if 0 ≤ x49 then (if x49 < (x47.length : Int) then ((conf_inside.f x156002 x156003 x156004 x156005 x156006 x156007 x156008 ((rd_T59 x47 x49).f1)).bind fun t163 => (if t163 = true then (if ((rd_T59 x47 x49).f1) = x151000 then (some false) else (conf_placed.l2 k x10 x11 x12 x47 x48 (wrap64 (x49 + 1)) x151000 x151001 x151002 x156000 x156001 x156002 x156003 x156004 x156005 x156006 x156007 x156008)) else (some false))) else (none)) else (none)) else (if x156007 = 0 then (conf_placed.l0 k x10 x11 (wrap64 (x12 + 1)) x151000 x151001 x151002) else ((addr_Has.f x156002 x156003 x156007).bind fun t164 => (if t164 = true then (conf_placed.l0 k x10 x11 (wrap64 (x12 + 1)) x151000 x151001 x151002) else (some false))))
end
def conf_placed.f (k : Nat) (a0_0 : Int) (a0_1 : Int) (l0_2 : List (S41)) : Option (Bool) := (conf_spots.f k a0_0 a0_1 l0_2).bind fun t151 => (conf_placed.l0 k t151 (t151.length : Int) 0 a0_0 a0_1 l0_2)
theorem conf_placed.mono_l : ∀ k, (∀ y0 y1 y2 y3 y4 y5, LeO (conf_placed.l0 k y0 y1 y2 y3 y4 y5) (conf_placed.l0 (k + 1) y0 y1 y2 y3 y4 y5)) ∧ (∀ y0 y1 y2 y3 y4 y5 y6 y7 y8 y9 y10 y11 y12 y13 y14 y15 y16 y17, LeO (conf_placed.l1 k y0 y1 y2 y3 y4 y5 y6 y7 y8 y9 y10 y11 y12 y13 y14 y15 y16 y17) (conf_placed.l1 (k + 1) y0 y1 y2 y3 y4 y5 y6 y7 y8 y9 y10 y11 y12 y13 y14 y15 y16 y17)) ∧ (∀ y0 y1 y2 y3 y4 y5 y6 y7 y8 y9 y10 y11 y12 y13 y14 y15 y16 y17, LeO (conf_placed.l2 k y0 y1 y2 y3 y4 y5 y6 y7 y8 y9 y10 y11 y12 y13 y14 y15 y16 y17) (conf_placed.l2 (k + 1) y0 y1 y2 y3 y4 y5 y6 y7 y8 y9 y10 y11 y12 y13 y14 y15 y16 y17))
  | 0 => ⟨fun _ _ _ _ _ _ r h => by simp [conf_placed.l0] at h, fun _ _ _ _ _ _ _ _ _ _ _ _ _ _ _ _ _ _ r h => by simp [conf_placed.l1] at h, fun _ _ _ _ _ _ _ _ _ _ _ _ _ _ _ _ _ _ r h => by simp [conf_placed.l2] at h⟩
  | k + 1 => by
    obtain ⟨ih0, ih1, ih2⟩ := conf_placed.mono_l k
    refine ⟨?_, ?_, ?_⟩
    · intro y0 y1 y2 y3 y4 y5
      unfold conf_placed.l0
      repeat' first
      | (with_reducible exact ih0 _ _ _ _ _ _)
      | (with_reducible exact ih1 _ _ _ _ _ _ _ _ _ _ _ _ _ _ _ _ _ _)
      | (with_reducible exact ih2 _ _ _ _ _ _ _ _ _ _ _ _ _ _ _ _ _ _)
      | (with_reducible exact conf_spots.mono _ _ _ _)
      | (with_reducible exact LeO.refl _)
      | (with_reducible exact LeO.none _)
      | (with_reducible refine LeO.ite ?_ ?_)
      | (with_reducible refine LeO.bind ?_ (fun _ => ?_))
    · intro y0 y1 y2 y3 y4 y5 y6 y7 y8 y9 y10 y11 y12 y13 y14 y15 y16 y17
      unfold conf_placed.l1
      repeat' first
      | (with_reducible exact ih0 _ _ _ _ _ _)
      | (with_reducible exact ih1 _ _ _ _ _ _ _ _ _ _ _ _ _ _ _ _ _ _)
      | (with_reducible exact ih2 _ _ _ _ _ _ _ _ _ _ _ _ _ _ _ _ _ _)
      | (with_reducible exact conf_spots.mono _ _ _ _)
      | (with_reducible exact LeO.refl _)
      | (with_reducible exact LeO.none _)
      | (with_reducible refine LeO.ite ?_ ?_)
      | (with_reducible refine LeO.bind ?_ (fun _ => ?_))
    · intro y0 y1 y2 y3 y4 y5 y6 y7 y8 y9 y10 y11 y12 y13 y14 y15 y16 y17
      unfold conf_placed.l2
      repeat' first
      | (with_reducible exact ih0 _ _ _ _ _ _)
      | (with_reducible exact ih1 _ _ _ _ _ _ _ _ _ _ _ _ _ _ _ _ _ _)
      | (with_reducible exact ih2 _ _ _ _ _ _ _ _ _ _ _ _ _ _ _ _ _ _)
      | (with_reducible exact conf_spots.mono _ _ _ _)
      | (with_reducible exact LeO.refl _)
      | (with_reducible exact LeO.none _)
      | (with_reducible refine LeO.ite ?_ ?_)
      | (with_reducible refine LeO.bind ?_ (fun _ => ?_))
theorem conf_placed.mono : ∀ a0 a1 a2 k, LeO (conf_placed.f k a0 a1 a2) (conf_placed.f (k + 1) a0 a1 a2) := by
 intro a0 a1 a2 k
 obtain ⟨ih0, ih1, ih2⟩ := conf_placed.mono_l k
 unfold conf_placed.f
 repeat' first
  | (with_reducible exact ih0 _ _ _ _ _ _)
  | (with_reducible exact ih1 _ _ _ _ _ _ _ _ _ _ _ _ _ _ _ _ _ _)
  | (with_reducible exact ih2 _ _ _ _ _ _ _ _ _ _ _ _ _ _ _ _ _ _)
  | (with_reducible exact conf_spots.mono _ _ _ _)
  | (with_reducible exact LeO.refl _)
  | (with_reducible exact LeO.none _)
  | (with_reducible refine LeO.ite ?_ ?_)
  | (with_reducible refine LeO.bind ?_ (fun _ => ?_))
set_option maxHeartbeats 8000000 in
set_option maxRecDepth 100000 in
theorem conf_placed.calls (k : Nat) (a0_0 : Int) (a0_1 : Int) (A0_2 : Option Addr) (c0_2 : Nat) (l0_2 : List (S41)) (r : Bool) (w : World) (hr0_2 : Kd.C k41 w A0_2 l0_2.length l0_2) (hc0_2 : l0_2.length ≤ c0_2) (h : conf_placed.f k a0_0 a0_1 l0_2 = some r) :
    Calls Try.prog 41 #[.agg #[.int .i64 a0_0, .int .i64 a0_1, .slice A0_2 l0_2.length c0_2]] w fun e w' => e = .returned (.bool r) ∧ Below w.heap.size w w' := by
 have hu24 := Try.underlying24
 have hu66 := Try.underlying66
 have hu62 := Try.underlying62
 have hu57 := Try.underlying57
 have hu59 := Try.underlying59
 have HR0_2 := Aside0.mk hr0_2
 have HC0_2 := Aside0.mk hc0_2
 clear hr0_2 hc0_2
 have HB := Aside0.mk (Below.refl w.heap.size w)
 have H : ((conf_spots.f k a0_0 a0_1 l0_2).bind fun t151 => (conf_placed.l0 k t151 (t151.length : Int) 0 a0_0 a0_1 l0_2)) = some r := h
 clear h
 replace H := Option.bind_eq_some_iff.mp H
 obtain ⟨t151, A20, H⟩ := H
 replace H : (conf_placed.l0 k t151 (t151.length : Int) 0 a0_0 a0_1 l0_2) = some r := H
 have A2 := Aside0.mk A20
 clear A20
 have H' := Aside0.mk H
 clear H
 go_enter Try.func41, Try.ntmps41
 go_wp2_with (first | ((with_reducible refine gate_dst (N := 1) rfl ?_); refine box_event rfl (N := 1) rfl (cs := #[.int .i64 a0_0, .int .i64 a0_1, .slice A0_2 l0_2.length c0_2]) (t := 24) sqs ?_; intro gb150 hg w3 hbox hb; have BK150 := sqM (hbox); have GW150 := sqM (sqZ hg (sqB HB.out)); have GE150 := sqM (sqZ hg (sqB HB.out)); replace HB := sqM (below_step (sqB HB.out) hb); clear hb hbox hg; obtain ⟨hcz4_0, hcz4_1, hcz4_2, hfz4_0, hfz4_1, hfz4_2⟩ := sqF3 BK150.out) | ((with_reducible refine gate_callee (f := 66) rfl ?_); refine goesL_ (some 10) rfl rfl Try.func66 (by kernel_rfl) rfl #[.agg #[.int .i64 a0_0, .int .i64 a0_1, .slice A0_2 l0_2.length c0_2]] rfl sqA ?_; (with_reducible refine (conf_spots.calls _ _ _ (fun k_ => k_ < w.heap.size) _ _ _ _ _ ?side1 A2.out).mono ?_); (case side1 => exact Kd.V_mk HC0_2.out (Kd.F_below (Kd.C_F k41_heap HR0_2.out) (sqB1 HB.out GE150.out))); rintro e w5 ⟨v152, rfl, ho0, hb⟩; refine ⟨_, rfl, ?_⟩; have HO153 := sqM (Kd.N_lower (Kd.N_mono (ok' := fun k_ => k_ ≠ gb150) ho0 (fun k_ hk_ => Or.elim hk_ (fun hs_ => fun e_ => Nat.not_le.2 hs_ (by rw [e_]; exact GW150.out)) (fun hn_ => (Kd.freshB (g := gb150) (o := .cells #[.int .i64 a0_0, .int .i64 a0_1, .slice A0_2 l0_2.length c0_2] 24 (0, 0)) (sqK BK150.out) k_ hn_)))) (below_size (sqB1 HB.out GE150.out))); replace BK150 := sqM (blk_below (sqK BK150.out) hb); replace HB := sqM (below_step (sqB1 HB.out GE150.out) hb); (try clear hb); (try clear hb2); (try clear hk); (try clear hi); (try clear ho0); obtain ⟨Ao6, co6, eo6⟩ := Kd.N_slice HO153.out; subst eo6))
 go_loopg [12] k (fun kq v12 w' => ∃ (x12_1 : Int), v12 = .int .i64 x12_1 ∧ Aside0 (conf_placed.l0 kq t151 (t151.length : Int) x12_1 a0_0 a0_1 l0_2 = some r) ∧ Aside0 (kq ≤ k) ∧ Aside0 (Kd.N k66 66 w' w.heap.size (fun k_ => k_ ≠ gb150) (.slice Ao6 t151.length co6) t151) ∧ Aside0 (w'.heap[gb150]? = some (.cells #[.int .i64 a0_0, .int .i64 a0_1, (.slice A0_2 l0_2.length c0_2)] 24 (0, 0))) ∧ Aside0 (Below w.heap.size w w'))
 case atStart => exact ⟨(0), sqI, H', ⟨Nat.le_refl _⟩, ⟨sqN HO153.out⟩, ⟨sqK BK150.out⟩, ⟨sqB1 HB.out GE150.out⟩⟩
 clear H'
 try clear p2
 try clear c4
 try clear c6
 try clear hcz4_0 hcz4_1 hcz4_2 hfz4_0 hfz4_1 hfz4_2
 obtain ⟨x12_1, rfl, HA, HK1, HO_10, BK150, HB⟩ := hrel
 cases gk with
 | zero => exact absurd HA.out (by simp [conf_placed.l0])
 | succ k1 => ?_
 have H := HA.out
 clear HA
 simp only [conf_placed.l0] at H
 by_cases c7 : x12_1 < (t151.length : Int)
 rotate_left
 · rw [if_neg c7] at H
   have c7b0 : decide (x12_1 < (t151.length : Int)) = false := decide_eq_false c7
   clear c7
   obtain rfl := Option.some.inj H
   go_wp2
   go_ret
   exact ⟨sqE, sqB1 HB.out GE150.out⟩
 rw [if_pos c7] at H
 have c7b0 : decide (x12_1 < (t151.length : Int)) = true := decide_eq_true c7
 clear c7
 by_cases c8 : 0 ≤ x12_1
 rotate_left
 · rw [if_neg c8] at H
   exact absurd H (by simp)
 rw [if_pos c8] at H
 have c8b0 : decide (0 ≤ x12_1) = true := decide_eq_true c8
 clear c8
 by_cases c9 : x12_1 < (t151.length : Int)
 rotate_left
 · rw [if_neg c9] at H
   exact absurd H (by simp)
 rw [if_pos c9] at H
 have c9b0 : decide (x12_1 < (t151.length : Int)) = true := decide_eq_true c9
 clear c9
 have H' := Aside0.mk H
 clear H
 have p154 : 0 ≤ (x12_1 : Int) := of_decide_eq_true sqH
 have q154 : x12_1 < (t151.length : Int) := of_decide_eq_true sqH
 obtain ⟨ad154, A154_4, c154_4, A154_5, c154_5, e154, hx154_0, hx154_1, hx154_2, hx154_3, hx154_4, hx154_5, hx154_6, hx154_7, hx154_8, hl154_4, hi154_4, hl154_5, hi154_5⟩ := at_T66 (Kd.N_reads' HO_10.out).2.2 x12_1 p154 q154
 cases e154
 obtain ⟨ce154, hce154, hMe154, hcc154⟩ := Kd.N_get HO_10.out z66 x12_1 p154 (by first | exact q154 | exact of_decide_eq_true sqH | (have e_ := (Kd.N_reads' HO_10.out).1; omega))
 obtain ⟨ua154_4, uc154_4, ua154_5, uc154_5, rfl, ul154_4, ge154_4, ul154_5, ge154_5⟩ := k66_openF hMe154
 have hv154_4 := hcc154 4 _ rfl
 rw [add_field _ _ 4 (by omega)] at hv154_4
 replace hv154_4 := Option.some.inj (hv154_4.symm.trans hx154_4)
 injection hv154_4 with hva_ hvn_ hvc_
 rw [hva_] at ge154_4
 rw [hvc_] at ul154_4
 have HL154_4 := sqM (show Kd.V k62 62 _ w.heap.size _ _ ((rd_T66 t151 x12_1).f2.f2) from Kd.V_mk ul154_4 ge154_4)
 clear hva_ hvn_ hvc_ ge154_4 ul154_4
 have hv154_5 := hcc154 5 _ rfl
 rw [add_field _ _ 5 (by omega)] at hv154_5
 replace hv154_5 := Option.some.inj (hv154_5.symm.trans hx154_5)
 injection hv154_5 with hva_ hvn_ hvc_
 rw [hva_] at ge154_5
 rw [hvc_] at ul154_5
 have HL154_5 := sqM (show Kd.V k59 59 _ w.heap.size _ _ ((rd_T66 t151 x12_1).f2.f3) from Kd.V_mk ul154_5 ge154_5)
 clear hva_ hvn_ hvc_ ge154_5 ul154_5
 clear hcc154 hce154
 have HR154_4 := Aside0.mk hi154_4
 have HC154_4 := Aside0.mk hl154_4
 clear hi154_4 hl154_4
 have HR154_5 := Aside0.mk hi154_5
 have HC154_5 := Aside0.mk hl154_5
 clear hi154_5 hl154_5
 replace p154 := eq_true p154
 replace q154 := eq_true q154
 go_wp2_with (first | ((with_reducible refine gate_dst (N := 4) rfl ?_); refine box_event rfl (N := 4) rfl (cs := #[.int .i64 0, .int .i64 0, .int .i64 0, .int .i64 0, .slice none 0 0, .slice none 0 0, .int .i64 0, .int .i64 0, .int .i64 0]) (t := 66) sqs ?_; intro gb155 hg w10 hbox hb; have BK155 := sqM (hbox); have GW155 := sqM (sqZ hg (sqB1 HB.out GE150.out)); have GE155 := sqM (sqZ hg (sqB1 HB.out GE150.out)); have NB150_155 := sqM (sqL hg (sqK BK150.out)); have NB155_150 := sqM (sqG hg (sqK BK150.out)); replace HO_10 := sqM (sqNe (sqN HO_10.out) hg hb); replace HL154_4 := sqM (sqVe (sqV HL154_4.out) hg hb); replace HL154_5 := sqM (sqVe (sqV HL154_5.out) hg hb); replace BK150 := sqM (blk_below (sqK BK150.out) hb); replace HR154_4 := sqM (Kd.C_below (sqC HR154_4.out) hb); replace HR154_5 := sqM (Kd.C_below (sqC HR154_5.out) hb); replace HB := sqM (below_step (sqB1 HB.out GE150.out) hb); clear hb hbox hg; have hnb11 := NB155_150.out; have hnc11 := NB150_155.out; obtain ⟨hcz12_0, hcz12_1, hcz12_2, hcz12_3, hcz12_4, hcz12_5, hcz12_6, hcz12_7, hcz12_8, hfz12_0, hfz12_1, hfz12_2, hfz12_3, hfz12_4, hfz12_5, hfz12_6, hfz12_7, hfz12_8⟩ := sqF9 BK155.out))
 go_loopg [20] k1 (fun kq v20 w' => ∃ (x20_2 : Int), v20 = .int .i64 x20_2 ∧ Aside0 (conf_placed.l1 kq t151 (t151.length : Int) x12_1 ((rd_T66 t151 x12_1).f2.f2) (((rd_T66 t151 x12_1).f2.f2).length : Int) x20_2 a0_0 a0_1 l0_2 ((rd_T66 t151 x12_1).f0) ((rd_T66 t151 x12_1).f1) ((rd_T66 t151 x12_1).f2.f0) ((rd_T66 t151 x12_1).f2.f1) ((rd_T66 t151 x12_1).f2.f2) ((rd_T66 t151 x12_1).f2.f3) ((rd_T66 t151 x12_1).f2.f4) ((rd_T66 t151 x12_1).f2.f5) ((rd_T66 t151 x12_1).f2.f6) = some r) ∧ Aside0 (kq ≤ k1) ∧ Aside0 (Kd.N k66 66 w' w.heap.size (fun k_ => k_ ≠ gb150 ∧ k_ ≠ gb155) (.slice (some ad154) t151.length co6) t151) ∧ Aside0 (Kd.V k62 62 w' w.heap.size (fun k_ => some k_ ≠ ((.slice (some ad154) t151.length co6) : Value).ownBlock ∧ k_ ≠ gb150 ∧ k_ ≠ gb155) (.slice A154_4 ((rd_T66 t151 x12_1).f2.f2).length c154_4) ((rd_T66 t151 x12_1).f2.f2)) ∧ Aside0 (Kd.V k62 62 w' w.heap.size (fun k_ => some k_ ≠ ((.slice (some ad154) t151.length co6) : Value).ownBlock ∧ k_ ≠ gb150 ∧ k_ ≠ gb155) (.slice A154_4 ((rd_T66 t151 x12_1).f2.f2).length c154_4) ((rd_T66 t151 x12_1).f2.f2)) ∧ Aside0 (Kd.V k59 59 w' w.heap.size (fun k_ => some k_ ≠ ((.slice (some ad154) t151.length co6) : Value).ownBlock ∧ k_ ≠ gb150 ∧ k_ ≠ gb155) (.slice A154_5 ((rd_T66 t151 x12_1).f2.f3).length c154_5) ((rd_T66 t151 x12_1).f2.f3)) ∧ Aside0 (w'.heap[gb150]? = some (.cells #[.int .i64 a0_0, .int .i64 a0_1, (.slice A0_2 l0_2.length c0_2)] 24 (0, 0))) ∧ Aside0 (w'.heap[gb155]? = some (.cells #[.int .i64 ((rd_T66 t151 x12_1).f0), .int .i64 ((rd_T66 t151 x12_1).f1), .int .i64 ((rd_T66 t151 x12_1).f2.f0), .int .i64 ((rd_T66 t151 x12_1).f2.f1), (.slice A154_4 ((rd_T66 t151 x12_1).f2.f2).length c154_4), (.slice A154_5 ((rd_T66 t151 x12_1).f2.f3).length c154_5), .int .i64 ((rd_T66 t151 x12_1).f2.f4), .int .i64 ((rd_T66 t151 x12_1).f2.f5), .int .i64 ((rd_T66 t151 x12_1).f2.f6)] 66 (0, 0))) ∧ Aside0 (Below w.heap.size w w'))
 case atStart => exact ⟨(0), sqI, H', ⟨Nat.le_refl _⟩, ⟨by refine sqN ?_; exact Kd.N_mono (sqN9 (Kd.N_mono HO_10.out (fun k_ hk => (⟨hk, hk.2⟩ : _ ∧ k_ ≠ gb155))) (fun _ hk => hk.2)) (fun _ hk => ⟨hk.1.1, hk.1.2⟩)⟩, ⟨by refine sqV ?_; exact Kd.V_mono (sqV9 (Kd.V_mono HL154_4.out (fun k_ hk => (⟨hk, hk.2⟩ : _ ∧ k_ ≠ gb155))) (fun _ hk => hk.2)) (fun _ hk => ⟨hk.1.1.2, ⟨hk.1.1.1, hk.1.2⟩⟩)⟩, ⟨by refine sqV ?_; exact Kd.V_mono (sqV9 (Kd.V_mono HL154_4.out (fun k_ hk => (⟨hk, hk.2⟩ : _ ∧ k_ ≠ gb155))) (fun _ hk => hk.2)) (fun _ hk => ⟨hk.1.1.2, ⟨hk.1.1.1, hk.1.2⟩⟩)⟩, ⟨by refine sqV ?_; exact Kd.V_mono (sqV9 (Kd.V_mono HL154_5.out (fun k_ hk => (⟨hk, hk.2⟩ : _ ∧ k_ ≠ gb155))) (fun _ hk => hk.2)) (fun _ hk => ⟨hk.1.1.2, ⟨hk.1.1.1, hk.1.2⟩⟩)⟩, ⟨(sqK (sqX9 BK150.out NB150_155.out))⟩, ⟨(sqK (sqP9 BK155.out))⟩, ⟨sqB2 HB.out GE150.out GE155.out⟩⟩
 clear H'
 try clear c1
 try clear p1
 try clear q1
 try clear hx1
 try clear p2
 try clear c4
 try clear c6
 try clear c7
 try clear c7b0
 try clear c8
 try clear c8b0
 try clear c9
 try clear c9b0
 try clear c11
 try clear hcz12_0 hcz12_1 hcz12_2 hcz12_3 hcz12_4 hcz12_5 hcz12_6 hcz12_7 hcz12_8
 try clear hcz4_0 hcz4_1 hcz4_2
 try clear hfz12_0 hfz12_1 hfz12_2 hfz12_3 hfz12_4 hfz12_5 hfz12_6 hfz12_7 hfz12_8
 try clear hfz4_0 hfz4_1 hfz4_2
 try clear hx154_0 hx154_1 hx154_2 hx154_3 hx154_4 hx154_5 hx154_6 hx154_7 hx154_8
 try clear p154
 try clear p2
 try clear q154
 obtain ⟨x20_2, rfl, HA, HK2, HO_10, HO_18, HO_156004, HO_156005, BK150, BK155, HB⟩ := hrel
 cases gk with
 | zero => exact absurd HA.out (by simp [conf_placed.l1])
 | succ k2 => ?_
 have H := HA.out
 clear HA
 simp only [conf_placed.l1] at H
 by_cases c13 : x20_2 < (((rd_T66 t151 x12_1).f2.f2).length : Int)
 · rw [if_pos c13] at H
   have c13b0 : decide (x20_2 < (((rd_T66 t151 x12_1).f2.f2).length : Int)) = true := decide_eq_true c13
   clear c13
   by_cases c14 : 0 ≤ x20_2
   rotate_left
   · rw [if_neg c14] at H
     exact absurd H (by simp)
   rw [if_pos c14] at H
   have c14b0 : decide (0 ≤ x20_2) = true := decide_eq_true c14
   clear c14
   by_cases c15 : x20_2 < (((rd_T66 t151 x12_1).f2.f2).length : Int)
   rotate_left
   · rw [if_neg c15] at H
     exact absurd H (by simp)
   rw [if_pos c15] at H
   have c15b0 : decide (x20_2 < (((rd_T66 t151 x12_1).f2.f2).length : Int)) = true := decide_eq_true c15
   clear c15
   replace H := Option.bind_eq_some_iff.mp H
   obtain ⟨t158, A160, H⟩ := H
   replace H : (if t158 = true then ((conf_inside.f ((rd_T66 t151 x12_1).f2.f0) ((rd_T66 t151 x12_1).f2.f1) ((rd_T66 t151 x12_1).f2.f2) ((rd_T66 t151 x12_1).f2.f3) ((rd_T66 t151 x12_1).f2.f4) ((rd_T66 t151 x12_1).f2.f5) ((rd_T66 t151 x12_1).f2.f6) ((rd_T62 ((rd_T66 t151 x12_1).f2.f2) x20_2).f1)).bind fun t159 => (if t159 = true then ((conf_has.f ((rd_T62 ((rd_T66 t151 x12_1).f2.f2) x20_2).f0) ((rd_T62 ((rd_T66 t151 x12_1).f2.f2) x20_2).f1) a0_0).bind fun t160 => (if t160 = true then (some false) else (conf_placed.l1 k2 t151 (t151.length : Int) x12_1 ((rd_T66 t151 x12_1).f2.f2) (((rd_T66 t151 x12_1).f2.f2).length : Int) (wrap64 (x20_2 + 1)) a0_0 a0_1 l0_2 ((rd_T66 t151 x12_1).f0) ((rd_T66 t151 x12_1).f1) ((rd_T66 t151 x12_1).f2.f0) ((rd_T66 t151 x12_1).f2.f1) ((rd_T66 t151 x12_1).f2.f2) ((rd_T66 t151 x12_1).f2.f3) ((rd_T66 t151 x12_1).f2.f4) ((rd_T66 t151 x12_1).f2.f5) ((rd_T66 t151 x12_1).f2.f6)))) else (some false))) else (some false)) = some r := H
   have A16 := Aside0.mk A160
   clear A160
   by_cases c17 : t158 = true
   rotate_left
   · replace c17 := Bool.eq_false_iff.mpr c17
     subst c17
     have H1 : (some false) = some r := by rw [if_neg (show ¬ (false = true) by decide)] at H; exact H
     clear H
     have H := H1
     clear H1
     obtain rfl := Option.some.inj H
     have p156 : 0 ≤ (x20_2 : Int) := of_decide_eq_true sqH
     have q156 : x20_2 < (((rd_T66 t151 x12_1).f2.f2).length : Int) := of_decide_eq_true sqH
     obtain ⟨ad156, e156, hx156_0, hx156_1⟩ := at_T62 (Kd.V_reads' HO_18.out).2.2 x20_2 p156 q156
     cases e156
     replace p156 := eq_true p156
     replace q156 := eq_true q156
     go_wp2_with (first | ((with_reducible refine gate_dst (N := 6) rfl ?_); refine box_event rfl (N := 6) rfl (cs := #[.int .i64 0, .int .i64 0]) (t := 62) sqs ?_; intro gb157 hg w58 hbox hb; have BK157 := sqM (hbox); have GW157 := sqM (sqZ hg (sqB2 HB.out GE150.out GE155.out)); have GE157 := sqM (sqZ hg (sqB2 HB.out GE150.out GE155.out)); have NB150_157 := sqM (sqL hg (sqK BK150.out)); have NB157_150 := sqM (sqG hg (sqK BK150.out)); have NB155_157 := sqM (sqL hg (sqK BK155.out)); have NB157_155 := sqM (sqG hg (sqK BK155.out)); replace HO_10 := sqM (sqNe (sqN HO_10.out) hg hb); replace HO_18 := sqM (sqVe (sqV HO_18.out) hg hb); replace HO_156004 := sqM (sqVe (sqV HO_156004.out) hg hb); replace HO_156005 := sqM (sqVe (sqV HO_156005.out) hg hb); replace BK150 := sqM (blk_below (sqK BK150.out) hb); replace BK155 := sqM (blk_below (sqK BK155.out) hb); replace HB := sqM (below_step (sqB2 HB.out GE150.out GE155.out) hb); clear hb hbox hg; have hnb59 := NB157_150.out; have hnc59 := NB150_157.out; have hnb60 := NB157_155.out; have hnc60 := NB155_157.out; obtain ⟨hcz61_0, hcz61_1, hfz61_0, hfz61_1⟩ := sqF2 BK157.out; have hnb62 := NB155_150.out; have hnc62 := NB150_155.out; obtain ⟨hcz63_0, hcz63_1, hcz63_2, hcz63_3, hcz63_4, hcz63_5, hcz63_6, hcz63_7, hcz63_8, hfz63_0, hfz63_1, hfz63_2, hfz63_3, hfz63_4, hfz63_5, hfz63_6, hfz63_7, hfz63_8⟩ := sqF9 BK155.out) | ((with_reducible refine gate_callee (f := 68) rfl ?_); refine goesL_ (some 28) rfl rfl Try.func68 (by kernel_rfl) rfl #[.agg #[.int .i64 ((rd_T66 t151 x12_1).f2.f0), .int .i64 ((rd_T66 t151 x12_1).f2.f1), .slice (some ad156) ((rd_T66 t151 x12_1).f2.f2).length c154_4, .slice A154_5 ((rd_T66 t151 x12_1).f2.f3).length c154_5, .int .i64 ((rd_T66 t151 x12_1).f2.f4), .int .i64 ((rd_T66 t151 x12_1).f2.f5), .int .i64 ((rd_T66 t151 x12_1).f2.f6)], .int .i64 ((rd_T62 ((rd_T66 t151 x12_1).f2.f2) x20_2).f0)] rfl sqA ?_; (with_reducible refine (conf_inside.calls _ _ _ _ _ _ _ _ _ _ _ _ _ _ ?side1 ?side2 ?side3 ?side4 A16.out).mono ?_); (case side1 => refine (Kd.V_reads' (e := 62) (base := w.heap.size) (ok := fun k_ => ((some k_ ≠ (.slice (some ad154) t151.length co6 : Value).ownBlock ∧ (k_ ≠ gb150 ∧ k_ ≠ gb155)) ∧ k_ ≠ gb157)) (n := ((rd_T66 t151 x12_1).f2.f2).length) (c := c154_4) ?_).2.2; exact (by refine sqV ?_; exact (sqV2 HO_156004.out (fun k_ hk => hk.2)))); (case side2 => exact (Kd.V_reads' HO_156004.out).2.1); (case side3 => refine (Kd.V_reads' (e := 59) (base := w.heap.size) (ok := fun k_ => ((some k_ ≠ (.slice (some ad154) t151.length co6 : Value).ownBlock ∧ (k_ ≠ gb150 ∧ k_ ≠ gb155)) ∧ k_ ≠ gb157)) (n := ((rd_T66 t151 x12_1).f2.f3).length) (c := c154_5) ?_).2.2; exact (by refine sqV ?_; exact (sqV2 HO_156005.out (fun k_ hk => hk.2)))); (case side4 => exact (Kd.V_reads' HO_156005.out).2.1); rintro e w64 ⟨rfl, hb⟩; refine ⟨_, rfl, ?_⟩; replace HO_10 := sqM (Kd.N_below (by refine sqN ?_; exact (sqN2 HO_10.out (fun k_ hk => hk.2))) hb); replace HO_18 := sqM (Kd.V_below (by refine sqV ?_; exact (sqV2 HO_18.out (fun k_ hk => hk.2))) hb); replace HO_156004 := sqM (Kd.V_below (by refine sqV ?_; exact (sqV2 HO_156004.out (fun k_ hk => hk.2))) hb); replace HO_156005 := sqM (Kd.V_below (by refine sqV ?_; exact (sqV2 HO_156005.out (fun k_ hk => hk.2))) hb); replace BK150 := sqM (blk_below (sqK (sqX2 BK150.out NB150_157.out)) hb); replace BK155 := sqM (blk_below (sqK (sqX2 BK155.out NB155_157.out)) hb); replace BK157 := sqM (blk_below (sqK (sqP2 BK157.out)) hb); replace HB := sqM (below_step (sqB3 HB.out GE150.out GE155.out GE157.out) hb); (try clear hb); (try clear hb2); (try clear hk); (try clear hi)))
     go_ret
     exact ⟨sqE, sqB3 HB.out GE150.out GE155.out GE157.out⟩
   subst c17
   have H1 : ((conf_inside.f ((rd_T66 t151 x12_1).f2.f0) ((rd_T66 t151 x12_1).f2.f1) ((rd_T66 t151 x12_1).f2.f2) ((rd_T66 t151 x12_1).f2.f3) ((rd_T66 t151 x12_1).f2.f4) ((rd_T66 t151 x12_1).f2.f5) ((rd_T66 t151 x12_1).f2.f6) ((rd_T62 ((rd_T66 t151 x12_1).f2.f2) x20_2).f1)).bind fun t159 => (if t159 = true then ((conf_has.f ((rd_T62 ((rd_T66 t151 x12_1).f2.f2) x20_2).f0) ((rd_T62 ((rd_T66 t151 x12_1).f2.f2) x20_2).f1) a0_0).bind fun t160 => (if t160 = true then (some false) else (conf_placed.l1 k2 t151 (t151.length : Int) x12_1 ((rd_T66 t151 x12_1).f2.f2) (((rd_T66 t151 x12_1).f2.f2).length : Int) (wrap64 (x20_2 + 1)) a0_0 a0_1 l0_2 ((rd_T66 t151 x12_1).f0) ((rd_T66 t151 x12_1).f1) ((rd_T66 t151 x12_1).f2.f0) ((rd_T66 t151 x12_1).f2.f1) ((rd_T66 t151 x12_1).f2.f2) ((rd_T66 t151 x12_1).f2.f3) ((rd_T66 t151 x12_1).f2.f4) ((rd_T66 t151 x12_1).f2.f5) ((rd_T66 t151 x12_1).f2.f6)))) else (some false))) = some r := by rw [if_pos rfl] at H; exact H
   clear H
   have H := H1
   clear H1
   replace H := Option.bind_eq_some_iff.mp H
   obtain ⟨t159, A180, H⟩ := H
   replace H : (if t159 = true then ((conf_has.f ((rd_T62 ((rd_T66 t151 x12_1).f2.f2) x20_2).f0) ((rd_T62 ((rd_T66 t151 x12_1).f2.f2) x20_2).f1) a0_0).bind fun t160 => (if t160 = true then (some false) else (conf_placed.l1 k2 t151 (t151.length : Int) x12_1 ((rd_T66 t151 x12_1).f2.f2) (((rd_T66 t151 x12_1).f2.f2).length : Int) (wrap64 (x20_2 + 1)) a0_0 a0_1 l0_2 ((rd_T66 t151 x12_1).f0) ((rd_T66 t151 x12_1).f1) ((rd_T66 t151 x12_1).f2.f0) ((rd_T66 t151 x12_1).f2.f1) ((rd_T66 t151 x12_1).f2.f2) ((rd_T66 t151 x12_1).f2.f3) ((rd_T66 t151 x12_1).f2.f4) ((rd_T66 t151 x12_1).f2.f5) ((rd_T66 t151 x12_1).f2.f6)))) else (some false)) = some r := H
   have A18 := Aside0.mk A180
   clear A180
   by_cases c19 : t159 = true
   rotate_left
   · replace c19 := Bool.eq_false_iff.mpr c19
     subst c19
     have H1 : (some false) = some r := by rw [if_neg (show ¬ (false = true) by decide)] at H; exact H
     clear H
     have H := H1
     clear H1
     obtain rfl := Option.some.inj H
     have p156 : 0 ≤ (x20_2 : Int) := of_decide_eq_true sqH
     have q156 : x20_2 < (((rd_T66 t151 x12_1).f2.f2).length : Int) := of_decide_eq_true sqH
     obtain ⟨ad156, e156, hx156_0, hx156_1⟩ := at_T62 (Kd.V_reads' HO_18.out).2.2 x20_2 p156 q156
     cases e156
     replace p156 := eq_true p156
     replace q156 := eq_true q156
     go_wp2_with (first | ((with_reducible refine gate_dst (N := 6) rfl ?_); refine box_event rfl (N := 6) rfl (cs := #[.int .i64 0, .int .i64 0]) (t := 62) sqs ?_; intro gb157 hg w48 hbox hb; have BK157 := sqM (hbox); have GW157 := sqM (sqZ hg (sqB2 HB.out GE150.out GE155.out)); have GE157 := sqM (sqZ hg (sqB2 HB.out GE150.out GE155.out)); have NB150_157 := sqM (sqL hg (sqK BK150.out)); have NB157_150 := sqM (sqG hg (sqK BK150.out)); have NB155_157 := sqM (sqL hg (sqK BK155.out)); have NB157_155 := sqM (sqG hg (sqK BK155.out)); replace HO_10 := sqM (sqNe (sqN HO_10.out) hg hb); replace HO_18 := sqM (sqVe (sqV HO_18.out) hg hb); replace HO_156004 := sqM (sqVe (sqV HO_156004.out) hg hb); replace HO_156005 := sqM (sqVe (sqV HO_156005.out) hg hb); replace BK150 := sqM (blk_below (sqK BK150.out) hb); replace BK155 := sqM (blk_below (sqK BK155.out) hb); replace HB := sqM (below_step (sqB2 HB.out GE150.out GE155.out) hb); clear hb hbox hg; have hnb49 := NB157_150.out; have hnc49 := NB150_157.out; have hnb50 := NB157_155.out; have hnc50 := NB155_157.out; obtain ⟨hcz51_0, hcz51_1, hfz51_0, hfz51_1⟩ := sqF2 BK157.out; have hnb52 := NB155_150.out; have hnc52 := NB150_155.out; obtain ⟨hcz53_0, hcz53_1, hcz53_2, hcz53_3, hcz53_4, hcz53_5, hcz53_6, hcz53_7, hcz53_8, hfz53_0, hfz53_1, hfz53_2, hfz53_3, hfz53_4, hfz53_5, hfz53_6, hfz53_7, hfz53_8⟩ := sqF9 BK155.out) | ((with_reducible refine gate_callee (f := 68) rfl ?_); refine goesL_ (some 28) rfl rfl Try.func68 (by kernel_rfl) rfl #[.agg #[.int .i64 ((rd_T66 t151 x12_1).f2.f0), .int .i64 ((rd_T66 t151 x12_1).f2.f1), .slice (some ad156) ((rd_T66 t151 x12_1).f2.f2).length c154_4, .slice A154_5 ((rd_T66 t151 x12_1).f2.f3).length c154_5, .int .i64 ((rd_T66 t151 x12_1).f2.f4), .int .i64 ((rd_T66 t151 x12_1).f2.f5), .int .i64 ((rd_T66 t151 x12_1).f2.f6)], .int .i64 ((rd_T62 ((rd_T66 t151 x12_1).f2.f2) x20_2).f0)] rfl sqA ?_; (with_reducible refine (conf_inside.calls _ _ _ _ _ _ _ _ _ _ _ _ _ _ ?side1 ?side2 ?side3 ?side4 A16.out).mono ?_); (case side1 => refine (Kd.V_reads' (e := 62) (base := w.heap.size) (ok := fun k_ => ((some k_ ≠ (.slice (some ad154) t151.length co6 : Value).ownBlock ∧ (k_ ≠ gb150 ∧ k_ ≠ gb155)) ∧ k_ ≠ gb157)) (n := ((rd_T66 t151 x12_1).f2.f2).length) (c := c154_4) ?_).2.2; exact (by refine sqV ?_; exact (sqV2 HO_156004.out (fun k_ hk => hk.2)))); (case side2 => exact (Kd.V_reads' HO_156004.out).2.1); (case side3 => refine (Kd.V_reads' (e := 59) (base := w.heap.size) (ok := fun k_ => ((some k_ ≠ (.slice (some ad154) t151.length co6 : Value).ownBlock ∧ (k_ ≠ gb150 ∧ k_ ≠ gb155)) ∧ k_ ≠ gb157)) (n := ((rd_T66 t151 x12_1).f2.f3).length) (c := c154_5) ?_).2.2; exact (by refine sqV ?_; exact (sqV2 HO_156005.out (fun k_ hk => hk.2)))); (case side4 => exact (Kd.V_reads' HO_156005.out).2.1); rintro e w54 ⟨rfl, hb⟩; refine ⟨_, rfl, ?_⟩; replace HO_10 := sqM (Kd.N_below (by refine sqN ?_; exact (sqN2 HO_10.out (fun k_ hk => hk.2))) hb); replace HO_18 := sqM (Kd.V_below (by refine sqV ?_; exact (sqV2 HO_18.out (fun k_ hk => hk.2))) hb); replace HO_156004 := sqM (Kd.V_below (by refine sqV ?_; exact (sqV2 HO_156004.out (fun k_ hk => hk.2))) hb); replace HO_156005 := sqM (Kd.V_below (by refine sqV ?_; exact (sqV2 HO_156005.out (fun k_ hk => hk.2))) hb); replace BK150 := sqM (blk_below (sqK (sqX2 BK150.out NB150_157.out)) hb); replace BK155 := sqM (blk_below (sqK (sqX2 BK155.out NB155_157.out)) hb); replace BK157 := sqM (blk_below (sqK (sqP2 BK157.out)) hb); replace HB := sqM (below_step (sqB3 HB.out GE150.out GE155.out GE157.out) hb); (try clear hb); (try clear hb2); (try clear hk); (try clear hi); obtain ⟨hcz55_0, hcz55_1, hcz55_2, hcz55_3, hcz55_4, hcz55_5, hcz55_6, hcz55_7, hcz55_8, hfz55_0, hfz55_1, hfz55_2, hfz55_3, hfz55_4, hfz55_5, hfz55_6, hfz55_7, hfz55_8⟩ := sqF9 BK155.out; obtain ⟨hcz56_0, hcz56_1, hfz56_0, hfz56_1⟩ := sqF2 BK157.out) | (go_at_call 68; (with_reducible refine (conf_inside.calls _ _ _ _ _ _ _ _ _ _ _ _ _ _ ?side1 ?side2 ?side3 ?side4 A18.out).mono ?_); (case side1 => repeat (first | exact (Kd.V_reads' HO_156004.out).2.2 | (with_reducible refine Kd.C_alloc ?_ _) | (with_reducible refine Kd.C_drewN ?_ _) | (with_reducible refine Kd.C_drew ?_))); (case side2 => exact (Kd.V_reads' HO_156004.out).2.1); (case side3 => repeat (first | exact (Kd.V_reads' HO_156005.out).2.2 | (with_reducible refine Kd.C_alloc ?_ _) | (with_reducible refine Kd.C_drewN ?_ _) | (with_reducible refine Kd.C_drew ?_))); (case side4 => exact (Kd.V_reads' HO_156005.out).2.1); rintro e w57 ⟨rfl, hb⟩; replace HO_10 := sqM (Kd.N_below (sqN HO_10.out) hb); replace HO_18 := sqM (Kd.V_below (sqV HO_18.out) hb); replace HO_156004 := sqM (Kd.V_below (sqV HO_156004.out) hb); replace HO_156005 := sqM (Kd.V_below (sqV HO_156005.out) hb); replace BK150 := sqM (blk_below (sqK BK150.out) hb); replace BK155 := sqM (blk_below (sqK BK155.out) hb); replace BK157 := sqM (blk_below (sqK BK157.out) hb); replace HB := sqM (below_step (sqB3 HB.out GE150.out GE155.out GE157.out) hb); (try clear hb); (try clear hb2); (try clear hk); (try clear hi)))
     go_ret
     exact ⟨sqE, sqB3 HB.out GE150.out GE155.out GE157.out⟩
   subst c19
   have H1 : ((conf_has.f ((rd_T62 ((rd_T66 t151 x12_1).f2.f2) x20_2).f0) ((rd_T62 ((rd_T66 t151 x12_1).f2.f2) x20_2).f1) a0_0).bind fun t160 => (if t160 = true then (some false) else (conf_placed.l1 k2 t151 (t151.length : Int) x12_1 ((rd_T66 t151 x12_1).f2.f2) (((rd_T66 t151 x12_1).f2.f2).length : Int) (wrap64 (x20_2 + 1)) a0_0 a0_1 l0_2 ((rd_T66 t151 x12_1).f0) ((rd_T66 t151 x12_1).f1) ((rd_T66 t151 x12_1).f2.f0) ((rd_T66 t151 x12_1).f2.f1) ((rd_T66 t151 x12_1).f2.f2) ((rd_T66 t151 x12_1).f2.f3) ((rd_T66 t151 x12_1).f2.f4) ((rd_T66 t151 x12_1).f2.f5) ((rd_T66 t151 x12_1).f2.f6)))) = some r := by rw [if_pos rfl] at H; exact H
   clear H
   have H := H1
   clear H1
   replace H := Option.bind_eq_some_iff.mp H
   obtain ⟨t160, A200, H⟩ := H
   replace H : (if t160 = true then (some false) else (conf_placed.l1 k2 t151 (t151.length : Int) x12_1 ((rd_T66 t151 x12_1).f2.f2) (((rd_T66 t151 x12_1).f2.f2).length : Int) (wrap64 (x20_2 + 1)) a0_0 a0_1 l0_2 ((rd_T66 t151 x12_1).f0) ((rd_T66 t151 x12_1).f1) ((rd_T66 t151 x12_1).f2.f0) ((rd_T66 t151 x12_1).f2.f1) ((rd_T66 t151 x12_1).f2.f2) ((rd_T66 t151 x12_1).f2.f3) ((rd_T66 t151 x12_1).f2.f4) ((rd_T66 t151 x12_1).f2.f5) ((rd_T66 t151 x12_1).f2.f6))) = some r := H
   have A20 := Aside0.mk A200
   clear A200
   by_cases c21 : t160 = true
   · subst c21
     have H1 : (some false) = some r := by rw [if_pos rfl] at H; exact H
     clear H
     have H := H1
     clear H1
     obtain rfl := Option.some.inj H
     have p156 : 0 ≤ (x20_2 : Int) := of_decide_eq_true sqH
     have q156 : x20_2 < (((rd_T66 t151 x12_1).f2.f2).length : Int) := of_decide_eq_true sqH
     obtain ⟨ad156, e156, hx156_0, hx156_1⟩ := at_T62 (Kd.V_reads' HO_18.out).2.2 x20_2 p156 q156
     cases e156
     replace p156 := eq_true p156
     replace q156 := eq_true q156
     go_wp2_with (first | ((with_reducible refine gate_dst (N := 6) rfl ?_); refine box_event rfl (N := 6) rfl (cs := #[.int .i64 0, .int .i64 0]) (t := 62) sqs ?_; intro gb157 hg w22 hbox hb; have BK157 := sqM (hbox); have GW157 := sqM (sqZ hg (sqB2 HB.out GE150.out GE155.out)); have GE157 := sqM (sqZ hg (sqB2 HB.out GE150.out GE155.out)); have NB150_157 := sqM (sqL hg (sqK BK150.out)); have NB157_150 := sqM (sqG hg (sqK BK150.out)); have NB155_157 := sqM (sqL hg (sqK BK155.out)); have NB157_155 := sqM (sqG hg (sqK BK155.out)); replace HO_10 := sqM (sqNe (sqN HO_10.out) hg hb); replace HO_18 := sqM (sqVe (sqV HO_18.out) hg hb); replace HO_156004 := sqM (sqVe (sqV HO_156004.out) hg hb); replace HO_156005 := sqM (sqVe (sqV HO_156005.out) hg hb); replace BK150 := sqM (blk_below (sqK BK150.out) hb); replace BK155 := sqM (blk_below (sqK BK155.out) hb); replace HB := sqM (below_step (sqB2 HB.out GE150.out GE155.out) hb); clear hb hbox hg; have hnb23 := NB157_150.out; have hnc23 := NB150_157.out; have hnb24 := NB157_155.out; have hnc24 := NB155_157.out; obtain ⟨hcz25_0, hcz25_1, hfz25_0, hfz25_1⟩ := sqF2 BK157.out; have hnb26 := NB155_150.out; have hnc26 := NB150_155.out; obtain ⟨hcz27_0, hcz27_1, hcz27_2, hcz27_3, hcz27_4, hcz27_5, hcz27_6, hcz27_7, hcz27_8, hfz27_0, hfz27_1, hfz27_2, hfz27_3, hfz27_4, hfz27_5, hfz27_6, hfz27_7, hfz27_8⟩ := sqF9 BK155.out) | ((with_reducible refine gate_callee (f := 68) rfl ?_); refine goesL_ (some 28) rfl rfl Try.func68 (by kernel_rfl) rfl #[.agg #[.int .i64 ((rd_T66 t151 x12_1).f2.f0), .int .i64 ((rd_T66 t151 x12_1).f2.f1), .slice (some ad156) ((rd_T66 t151 x12_1).f2.f2).length c154_4, .slice A154_5 ((rd_T66 t151 x12_1).f2.f3).length c154_5, .int .i64 ((rd_T66 t151 x12_1).f2.f4), .int .i64 ((rd_T66 t151 x12_1).f2.f5), .int .i64 ((rd_T66 t151 x12_1).f2.f6)], .int .i64 ((rd_T62 ((rd_T66 t151 x12_1).f2.f2) x20_2).f0)] rfl sqA ?_; (with_reducible refine (conf_inside.calls _ _ _ _ _ _ _ _ _ _ _ _ _ _ ?side1 ?side2 ?side3 ?side4 A16.out).mono ?_); (case side1 => refine (Kd.V_reads' (e := 62) (base := w.heap.size) (ok := fun k_ => ((some k_ ≠ (.slice (some ad154) t151.length co6 : Value).ownBlock ∧ (k_ ≠ gb150 ∧ k_ ≠ gb155)) ∧ k_ ≠ gb157)) (n := ((rd_T66 t151 x12_1).f2.f2).length) (c := c154_4) ?_).2.2; exact (by refine sqV ?_; exact (sqV2 HO_156004.out (fun k_ hk => hk.2)))); (case side2 => exact (Kd.V_reads' HO_156004.out).2.1); (case side3 => refine (Kd.V_reads' (e := 59) (base := w.heap.size) (ok := fun k_ => ((some k_ ≠ (.slice (some ad154) t151.length co6 : Value).ownBlock ∧ (k_ ≠ gb150 ∧ k_ ≠ gb155)) ∧ k_ ≠ gb157)) (n := ((rd_T66 t151 x12_1).f2.f3).length) (c := c154_5) ?_).2.2; exact (by refine sqV ?_; exact (sqV2 HO_156005.out (fun k_ hk => hk.2)))); (case side4 => exact (Kd.V_reads' HO_156005.out).2.1); rintro e w28 ⟨rfl, hb⟩; refine ⟨_, rfl, ?_⟩; replace HO_10 := sqM (Kd.N_below (by refine sqN ?_; exact (sqN2 HO_10.out (fun k_ hk => hk.2))) hb); replace HO_18 := sqM (Kd.V_below (by refine sqV ?_; exact (sqV2 HO_18.out (fun k_ hk => hk.2))) hb); replace HO_156004 := sqM (Kd.V_below (by refine sqV ?_; exact (sqV2 HO_156004.out (fun k_ hk => hk.2))) hb); replace HO_156005 := sqM (Kd.V_below (by refine sqV ?_; exact (sqV2 HO_156005.out (fun k_ hk => hk.2))) hb); replace BK150 := sqM (blk_below (sqK (sqX2 BK150.out NB150_157.out)) hb); replace BK155 := sqM (blk_below (sqK (sqX2 BK155.out NB155_157.out)) hb); replace BK157 := sqM (blk_below (sqK (sqP2 BK157.out)) hb); replace HB := sqM (below_step (sqB3 HB.out GE150.out GE155.out GE157.out) hb); (try clear hb); (try clear hb2); (try clear hk); (try clear hi); obtain ⟨hcz29_0, hcz29_1, hcz29_2, hcz29_3, hcz29_4, hcz29_5, hcz29_6, hcz29_7, hcz29_8, hfz29_0, hfz29_1, hfz29_2, hfz29_3, hfz29_4, hfz29_5, hfz29_6, hfz29_7, hfz29_8⟩ := sqF9 BK155.out; obtain ⟨hcz30_0, hcz30_1, hfz30_0, hfz30_1⟩ := sqF2 BK157.out) | (go_at_call 68; (with_reducible refine (conf_inside.calls _ _ _ _ _ _ _ _ _ _ _ _ _ _ ?side1 ?side2 ?side3 ?side4 A18.out).mono ?_); (case side1 => repeat (first | exact (Kd.V_reads' HO_156004.out).2.2 | (with_reducible refine Kd.C_alloc ?_ _) | (with_reducible refine Kd.C_drewN ?_ _) | (with_reducible refine Kd.C_drew ?_))); (case side2 => exact (Kd.V_reads' HO_156004.out).2.1); (case side3 => repeat (first | exact (Kd.V_reads' HO_156005.out).2.2 | (with_reducible refine Kd.C_alloc ?_ _) | (with_reducible refine Kd.C_drewN ?_ _) | (with_reducible refine Kd.C_drew ?_))); (case side4 => exact (Kd.V_reads' HO_156005.out).2.1); rintro e w31 ⟨rfl, hb⟩; replace HO_10 := sqM (Kd.N_below (sqN HO_10.out) hb); replace HO_18 := sqM (Kd.V_below (sqV HO_18.out) hb); replace HO_156004 := sqM (Kd.V_below (sqV HO_156004.out) hb); replace HO_156005 := sqM (Kd.V_below (sqV HO_156005.out) hb); replace BK150 := sqM (blk_below (sqK BK150.out) hb); replace BK155 := sqM (blk_below (sqK BK155.out) hb); replace BK157 := sqM (blk_below (sqK BK157.out) hb); replace HB := sqM (below_step (sqB3 HB.out GE150.out GE155.out GE157.out) hb); (try clear hb); (try clear hb2); (try clear hk); (try clear hi); obtain ⟨hcz32_0, hcz32_1, hfz32_0, hfz32_1⟩ := sqF2 BK157.out; obtain ⟨hcz33_0, hcz33_1, hcz33_2, hfz33_0, hfz33_1, hfz33_2⟩ := sqF3 BK150.out) | (go_at_call 48; (with_reducible refine (conf_has.calls _ _ _ _ _ A20.out).mono ?_); rintro e w34 ⟨rfl, hb⟩; replace HO_10 := sqM (Kd.N_below (sqN HO_10.out) hb); replace HO_18 := sqM (Kd.V_below (sqV HO_18.out) hb); replace HO_156004 := sqM (Kd.V_below (sqV HO_156004.out) hb); replace HO_156005 := sqM (Kd.V_below (sqV HO_156005.out) hb); replace BK150 := sqM (blk_below (sqK BK150.out) hb); replace BK155 := sqM (blk_below (sqK BK155.out) hb); replace BK157 := sqM (blk_below (sqK BK157.out) hb); replace HB := sqM (below_step (sqB3 HB.out GE150.out GE155.out GE157.out) hb); (try clear hb); (try clear hb2); (try clear hk); (try clear hi)))
     go_ret
     exact ⟨sqE, sqB3 HB.out GE150.out GE155.out GE157.out⟩
   replace c21 := Bool.eq_false_iff.mpr c21
   subst c21
   have H1 : (conf_placed.l1 k2 t151 (t151.length : Int) x12_1 ((rd_T66 t151 x12_1).f2.f2) (((rd_T66 t151 x12_1).f2.f2).length : Int) (wrap64 (x20_2 + 1)) a0_0 a0_1 l0_2 ((rd_T66 t151 x12_1).f0) ((rd_T66 t151 x12_1).f1) ((rd_T66 t151 x12_1).f2.f0) ((rd_T66 t151 x12_1).f2.f1) ((rd_T66 t151 x12_1).f2.f2) ((rd_T66 t151 x12_1).f2.f3) ((rd_T66 t151 x12_1).f2.f4) ((rd_T66 t151 x12_1).f2.f5) ((rd_T66 t151 x12_1).f2.f6)) = some r := by rw [if_neg (show ¬ (false = true) by decide)] at H; exact H
   clear H
   have H := H1
   clear H1
   have H' := Aside0.mk H
   clear H
   have p156 : 0 ≤ (x20_2 : Int) := of_decide_eq_true sqH
   have q156 : x20_2 < (((rd_T66 t151 x12_1).f2.f2).length : Int) := of_decide_eq_true sqH
   obtain ⟨ad156, e156, hx156_0, hx156_1⟩ := at_T62 (Kd.V_reads' HO_18.out).2.2 x20_2 p156 q156
   cases e156
   replace p156 := eq_true p156
   replace q156 := eq_true q156
   go_wp2_with (first | ((with_reducible refine gate_dst (N := 6) rfl ?_); refine box_event rfl (N := 6) rfl (cs := #[.int .i64 0, .int .i64 0]) (t := 62) sqs ?_; intro gb157 hg w35 hbox hb; have BK157 := sqM (hbox); have GW157 := sqM (sqZ hg (sqB2 HB.out GE150.out GE155.out)); have GE157 := sqM (sqZ hg (sqB2 HB.out GE150.out GE155.out)); have NB150_157 := sqM (sqL hg (sqK BK150.out)); have NB157_150 := sqM (sqG hg (sqK BK150.out)); have NB155_157 := sqM (sqL hg (sqK BK155.out)); have NB157_155 := sqM (sqG hg (sqK BK155.out)); replace HO_10 := sqM (sqNe (sqN HO_10.out) hg hb); replace HO_18 := sqM (sqVe (sqV HO_18.out) hg hb); replace HO_156004 := sqM (sqVe (sqV HO_156004.out) hg hb); replace HO_156005 := sqM (sqVe (sqV HO_156005.out) hg hb); replace BK150 := sqM (blk_below (sqK BK150.out) hb); replace BK155 := sqM (blk_below (sqK BK155.out) hb); replace HB := sqM (below_step (sqB2 HB.out GE150.out GE155.out) hb); clear hb hbox hg; have hnb36 := NB157_150.out; have hnc36 := NB150_157.out; have hnb37 := NB157_155.out; have hnc37 := NB155_157.out; obtain ⟨hcz38_0, hcz38_1, hfz38_0, hfz38_1⟩ := sqF2 BK157.out; have hnb39 := NB155_150.out; have hnc39 := NB150_155.out; obtain ⟨hcz40_0, hcz40_1, hcz40_2, hcz40_3, hcz40_4, hcz40_5, hcz40_6, hcz40_7, hcz40_8, hfz40_0, hfz40_1, hfz40_2, hfz40_3, hfz40_4, hfz40_5, hfz40_6, hfz40_7, hfz40_8⟩ := sqF9 BK155.out) | ((with_reducible refine gate_callee (f := 68) rfl ?_); refine goesL_ (some 28) rfl rfl Try.func68 (by kernel_rfl) rfl #[.agg #[.int .i64 ((rd_T66 t151 x12_1).f2.f0), .int .i64 ((rd_T66 t151 x12_1).f2.f1), .slice (some ad156) ((rd_T66 t151 x12_1).f2.f2).length c154_4, .slice A154_5 ((rd_T66 t151 x12_1).f2.f3).length c154_5, .int .i64 ((rd_T66 t151 x12_1).f2.f4), .int .i64 ((rd_T66 t151 x12_1).f2.f5), .int .i64 ((rd_T66 t151 x12_1).f2.f6)], .int .i64 ((rd_T62 ((rd_T66 t151 x12_1).f2.f2) x20_2).f0)] rfl sqA ?_; (with_reducible refine (conf_inside.calls _ _ _ _ _ _ _ _ _ _ _ _ _ _ ?side1 ?side2 ?side3 ?side4 A16.out).mono ?_); (case side1 => refine (Kd.V_reads' (e := 62) (base := w.heap.size) (ok := fun k_ => ((some k_ ≠ (.slice (some ad154) t151.length co6 : Value).ownBlock ∧ (k_ ≠ gb150 ∧ k_ ≠ gb155)) ∧ k_ ≠ gb157)) (n := ((rd_T66 t151 x12_1).f2.f2).length) (c := c154_4) ?_).2.2; exact (by refine sqV ?_; exact (sqV2 HO_156004.out (fun k_ hk => hk.2)))); (case side2 => exact (Kd.V_reads' HO_156004.out).2.1); (case side3 => refine (Kd.V_reads' (e := 59) (base := w.heap.size) (ok := fun k_ => ((some k_ ≠ (.slice (some ad154) t151.length co6 : Value).ownBlock ∧ (k_ ≠ gb150 ∧ k_ ≠ gb155)) ∧ k_ ≠ gb157)) (n := ((rd_T66 t151 x12_1).f2.f3).length) (c := c154_5) ?_).2.2; exact (by refine sqV ?_; exact (sqV2 HO_156005.out (fun k_ hk => hk.2)))); (case side4 => exact (Kd.V_reads' HO_156005.out).2.1); rintro e w41 ⟨rfl, hb⟩; refine ⟨_, rfl, ?_⟩; replace HO_10 := sqM (Kd.N_below (by refine sqN ?_; exact (sqN2 HO_10.out (fun k_ hk => hk.2))) hb); replace HO_18 := sqM (Kd.V_below (by refine sqV ?_; exact (sqV2 HO_18.out (fun k_ hk => hk.2))) hb); replace HO_156004 := sqM (Kd.V_below (by refine sqV ?_; exact (sqV2 HO_156004.out (fun k_ hk => hk.2))) hb); replace HO_156005 := sqM (Kd.V_below (by refine sqV ?_; exact (sqV2 HO_156005.out (fun k_ hk => hk.2))) hb); replace BK150 := sqM (blk_below (sqK (sqX2 BK150.out NB150_157.out)) hb); replace BK155 := sqM (blk_below (sqK (sqX2 BK155.out NB155_157.out)) hb); replace BK157 := sqM (blk_below (sqK (sqP2 BK157.out)) hb); replace HB := sqM (below_step (sqB3 HB.out GE150.out GE155.out GE157.out) hb); (try clear hb); (try clear hb2); (try clear hk); (try clear hi); obtain ⟨hcz42_0, hcz42_1, hcz42_2, hcz42_3, hcz42_4, hcz42_5, hcz42_6, hcz42_7, hcz42_8, hfz42_0, hfz42_1, hfz42_2, hfz42_3, hfz42_4, hfz42_5, hfz42_6, hfz42_7, hfz42_8⟩ := sqF9 BK155.out; obtain ⟨hcz43_0, hcz43_1, hfz43_0, hfz43_1⟩ := sqF2 BK157.out) | (go_at_call 68; (with_reducible refine (conf_inside.calls _ _ _ _ _ _ _ _ _ _ _ _ _ _ ?side1 ?side2 ?side3 ?side4 A18.out).mono ?_); (case side1 => repeat (first | exact (Kd.V_reads' HO_156004.out).2.2 | (with_reducible refine Kd.C_alloc ?_ _) | (with_reducible refine Kd.C_drewN ?_ _) | (with_reducible refine Kd.C_drew ?_))); (case side2 => exact (Kd.V_reads' HO_156004.out).2.1); (case side3 => repeat (first | exact (Kd.V_reads' HO_156005.out).2.2 | (with_reducible refine Kd.C_alloc ?_ _) | (with_reducible refine Kd.C_drewN ?_ _) | (with_reducible refine Kd.C_drew ?_))); (case side4 => exact (Kd.V_reads' HO_156005.out).2.1); rintro e w44 ⟨rfl, hb⟩; replace HO_10 := sqM (Kd.N_below (sqN HO_10.out) hb); replace HO_18 := sqM (Kd.V_below (sqV HO_18.out) hb); replace HO_156004 := sqM (Kd.V_below (sqV HO_156004.out) hb); replace HO_156005 := sqM (Kd.V_below (sqV HO_156005.out) hb); replace BK150 := sqM (blk_below (sqK BK150.out) hb); replace BK155 := sqM (blk_below (sqK BK155.out) hb); replace BK157 := sqM (blk_below (sqK BK157.out) hb); replace HB := sqM (below_step (sqB3 HB.out GE150.out GE155.out GE157.out) hb); (try clear hb); (try clear hb2); (try clear hk); (try clear hi); obtain ⟨hcz45_0, hcz45_1, hfz45_0, hfz45_1⟩ := sqF2 BK157.out; obtain ⟨hcz46_0, hcz46_1, hcz46_2, hfz46_0, hfz46_1, hfz46_2⟩ := sqF3 BK150.out) | (go_at_call 48; (with_reducible refine (conf_has.calls _ _ _ _ _ A20.out).mono ?_); rintro e w47 ⟨rfl, hb⟩; replace HO_10 := sqM (Kd.N_below (sqN HO_10.out) hb); replace HO_18 := sqM (Kd.V_below (sqV HO_18.out) hb); replace HO_156004 := sqM (Kd.V_below (sqV HO_156004.out) hb); replace HO_156005 := sqM (Kd.V_below (sqV HO_156005.out) hb); replace BK150 := sqM (blk_below (sqK BK150.out) hb); replace BK155 := sqM (blk_below (sqK BK155.out) hb); replace BK157 := sqM (blk_below (sqK BK157.out) hb); replace HB := sqM (below_step (sqB3 HB.out GE150.out GE155.out GE157.out) hb); (try clear hb); (try clear hb2); (try clear hk); (try clear hi)))
   go_roundg k2
   case measure => have := HK1.out; have := HK2.out; omega
   case rel => exact ⟨(wrap64 (x20_2 + 1)), sqI, H', ⟨by have := HK1.out; have := HK2.out; omega⟩, ⟨by refine sqN ?_; exact Kd.N_mono HO_10.out (fun _ hk => ⟨hk.1.1, hk.1.2⟩)⟩, ⟨by refine sqV ?_; exact Kd.V_mono HO_18.out (fun _ hk => ⟨hk.1.1, ⟨hk.1.2.1, hk.1.2.2⟩⟩)⟩, ⟨by refine sqV ?_; exact Kd.V_mono HO_156004.out (fun _ hk => ⟨hk.1.1, ⟨hk.1.2.1, hk.1.2.2⟩⟩)⟩, ⟨by refine sqV ?_; exact Kd.V_mono HO_156005.out (fun _ hk => ⟨hk.1.1, ⟨hk.1.2.1, hk.1.2.2⟩⟩)⟩, ⟨sqK BK150.out⟩, ⟨sqK BK155.out⟩, ⟨sqB3 HB.out GE150.out GE155.out GE157.out⟩⟩
 rw [if_neg c13] at H
 have c13b0 : decide (x20_2 < (((rd_T66 t151 x12_1).f2.f2).length : Int)) = false := decide_eq_false c13
 clear c13
 have H' := Aside0.mk H
 clear H
 have hnb65 := NB155_150.out
 have hnc65 := NB150_155.out
 obtain ⟨hcz66_0, hcz66_1, hcz66_2, hcz66_3, hcz66_4, hcz66_5, hcz66_6, hcz66_7, hcz66_8, hfz66_0, hfz66_1, hfz66_2, hfz66_3, hfz66_4, hfz66_5, hfz66_6, hfz66_7, hfz66_8⟩ := sqF9 BK155.out
 go_wp2
 go_loopg [49] k2 (fun kq v49 w' => ∃ (x49_3 : Int), v49 = .int .i64 x49_3 ∧ Aside0 (conf_placed.l2 kq t151 (t151.length : Int) x12_1 ((rd_T66 t151 x12_1).f2.f3) (((rd_T66 t151 x12_1).f2.f3).length : Int) x49_3 a0_0 a0_1 l0_2 ((rd_T66 t151 x12_1).f0) ((rd_T66 t151 x12_1).f1) ((rd_T66 t151 x12_1).f2.f0) ((rd_T66 t151 x12_1).f2.f1) ((rd_T66 t151 x12_1).f2.f2) ((rd_T66 t151 x12_1).f2.f3) ((rd_T66 t151 x12_1).f2.f4) ((rd_T66 t151 x12_1).f2.f5) ((rd_T66 t151 x12_1).f2.f6) = some r) ∧ Aside0 (kq ≤ k2) ∧ Aside0 (Kd.N k66 66 w' w.heap.size (fun k_ => k_ ≠ gb150 ∧ k_ ≠ gb155) (.slice (some ad154) t151.length co6) t151) ∧ Aside0 (Kd.V k59 59 w' w.heap.size (fun k_ => some k_ ≠ ((.slice (some ad154) t151.length co6) : Value).ownBlock ∧ k_ ≠ gb150 ∧ k_ ≠ gb155) (.slice A154_5 ((rd_T66 t151 x12_1).f2.f3).length c154_5) ((rd_T66 t151 x12_1).f2.f3)) ∧ Aside0 (Kd.V k62 62 w' w.heap.size (fun k_ => some k_ ≠ ((.slice (some ad154) t151.length co6) : Value).ownBlock ∧ k_ ≠ gb150 ∧ k_ ≠ gb155) (.slice A154_4 ((rd_T66 t151 x12_1).f2.f2).length c154_4) ((rd_T66 t151 x12_1).f2.f2)) ∧ Aside0 (Kd.V k59 59 w' w.heap.size (fun k_ => some k_ ≠ ((.slice (some ad154) t151.length co6) : Value).ownBlock ∧ k_ ≠ gb150 ∧ k_ ≠ gb155) (.slice A154_5 ((rd_T66 t151 x12_1).f2.f3).length c154_5) ((rd_T66 t151 x12_1).f2.f3)) ∧ Aside0 (w'.heap[gb150]? = some (.cells #[.int .i64 a0_0, .int .i64 a0_1, (.slice A0_2 l0_2.length c0_2)] 24 (0, 0))) ∧ Aside0 (w'.heap[gb155]? = some (.cells #[.int .i64 ((rd_T66 t151 x12_1).f0), .int .i64 ((rd_T66 t151 x12_1).f1), .int .i64 ((rd_T66 t151 x12_1).f2.f0), .int .i64 ((rd_T66 t151 x12_1).f2.f1), (.slice A154_4 ((rd_T66 t151 x12_1).f2.f2).length c154_4), (.slice A154_5 ((rd_T66 t151 x12_1).f2.f3).length c154_5), .int .i64 ((rd_T66 t151 x12_1).f2.f4), .int .i64 ((rd_T66 t151 x12_1).f2.f5), .int .i64 ((rd_T66 t151 x12_1).f2.f6)] 66 (0, 0))) ∧ Aside0 (Below w.heap.size w w'))
 case atStart => exact ⟨(0), sqI, H', ⟨Nat.le_refl _⟩, ⟨sqN HO_10.out⟩, ⟨sqV HO_156005.out⟩, ⟨sqV HO_156004.out⟩, ⟨sqV HO_156005.out⟩, ⟨sqK BK150.out⟩, ⟨sqK BK155.out⟩, ⟨sqB2 HB.out GE150.out GE155.out⟩⟩
 clear H'
 try clear c1
 try clear p1
 try clear q1
 try clear hx1
 try clear c2
 try clear p2
 try clear c3
 try clear c4
 try clear c5
 try clear c6
 try clear p6
 try clear c7
 try clear c7b0
 try clear c8
 try clear c8b0
 try clear c9
 try clear c9b0
 try clear c11
 try clear c13
 try clear c13b0
 try clear c14
 try clear c14b0
 try clear c15
 try clear c15b0
 try clear p15
 try clear q15
 try clear hx15
 try clear c17
 try clear c19
 try clear c21
 try clear c23
 try clear c24
 try clear c26
 try clear c36
 try clear c37
 try clear c39
 try clear c41
 try clear c49
 try clear c50
 try clear c52
 try clear c59
 try clear c60
 try clear c62
 try clear p64
 try clear c65
 try clear c66
 try clear hcz12_0 hcz12_1 hcz12_2 hcz12_3 hcz12_4 hcz12_5 hcz12_6 hcz12_7 hcz12_8
 try clear hcz25_0 hcz25_1
 try clear hcz27_0 hcz27_1 hcz27_2 hcz27_3 hcz27_4 hcz27_5 hcz27_6 hcz27_7 hcz27_8
 try clear hcz29_0 hcz29_1 hcz29_2 hcz29_3 hcz29_4 hcz29_5 hcz29_6 hcz29_7 hcz29_8
 try clear hcz30_0 hcz30_1
 try clear hcz32_0 hcz32_1
 try clear hcz33_0 hcz33_1 hcz33_2
 try clear hcz38_0 hcz38_1
 try clear hcz40_0 hcz40_1 hcz40_2 hcz40_3 hcz40_4 hcz40_5 hcz40_6 hcz40_7 hcz40_8
 try clear hcz42_0 hcz42_1 hcz42_2 hcz42_3 hcz42_4 hcz42_5 hcz42_6 hcz42_7 hcz42_8
 try clear hcz43_0 hcz43_1
 try clear hcz45_0 hcz45_1
 try clear hcz46_0 hcz46_1 hcz46_2
 try clear hcz4_0 hcz4_1 hcz4_2
 try clear hcz51_0 hcz51_1
 try clear hcz53_0 hcz53_1 hcz53_2 hcz53_3 hcz53_4 hcz53_5 hcz53_6 hcz53_7 hcz53_8
 try clear hcz55_0 hcz55_1 hcz55_2 hcz55_3 hcz55_4 hcz55_5 hcz55_6 hcz55_7 hcz55_8
 try clear hcz56_0 hcz56_1
 try clear hcz61_0 hcz61_1
 try clear hcz63_0 hcz63_1 hcz63_2 hcz63_3 hcz63_4 hcz63_5 hcz63_6 hcz63_7 hcz63_8
 try clear hcz66_0 hcz66_1 hcz66_2 hcz66_3 hcz66_4 hcz66_5 hcz66_6 hcz66_7 hcz66_8
 try clear hfz12_0 hfz12_1 hfz12_2 hfz12_3 hfz12_4 hfz12_5 hfz12_6 hfz12_7 hfz12_8
 try clear hfz25_0 hfz25_1
 try clear hfz27_0 hfz27_1 hfz27_2 hfz27_3 hfz27_4 hfz27_5 hfz27_6 hfz27_7 hfz27_8
 try clear hfz29_0 hfz29_1 hfz29_2 hfz29_3 hfz29_4 hfz29_5 hfz29_6 hfz29_7 hfz29_8
 try clear hfz30_0 hfz30_1
 try clear hfz32_0 hfz32_1
 try clear hfz33_0 hfz33_1 hfz33_2
 try clear hfz38_0 hfz38_1
 try clear hfz40_0 hfz40_1 hfz40_2 hfz40_3 hfz40_4 hfz40_5 hfz40_6 hfz40_7 hfz40_8
 try clear hfz42_0 hfz42_1 hfz42_2 hfz42_3 hfz42_4 hfz42_5 hfz42_6 hfz42_7 hfz42_8
 try clear hfz43_0 hfz43_1
 try clear hfz45_0 hfz45_1
 try clear hfz46_0 hfz46_1 hfz46_2
 try clear hfz4_0 hfz4_1 hfz4_2
 try clear hfz51_0 hfz51_1
 try clear hfz53_0 hfz53_1 hfz53_2 hfz53_3 hfz53_4 hfz53_5 hfz53_6 hfz53_7 hfz53_8
 try clear hfz55_0 hfz55_1 hfz55_2 hfz55_3 hfz55_4 hfz55_5 hfz55_6 hfz55_7 hfz55_8
 try clear hfz56_0 hfz56_1
 try clear hfz61_0 hfz61_1
 try clear hfz63_0 hfz63_1 hfz63_2 hfz63_3 hfz63_4 hfz63_5 hfz63_6 hfz63_7 hfz63_8
 try clear hfz66_0 hfz66_1 hfz66_2 hfz66_3 hfz66_4 hfz66_5 hfz66_6 hfz66_7 hfz66_8
 try clear hx154_0 hx154_1 hx154_2 hx154_3 hx154_4 hx154_5 hx154_6 hx154_7 hx154_8
 try clear hx156_0 hx156_1
 try clear p1
 try clear p154
 try clear p156
 try clear p2
 try clear q1
 try clear q154
 try clear q156
 obtain ⟨x49_3, rfl, HA, HK3, HO_10, HO_47, HO_156004, HO_156005, BK150, BK155, HB⟩ := hrel
 cases gk with
 | zero => exact absurd HA.out (by simp [conf_placed.l2])
 | succ k3 => ?_
 have H := HA.out
 clear HA
 simp only [conf_placed.l2] at H
 by_cases c67 : x49_3 < (((rd_T66 t151 x12_1).f2.f3).length : Int)
 rotate_left
 · rw [if_neg c67] at H
   have c67b0 : decide (x49_3 < (((rd_T66 t151 x12_1).f2.f3).length : Int)) = false := decide_eq_false c67
   clear c67
   by_cases c98 : ((rd_T66 t151 x12_1).f2.f5) = 0
   · rw [if_pos c98] at H
     have c98b0 : (((rd_T66 t151 x12_1).f2.f5) == 0) = true := beq_iff_eq.mpr c98
     have c98b1 : (((rd_T66 t151 x12_1).f2.f5) != 0) = false := bne_eq_false_iff_eq.mpr c98
     clear c98
     have H' := Aside0.mk H
     clear H
     have hnb99 := NB155_150.out
     have hnc99 := NB150_155.out
     obtain ⟨hcz100_0, hcz100_1, hcz100_2, hcz100_3, hcz100_4, hcz100_5, hcz100_6, hcz100_7, hcz100_8, hfz100_0, hfz100_1, hfz100_2, hfz100_3, hfz100_4, hfz100_5, hfz100_6, hfz100_7, hfz100_8⟩ := sqF9 BK155.out
     go_wp2
     go_roundg k3
     case measure => have := HK1.out; have := HK2.out; have := HK3.out; omega
     case rel => exact ⟨(wrap64 (x12_1 + 1)), sqI, H', ⟨by have := HK1.out; have := HK2.out; have := HK3.out; omega⟩, ⟨by refine sqN ?_; exact Kd.N_mono HO_10.out (fun _ hk => hk.1)⟩, ⟨sqK BK150.out⟩, ⟨sqB2 HB.out GE150.out GE155.out⟩⟩
   rw [if_neg c98] at H
   have c98b0 : (((rd_T66 t151 x12_1).f2.f5) == 0) = false := beq_eq_false_iff_ne.mpr c98
   have c98b1 : (((rd_T66 t151 x12_1).f2.f5) != 0) = true := bne_iff_ne.mpr c98
   replace H := Option.bind_eq_some_iff.mp H
   obtain ⟨t164, A1010, H⟩ := H
   replace H : (if t164 = true then (conf_placed.l0 k3 t151 (t151.length : Int) (wrap64 (x12_1 + 1)) a0_0 a0_1 l0_2) else (some false)) = some r := H
   have A101 := Aside0.mk A1010
   clear A1010
   by_cases c102 : t164 = true
   rotate_left
   · replace c102 := Bool.eq_false_iff.mpr c102
     subst c102
     have H1 : (some false) = some r := by rw [if_neg (show ¬ (false = true) by decide)] at H; exact H
     clear H
     have H := H1
     clear H1
     obtain rfl := Option.some.inj H
     have hnb105 := NB155_150.out
     have hnc105 := NB150_155.out
     obtain ⟨hcz106_0, hcz106_1, hcz106_2, hcz106_3, hcz106_4, hcz106_5, hcz106_6, hcz106_7, hcz106_8, hfz106_0, hfz106_1, hfz106_2, hfz106_3, hfz106_4, hfz106_5, hfz106_6, hfz106_7, hfz106_8⟩ := sqF9 BK155.out
     go_wp2_with (first | (go_at_call 49; (with_reducible refine (addr_Has.calls _ _ _ _ _ A101.out).mono ?_); rintro e w' ⟨rfl, ⟨nd, rfl⟩⟩))
     go_ret
     exact ⟨sqE, sqB2 HB.out GE150.out GE155.out⟩
   subst c102
   have H1 : (conf_placed.l0 k3 t151 (t151.length : Int) (wrap64 (x12_1 + 1)) a0_0 a0_1 l0_2) = some r := by rw [if_pos rfl] at H; exact H
   clear H
   have H := H1
   clear H1
   have H' := Aside0.mk H
   clear H
   have hnb103 := NB155_150.out
   have hnc103 := NB150_155.out
   obtain ⟨hcz104_0, hcz104_1, hcz104_2, hcz104_3, hcz104_4, hcz104_5, hcz104_6, hcz104_7, hcz104_8, hfz104_0, hfz104_1, hfz104_2, hfz104_3, hfz104_4, hfz104_5, hfz104_6, hfz104_7, hfz104_8⟩ := sqF9 BK155.out
   go_wp2_with (first | (go_at_call 49; (with_reducible refine (addr_Has.calls _ _ _ _ _ A101.out).mono ?_); rintro e w' ⟨rfl, ⟨nd, rfl⟩⟩))
   go_roundg k3
   case measure => have := HK1.out; have := HK2.out; have := HK3.out; omega
   case rel => exact ⟨(wrap64 (x12_1 + 1)), sqI, H', ⟨by have := HK1.out; have := HK2.out; have := HK3.out; omega⟩, ⟨by refine sqN ?_; exact Kd.N_mono HO_10.out (fun _ hk => hk.1)⟩, ⟨sqK BK150.out⟩, ⟨sqB2 HB.out GE150.out GE155.out⟩⟩
 rw [if_pos c67] at H
 have c67b0 : decide (x49_3 < (((rd_T66 t151 x12_1).f2.f3).length : Int)) = true := decide_eq_true c67
 clear c67
 by_cases c68 : 0 ≤ x49_3
 rotate_left
 · rw [if_neg c68] at H
   exact absurd H (by simp)
 rw [if_pos c68] at H
 have c68b0 : decide (0 ≤ x49_3) = true := decide_eq_true c68
 clear c68
 by_cases c69 : x49_3 < (((rd_T66 t151 x12_1).f2.f3).length : Int)
 rotate_left
 · rw [if_neg c69] at H
   exact absurd H (by simp)
 rw [if_pos c69] at H
 have c69b0 : decide (x49_3 < (((rd_T66 t151 x12_1).f2.f3).length : Int)) = true := decide_eq_true c69
 clear c69
 replace H := Option.bind_eq_some_iff.mp H
 obtain ⟨t163, A700, H⟩ := H
 replace H : (if t163 = true then (if ((rd_T59 ((rd_T66 t151 x12_1).f2.f3) x49_3).f1) = a0_0 then (some false) else (conf_placed.l2 k3 t151 (t151.length : Int) x12_1 ((rd_T66 t151 x12_1).f2.f3) (((rd_T66 t151 x12_1).f2.f3).length : Int) (wrap64 (x49_3 + 1)) a0_0 a0_1 l0_2 ((rd_T66 t151 x12_1).f0) ((rd_T66 t151 x12_1).f1) ((rd_T66 t151 x12_1).f2.f0) ((rd_T66 t151 x12_1).f2.f1) ((rd_T66 t151 x12_1).f2.f2) ((rd_T66 t151 x12_1).f2.f3) ((rd_T66 t151 x12_1).f2.f4) ((rd_T66 t151 x12_1).f2.f5) ((rd_T66 t151 x12_1).f2.f6))) else (some false)) = some r := H
 have A70 := Aside0.mk A700
 clear A700
 by_cases c71 : t163 = true
 rotate_left
 · replace c71 := Bool.eq_false_iff.mpr c71
   subst c71
   have H1 : (some false) = some r := by rw [if_neg (show ¬ (false = true) by decide)] at H; exact H
   clear H
   have H := H1
   clear H1
   obtain rfl := Option.some.inj H
   have p161 : 0 ≤ (x49_3 : Int) := of_decide_eq_true sqH
   have q161 : x49_3 < (((rd_T66 t151 x12_1).f2.f3).length : Int) := of_decide_eq_true sqH
   obtain ⟨ad161, e161, hx161_0, hx161_1⟩ := at_T59 (Kd.V_reads' HO_47.out).2.2 x49_3 p161 q161
   cases e161
   replace p161 := eq_true p161
   replace q161 := eq_true q161
   go_wp2_with (first | ((with_reducible refine gate_dst (N := 8) rfl ?_); refine box_event rfl (N := 8) rfl (cs := #[.string (⟨#[]⟩ : ByteArray), .int .i64 0]) (t := 59) sqs ?_; intro gb162 hg w91 hbox hb; have BK162 := sqM (hbox); have GW162 := sqM (sqZ hg (sqB2 HB.out GE150.out GE155.out)); have GE162 := sqM (sqZ hg (sqB2 HB.out GE150.out GE155.out)); have NB150_162 := sqM (sqL hg (sqK BK150.out)); have NB162_150 := sqM (sqG hg (sqK BK150.out)); have NB155_162 := sqM (sqL hg (sqK BK155.out)); have NB162_155 := sqM (sqG hg (sqK BK155.out)); replace HO_10 := sqM (sqNe (sqN HO_10.out) hg hb); replace HO_47 := sqM (sqVe (sqV HO_47.out) hg hb); replace HO_156004 := sqM (sqVe (sqV HO_156004.out) hg hb); replace HO_156005 := sqM (sqVe (sqV HO_156005.out) hg hb); replace BK150 := sqM (blk_below (sqK BK150.out) hb); replace BK155 := sqM (blk_below (sqK BK155.out) hb); replace HB := sqM (below_step (sqB2 HB.out GE150.out GE155.out) hb); clear hb hbox hg; have hnb92 := NB162_150.out; have hnc92 := NB150_162.out; have hnb93 := NB162_155.out; have hnc93 := NB155_162.out; obtain ⟨hcz94_0, hcz94_1, hfz94_0, hfz94_1⟩ := sqF2 BK162.out; have hnb95 := NB155_150.out; have hnc95 := NB150_155.out; obtain ⟨hcz96_0, hcz96_1, hcz96_2, hcz96_3, hcz96_4, hcz96_5, hcz96_6, hcz96_7, hcz96_8, hfz96_0, hfz96_1, hfz96_2, hfz96_3, hfz96_4, hfz96_5, hfz96_6, hfz96_7, hfz96_8⟩ := sqF9 BK155.out) | ((with_reducible refine gate_callee (f := 68) rfl ?_); refine goesL_ (some 57) rfl rfl Try.func68 (by kernel_rfl) rfl #[.agg #[.int .i64 ((rd_T66 t151 x12_1).f2.f0), .int .i64 ((rd_T66 t151 x12_1).f2.f1), .slice A154_4 ((rd_T66 t151 x12_1).f2.f2).length c154_4, .slice (some ad161) ((rd_T66 t151 x12_1).f2.f3).length c154_5, .int .i64 ((rd_T66 t151 x12_1).f2.f4), .int .i64 ((rd_T66 t151 x12_1).f2.f5), .int .i64 ((rd_T66 t151 x12_1).f2.f6)], .int .i64 ((rd_T59 ((rd_T66 t151 x12_1).f2.f3) x49_3).f1)] rfl sqA ?_; (with_reducible refine (conf_inside.calls _ _ _ _ _ _ _ _ _ _ _ _ _ _ ?side1 ?side2 ?side3 ?side4 A70.out).mono ?_); (case side1 => refine (Kd.V_reads' (e := 62) (base := w.heap.size) (ok := fun k_ => ((some k_ ≠ (.slice (some ad154) t151.length co6 : Value).ownBlock ∧ (k_ ≠ gb150 ∧ k_ ≠ gb155)) ∧ k_ ≠ gb162)) (n := ((rd_T66 t151 x12_1).f2.f2).length) (c := c154_4) ?_).2.2; exact (by refine sqV ?_; exact (sqV2 HO_156004.out (fun k_ hk => hk.2)))); (case side2 => exact (Kd.V_reads' HO_156004.out).2.1); (case side3 => refine (Kd.V_reads' (e := 59) (base := w.heap.size) (ok := fun k_ => ((some k_ ≠ (.slice (some ad154) t151.length co6 : Value).ownBlock ∧ (k_ ≠ gb150 ∧ k_ ≠ gb155)) ∧ k_ ≠ gb162)) (n := ((rd_T66 t151 x12_1).f2.f3).length) (c := c154_5) ?_).2.2; exact (by refine sqV ?_; exact (sqV2 HO_156005.out (fun k_ hk => hk.2)))); (case side4 => exact (Kd.V_reads' HO_156005.out).2.1); rintro e w97 ⟨rfl, hb⟩; refine ⟨_, rfl, ?_⟩; replace HO_10 := sqM (Kd.N_below (by refine sqN ?_; exact (sqN2 HO_10.out (fun k_ hk => hk.2))) hb); replace HO_47 := sqM (Kd.V_below (by refine sqV ?_; exact (sqV2 HO_47.out (fun k_ hk => hk.2))) hb); replace HO_156004 := sqM (Kd.V_below (by refine sqV ?_; exact (sqV2 HO_156004.out (fun k_ hk => hk.2))) hb); replace HO_156005 := sqM (Kd.V_below (by refine sqV ?_; exact (sqV2 HO_156005.out (fun k_ hk => hk.2))) hb); replace BK150 := sqM (blk_below (sqK (sqX2 BK150.out NB150_162.out)) hb); replace BK155 := sqM (blk_below (sqK (sqX2 BK155.out NB155_162.out)) hb); replace BK162 := sqM (blk_below (sqK (sqP2 BK162.out)) hb); replace HB := sqM (below_step (sqB3 HB.out GE150.out GE155.out GE162.out) hb); (try clear hb); (try clear hb2); (try clear hk); (try clear hi)))
   go_ret
   exact ⟨sqE, sqB3 HB.out GE150.out GE155.out GE162.out⟩
 subst c71
 have H1 : (if ((rd_T59 ((rd_T66 t151 x12_1).f2.f3) x49_3).f1) = a0_0 then (some false) else (conf_placed.l2 k3 t151 (t151.length : Int) x12_1 ((rd_T66 t151 x12_1).f2.f3) (((rd_T66 t151 x12_1).f2.f3).length : Int) (wrap64 (x49_3 + 1)) a0_0 a0_1 l0_2 ((rd_T66 t151 x12_1).f0) ((rd_T66 t151 x12_1).f1) ((rd_T66 t151 x12_1).f2.f0) ((rd_T66 t151 x12_1).f2.f1) ((rd_T66 t151 x12_1).f2.f2) ((rd_T66 t151 x12_1).f2.f3) ((rd_T66 t151 x12_1).f2.f4) ((rd_T66 t151 x12_1).f2.f5) ((rd_T66 t151 x12_1).f2.f6))) = some r := by rw [if_pos rfl] at H; exact H
 clear H
 have H := H1
 clear H1
 by_cases c72 : ((rd_T59 ((rd_T66 t151 x12_1).f2.f3) x49_3).f1) = a0_0
 · rw [if_pos c72] at H
   have c72b0 : (((rd_T59 ((rd_T66 t151 x12_1).f2.f3) x49_3).f1) == a0_0) = true := beq_iff_eq.mpr c72
   have c72b1 : (((rd_T59 ((rd_T66 t151 x12_1).f2.f3) x49_3).f1) != a0_0) = false := bne_eq_false_iff_eq.mpr c72
   clear c72
   obtain rfl := Option.some.inj H
   have p161 : 0 ≤ (x49_3 : Int) := of_decide_eq_true sqH
   have q161 : x49_3 < (((rd_T66 t151 x12_1).f2.f3).length : Int) := of_decide_eq_true sqH
   obtain ⟨ad161, e161, hx161_0, hx161_1⟩ := at_T59 (Kd.V_reads' HO_47.out).2.2 x49_3 p161 q161
   cases e161
   replace p161 := eq_true p161
   replace q161 := eq_true q161
   go_wp2_with (first | ((with_reducible refine gate_dst (N := 8) rfl ?_); refine box_event rfl (N := 8) rfl (cs := #[.string (⟨#[]⟩ : ByteArray), .int .i64 0]) (t := 59) sqs ?_; intro gb162 hg w73 hbox hb; have BK162 := sqM (hbox); have GW162 := sqM (sqZ hg (sqB2 HB.out GE150.out GE155.out)); have GE162 := sqM (sqZ hg (sqB2 HB.out GE150.out GE155.out)); have NB150_162 := sqM (sqL hg (sqK BK150.out)); have NB162_150 := sqM (sqG hg (sqK BK150.out)); have NB155_162 := sqM (sqL hg (sqK BK155.out)); have NB162_155 := sqM (sqG hg (sqK BK155.out)); replace HO_10 := sqM (sqNe (sqN HO_10.out) hg hb); replace HO_47 := sqM (sqVe (sqV HO_47.out) hg hb); replace HO_156004 := sqM (sqVe (sqV HO_156004.out) hg hb); replace HO_156005 := sqM (sqVe (sqV HO_156005.out) hg hb); replace BK150 := sqM (blk_below (sqK BK150.out) hb); replace BK155 := sqM (blk_below (sqK BK155.out) hb); replace HB := sqM (below_step (sqB2 HB.out GE150.out GE155.out) hb); clear hb hbox hg; have hnb74 := NB162_150.out; have hnc74 := NB150_162.out; have hnb75 := NB162_155.out; have hnc75 := NB155_162.out; obtain ⟨hcz76_0, hcz76_1, hfz76_0, hfz76_1⟩ := sqF2 BK162.out; have hnb77 := NB155_150.out; have hnc77 := NB150_155.out; obtain ⟨hcz78_0, hcz78_1, hcz78_2, hcz78_3, hcz78_4, hcz78_5, hcz78_6, hcz78_7, hcz78_8, hfz78_0, hfz78_1, hfz78_2, hfz78_3, hfz78_4, hfz78_5, hfz78_6, hfz78_7, hfz78_8⟩ := sqF9 BK155.out) | ((with_reducible refine gate_callee (f := 68) rfl ?_); refine goesL_ (some 57) rfl rfl Try.func68 (by kernel_rfl) rfl #[.agg #[.int .i64 ((rd_T66 t151 x12_1).f2.f0), .int .i64 ((rd_T66 t151 x12_1).f2.f1), .slice A154_4 ((rd_T66 t151 x12_1).f2.f2).length c154_4, .slice (some ad161) ((rd_T66 t151 x12_1).f2.f3).length c154_5, .int .i64 ((rd_T66 t151 x12_1).f2.f4), .int .i64 ((rd_T66 t151 x12_1).f2.f5), .int .i64 ((rd_T66 t151 x12_1).f2.f6)], .int .i64 ((rd_T59 ((rd_T66 t151 x12_1).f2.f3) x49_3).f1)] rfl sqA ?_; (with_reducible refine (conf_inside.calls _ _ _ _ _ _ _ _ _ _ _ _ _ _ ?side1 ?side2 ?side3 ?side4 A70.out).mono ?_); (case side1 => refine (Kd.V_reads' (e := 62) (base := w.heap.size) (ok := fun k_ => ((some k_ ≠ (.slice (some ad154) t151.length co6 : Value).ownBlock ∧ (k_ ≠ gb150 ∧ k_ ≠ gb155)) ∧ k_ ≠ gb162)) (n := ((rd_T66 t151 x12_1).f2.f2).length) (c := c154_4) ?_).2.2; exact (by refine sqV ?_; exact (sqV2 HO_156004.out (fun k_ hk => hk.2)))); (case side2 => exact (Kd.V_reads' HO_156004.out).2.1); (case side3 => refine (Kd.V_reads' (e := 59) (base := w.heap.size) (ok := fun k_ => ((some k_ ≠ (.slice (some ad154) t151.length co6 : Value).ownBlock ∧ (k_ ≠ gb150 ∧ k_ ≠ gb155)) ∧ k_ ≠ gb162)) (n := ((rd_T66 t151 x12_1).f2.f3).length) (c := c154_5) ?_).2.2; exact (by refine sqV ?_; exact (sqV2 HO_156005.out (fun k_ hk => hk.2)))); (case side4 => exact (Kd.V_reads' HO_156005.out).2.1); rintro e w79 ⟨rfl, hb⟩; refine ⟨_, rfl, ?_⟩; replace HO_10 := sqM (Kd.N_below (by refine sqN ?_; exact (sqN2 HO_10.out (fun k_ hk => hk.2))) hb); replace HO_47 := sqM (Kd.V_below (by refine sqV ?_; exact (sqV2 HO_47.out (fun k_ hk => hk.2))) hb); replace HO_156004 := sqM (Kd.V_below (by refine sqV ?_; exact (sqV2 HO_156004.out (fun k_ hk => hk.2))) hb); replace HO_156005 := sqM (Kd.V_below (by refine sqV ?_; exact (sqV2 HO_156005.out (fun k_ hk => hk.2))) hb); replace BK150 := sqM (blk_below (sqK (sqX2 BK150.out NB150_162.out)) hb); replace BK155 := sqM (blk_below (sqK (sqX2 BK155.out NB155_162.out)) hb); replace BK162 := sqM (blk_below (sqK (sqP2 BK162.out)) hb); replace HB := sqM (below_step (sqB3 HB.out GE150.out GE155.out GE162.out) hb); (try clear hb); (try clear hb2); (try clear hk); (try clear hi); obtain ⟨hcz80_0, hcz80_1, hfz80_0, hfz80_1⟩ := sqF2 BK162.out; obtain ⟨hcz81_0, hcz81_1, hcz81_2, hfz81_0, hfz81_1, hfz81_2⟩ := sqF3 BK150.out))
   go_ret
   exact ⟨sqE, sqB3 HB.out GE150.out GE155.out GE162.out⟩
 rw [if_neg c72] at H
 have c72b0 : (((rd_T59 ((rd_T66 t151 x12_1).f2.f3) x49_3).f1) == a0_0) = false := beq_eq_false_iff_ne.mpr c72
 have c72b1 : (((rd_T59 ((rd_T66 t151 x12_1).f2.f3) x49_3).f1) != a0_0) = true := bne_iff_ne.mpr c72
 have H' := Aside0.mk H
 clear H
 have p161 : 0 ≤ (x49_3 : Int) := of_decide_eq_true sqH
 have q161 : x49_3 < (((rd_T66 t151 x12_1).f2.f3).length : Int) := of_decide_eq_true sqH
 obtain ⟨ad161, e161, hx161_0, hx161_1⟩ := at_T59 (Kd.V_reads' HO_47.out).2.2 x49_3 p161 q161
 cases e161
 replace p161 := eq_true p161
 replace q161 := eq_true q161
 go_wp2_with (first | ((with_reducible refine gate_dst (N := 8) rfl ?_); refine box_event rfl (N := 8) rfl (cs := #[.string (⟨#[]⟩ : ByteArray), .int .i64 0]) (t := 59) sqs ?_; intro gb162 hg w82 hbox hb; have BK162 := sqM (hbox); have GW162 := sqM (sqZ hg (sqB2 HB.out GE150.out GE155.out)); have GE162 := sqM (sqZ hg (sqB2 HB.out GE150.out GE155.out)); have NB150_162 := sqM (sqL hg (sqK BK150.out)); have NB162_150 := sqM (sqG hg (sqK BK150.out)); have NB155_162 := sqM (sqL hg (sqK BK155.out)); have NB162_155 := sqM (sqG hg (sqK BK155.out)); replace HO_10 := sqM (sqNe (sqN HO_10.out) hg hb); replace HO_47 := sqM (sqVe (sqV HO_47.out) hg hb); replace HO_156004 := sqM (sqVe (sqV HO_156004.out) hg hb); replace HO_156005 := sqM (sqVe (sqV HO_156005.out) hg hb); replace BK150 := sqM (blk_below (sqK BK150.out) hb); replace BK155 := sqM (blk_below (sqK BK155.out) hb); replace HB := sqM (below_step (sqB2 HB.out GE150.out GE155.out) hb); clear hb hbox hg; have hnb83 := NB162_150.out; have hnc83 := NB150_162.out; have hnb84 := NB162_155.out; have hnc84 := NB155_162.out; obtain ⟨hcz85_0, hcz85_1, hfz85_0, hfz85_1⟩ := sqF2 BK162.out; have hnb86 := NB155_150.out; have hnc86 := NB150_155.out; obtain ⟨hcz87_0, hcz87_1, hcz87_2, hcz87_3, hcz87_4, hcz87_5, hcz87_6, hcz87_7, hcz87_8, hfz87_0, hfz87_1, hfz87_2, hfz87_3, hfz87_4, hfz87_5, hfz87_6, hfz87_7, hfz87_8⟩ := sqF9 BK155.out) | ((with_reducible refine gate_callee (f := 68) rfl ?_); refine goesL_ (some 57) rfl rfl Try.func68 (by kernel_rfl) rfl #[.agg #[.int .i64 ((rd_T66 t151 x12_1).f2.f0), .int .i64 ((rd_T66 t151 x12_1).f2.f1), .slice A154_4 ((rd_T66 t151 x12_1).f2.f2).length c154_4, .slice (some ad161) ((rd_T66 t151 x12_1).f2.f3).length c154_5, .int .i64 ((rd_T66 t151 x12_1).f2.f4), .int .i64 ((rd_T66 t151 x12_1).f2.f5), .int .i64 ((rd_T66 t151 x12_1).f2.f6)], .int .i64 ((rd_T59 ((rd_T66 t151 x12_1).f2.f3) x49_3).f1)] rfl sqA ?_; (with_reducible refine (conf_inside.calls _ _ _ _ _ _ _ _ _ _ _ _ _ _ ?side1 ?side2 ?side3 ?side4 A70.out).mono ?_); (case side1 => refine (Kd.V_reads' (e := 62) (base := w.heap.size) (ok := fun k_ => ((some k_ ≠ (.slice (some ad154) t151.length co6 : Value).ownBlock ∧ (k_ ≠ gb150 ∧ k_ ≠ gb155)) ∧ k_ ≠ gb162)) (n := ((rd_T66 t151 x12_1).f2.f2).length) (c := c154_4) ?_).2.2; exact (by refine sqV ?_; exact (sqV2 HO_156004.out (fun k_ hk => hk.2)))); (case side2 => exact (Kd.V_reads' HO_156004.out).2.1); (case side3 => refine (Kd.V_reads' (e := 59) (base := w.heap.size) (ok := fun k_ => ((some k_ ≠ (.slice (some ad154) t151.length co6 : Value).ownBlock ∧ (k_ ≠ gb150 ∧ k_ ≠ gb155)) ∧ k_ ≠ gb162)) (n := ((rd_T66 t151 x12_1).f2.f3).length) (c := c154_5) ?_).2.2; exact (by refine sqV ?_; exact (sqV2 HO_156005.out (fun k_ hk => hk.2)))); (case side4 => exact (Kd.V_reads' HO_156005.out).2.1); rintro e w88 ⟨rfl, hb⟩; refine ⟨_, rfl, ?_⟩; replace HO_10 := sqM (Kd.N_below (by refine sqN ?_; exact (sqN2 HO_10.out (fun k_ hk => hk.2))) hb); replace HO_47 := sqM (Kd.V_below (by refine sqV ?_; exact (sqV2 HO_47.out (fun k_ hk => hk.2))) hb); replace HO_156004 := sqM (Kd.V_below (by refine sqV ?_; exact (sqV2 HO_156004.out (fun k_ hk => hk.2))) hb); replace HO_156005 := sqM (Kd.V_below (by refine sqV ?_; exact (sqV2 HO_156005.out (fun k_ hk => hk.2))) hb); replace BK150 := sqM (blk_below (sqK (sqX2 BK150.out NB150_162.out)) hb); replace BK155 := sqM (blk_below (sqK (sqX2 BK155.out NB155_162.out)) hb); replace BK162 := sqM (blk_below (sqK (sqP2 BK162.out)) hb); replace HB := sqM (below_step (sqB3 HB.out GE150.out GE155.out GE162.out) hb); (try clear hb); (try clear hb2); (try clear hk); (try clear hi); obtain ⟨hcz89_0, hcz89_1, hfz89_0, hfz89_1⟩ := sqF2 BK162.out; obtain ⟨hcz90_0, hcz90_1, hcz90_2, hfz90_0, hfz90_1, hfz90_2⟩ := sqF3 BK150.out))
 go_roundg k3
 case measure => have := HK1.out; have := HK2.out; have := HK3.out; omega
 case rel => exact ⟨(wrap64 (x49_3 + 1)), sqI, H', ⟨by have := HK1.out; have := HK2.out; have := HK3.out; omega⟩, ⟨by refine sqN ?_; exact Kd.N_mono HO_10.out (fun _ hk => ⟨hk.1.1, hk.1.2⟩)⟩, ⟨by refine sqV ?_; exact Kd.V_mono HO_47.out (fun _ hk => ⟨hk.1.1, ⟨hk.1.2.1, hk.1.2.2⟩⟩)⟩, ⟨by refine sqV ?_; exact Kd.V_mono HO_156004.out (fun _ hk => ⟨hk.1.1, ⟨hk.1.2.1, hk.1.2.2⟩⟩)⟩, ⟨by refine sqV ?_; exact Kd.V_mono HO_156005.out (fun _ hk => ⟨hk.1.1, ⟨hk.1.2.1, hk.1.2.2⟩⟩)⟩, ⟨sqK BK150.out⟩, ⟨sqK BK155.out⟩, ⟨sqB3 HB.out GE150.out GE155.out GE162.out⟩⟩

/-! ### addr_Meet: function 86 -/
def addr_Meet.f (a0 : Int) (a1 : Int) (a2 : Int) (a3 : Int) : Option (Bool) := (addr_Fair.f a0 a1).bind fun t165 => (if t165 = true then ((addr_Fair.f a2 a3).bind fun t166 => (if t166 = true then ((addr_Has.f a0 a1 a2).bind fun t167 => (if t167 = true then (some true) else ((addr_Has.f a2 a3 a0).bind fun t168 => (some t168)))) else (some false))) else (some false))
set_option maxHeartbeats 8000000 in
set_option maxRecDepth 100000 in
theorem addr_Meet.calls (a0 : Int) (a1 : Int) (a2 : Int) (a3 : Int) (r : Bool) (w : World) (h : addr_Meet.f a0 a1 a2 a3 = some r) :
    Calls Try.prog 86 #[.int .i64 a0, .int .i64 a1, .int .i64 a2, .int .i64 a3] w fun e w' => e = .returned (.bool r) ∧ Drawn0 w w' := by
 have H : ((addr_Fair.f a0 a1).bind fun t165 => (if t165 = true then ((addr_Fair.f a2 a3).bind fun t166 => (if t166 = true then ((addr_Has.f a0 a1 a2).bind fun t167 => (if t167 = true then (some true) else ((addr_Has.f a2 a3 a0).bind fun t168 => (some t168)))) else (some false))) else (some false))) = some r := h
 clear h
 replace H := Option.bind_eq_some_iff.mp H
 obtain ⟨t165, A50, H⟩ := H
 replace H : (if t165 = true then ((addr_Fair.f a2 a3).bind fun t166 => (if t166 = true then ((addr_Has.f a0 a1 a2).bind fun t167 => (if t167 = true then (some true) else ((addr_Has.f a2 a3 a0).bind fun t168 => (some t168)))) else (some false))) else (some false)) = some r := H
 have A5 := Aside0.mk A50
 clear A50
 by_cases c6 : t165 = true
 rotate_left
 · replace c6 := Bool.eq_false_iff.mpr c6
   subst c6
   have H1 : (some false) = some r := by rw [if_neg (show ¬ (false = true) by decide)] at H; exact H
   clear H
   have H := H1
   clear H1
   obtain rfl := Option.some.inj H
   go_enter Try.func86, Try.ntmps86
   go_wp2_with (first | ((with_reducible refine gate_callee (f := 75) rfl ?_); refine goesL_ (some 11) rfl rfl Try.func75 (by kernel_rfl) rfl #[.int .i64 a0, .int .i64 a1] rfl sqA ?_; (with_reducible refine (addr_Fair.calls _ _ _ _ A5.out).mono ?_); rintro e w' ⟨rfl, ⟨nd, rfl⟩⟩; refine ⟨_, rfl, ?_⟩))
   go_ret
   exact ⟨sqI, sqD⟩
 subst c6
 have H1 : ((addr_Fair.f a2 a3).bind fun t166 => (if t166 = true then ((addr_Has.f a0 a1 a2).bind fun t167 => (if t167 = true then (some true) else ((addr_Has.f a2 a3 a0).bind fun t168 => (some t168)))) else (some false))) = some r := by rw [if_pos rfl] at H; exact H
 clear H
 have H := H1
 clear H1
 replace H := Option.bind_eq_some_iff.mp H
 obtain ⟨t166, A70, H⟩ := H
 replace H : (if t166 = true then ((addr_Has.f a0 a1 a2).bind fun t167 => (if t167 = true then (some true) else ((addr_Has.f a2 a3 a0).bind fun t168 => (some t168)))) else (some false)) = some r := H
 have A7 := Aside0.mk A70
 clear A70
 by_cases c8 : t166 = true
 rotate_left
 · replace c8 := Bool.eq_false_iff.mpr c8
   subst c8
   have H1 : (some false) = some r := by rw [if_neg (show ¬ (false = true) by decide)] at H; exact H
   clear H
   have H := H1
   clear H1
   obtain rfl := Option.some.inj H
   go_enter Try.func86, Try.ntmps86
   go_wp2_with (first | ((with_reducible refine gate_callee (f := 75) rfl ?_); refine goesL_ (some 11) rfl rfl Try.func75 (by kernel_rfl) rfl #[.int .i64 a0, .int .i64 a1] rfl sqA ?_; (with_reducible refine (addr_Fair.calls _ _ _ _ A5.out).mono ?_); rintro e w' ⟨rfl, ⟨nd, rfl⟩⟩; refine ⟨_, rfl, ?_⟩) | (go_at_call 75; (with_reducible refine (addr_Fair.calls _ _ _ _ A7.out).mono ?_); rintro e w' ⟨rfl, ⟨nd, rfl⟩⟩))
   go_ret
   exact ⟨sqI, sqD⟩
 subst c8
 have H1 : ((addr_Has.f a0 a1 a2).bind fun t167 => (if t167 = true then (some true) else ((addr_Has.f a2 a3 a0).bind fun t168 => (some t168)))) = some r := by rw [if_pos rfl] at H; exact H
 clear H
 have H := H1
 clear H1
 replace H := Option.bind_eq_some_iff.mp H
 obtain ⟨t167, A90, H⟩ := H
 replace H : (if t167 = true then (some true) else ((addr_Has.f a2 a3 a0).bind fun t168 => (some t168))) = some r := H
 have A9 := Aside0.mk A90
 clear A90
 by_cases c10 : t167 = true
 · subst c10
   have H1 : (some true) = some r := by rw [if_pos rfl] at H; exact H
   clear H
   have H := H1
   clear H1
   obtain rfl := Option.some.inj H
   go_enter Try.func86, Try.ntmps86
   go_wp2_with (first | ((with_reducible refine gate_callee (f := 75) rfl ?_); refine goesL_ (some 11) rfl rfl Try.func75 (by kernel_rfl) rfl #[.int .i64 a0, .int .i64 a1] rfl sqA ?_; (with_reducible refine (addr_Fair.calls _ _ _ _ A5.out).mono ?_); rintro e w' ⟨rfl, ⟨nd, rfl⟩⟩; refine ⟨_, rfl, ?_⟩) | (go_at_call 75; (with_reducible refine (addr_Fair.calls _ _ _ _ A7.out).mono ?_); rintro e w' ⟨rfl, ⟨nd, rfl⟩⟩) | (go_at_call 49; (with_reducible refine (addr_Has.calls _ _ _ _ _ A9.out).mono ?_); rintro e w' ⟨rfl, ⟨nd, rfl⟩⟩))
   go_ret
   exact ⟨sqI, sqD⟩
 replace c10 := Bool.eq_false_iff.mpr c10
 subst c10
 have H1 : ((addr_Has.f a2 a3 a0).bind fun t168 => (some t168)) = some r := by rw [if_neg (show ¬ (false = true) by decide)] at H; exact H
 clear H
 have H := H1
 clear H1
 replace H := Option.bind_eq_some_iff.mp H
 obtain ⟨t168, A110, H⟩ := H
 replace H : (some t168) = some r := H
 have A11 := Aside0.mk A110
 clear A110
 obtain rfl := Option.some.inj H
 go_enter Try.func86, Try.ntmps86
 go_wp2_with (first | ((with_reducible refine gate_callee (f := 75) rfl ?_); refine goesL_ (some 11) rfl rfl Try.func75 (by kernel_rfl) rfl #[.int .i64 a0, .int .i64 a1] rfl sqA ?_; (with_reducible refine (addr_Fair.calls _ _ _ _ A5.out).mono ?_); rintro e w' ⟨rfl, ⟨nd, rfl⟩⟩; refine ⟨_, rfl, ?_⟩) | (go_at_call 75; (with_reducible refine (addr_Fair.calls _ _ _ _ A7.out).mono ?_); rintro e w' ⟨rfl, ⟨nd, rfl⟩⟩) | (go_at_call 49; (with_reducible refine (addr_Has.calls _ _ _ _ _ A9.out).mono ?_); rintro e w' ⟨rfl, ⟨nd, rfl⟩⟩) | (go_at_call 49; (with_reducible refine (addr_Has.calls _ _ _ _ _ A11.out).mono ?_); rintro e w' ⟨rfl, ⟨nd, rfl⟩⟩))
 go_ret
 exact ⟨sqI, sqD⟩

end Go.Proofs.Ytdcabfonjmeajaa.PConf
