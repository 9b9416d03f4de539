/- Lean functions for Go functions of the given program, and proofs that the code computes them, each under its theorem's own conditions. Written by a program of this session. -/
import Derived.Test.YtdcabfonjmeajaaPConfx0
import Derived.Test.YtdcabfonjmeajaaPConfx3
import Derived.Test.YtdcabfonjmeajaaPConfx6
namespace Go.Proofs.Ytdcabfonjmeajaa.PConf
open Go.RowKit Go.Proofs.YtdcabfonjmeajaaW.PrintWords Go.Proofs.YtdcabfonjmeajaaW.PrintLast Go.Proofs.YtdcabfonjmeajaaW.PrintMore
attribute [local go_sem] max2_int min2_int max_two min_two max_three min_three max_four min_four   -- for this text's walks alone
set_option linter.unusedVariables false
set_option linter.unusedSimpArgs false

/-! ### conf_InPool: function 22 -/
mutual
def conf_InPool.l0 : Nat → Int → Int → List (S66) → Int → Int → Option (Bool)
  | 0, _, _, _, _, _ => none
  | k + 1, x1, x2, x12, x13, x14 => if x14 < x13 then (if 0 ≤ x14 then (if x14 < (x12.length : Int) then (conf_InPool.l1 k x1 x2 x12 x13 x14 ((rd_T66 x12 x14).f2.f2) (((rd_T66 x12 x14).f2.f2).length : Int) 0 ((rd_T66 x12 x14).f0) ((rd_T66 x12 x14).f1) ((rd_T66 x12 x14).f2.f0) ((rd_T66 x12 x14).f2.f1) ((rd_T66 x12 x14).f2.f2) ((rd_T66 x12 x14).f2.f3) ((rd_T66 x12 x14).f2.f4) ((rd_T66 x12 x14).f2.f5) ((rd_T66 x12 x14).f2.f6)) else (none)) else (none)) else (some false)
def conf_InPool.l1 : Nat → Int → Int → List (S66) → Int → Int → List (S62) → Int → Int → Int → Int → Int → Int → List (S62) → List (S59) → Int → Int → Int → Option (Bool)
  | 0, _, _, _, _, _, _, _, _, _, _, _, _, _, _, _, _, _ => none
  | k + 1, x1, x2, x12, x13, x14, x20, x21, x22, x222000, x222001, x222002, x222003, x222004, x222005, x222006, x222007, x222008 => if x22 < x21 then (if 0 ≤ x22 then (if x22 < (x20.length : Int) then (if x222000 = x1 then ((conf_has.f ((rd_T62 x20 x22).f0) ((rd_T62 x20 x22).f1) x2).bind fun t224 => (if t224 = true then (some true) else (conf_InPool.l1 k x1 x2 x12 x13 x14 x20 x21 (wrap64 (x22 + 1)) x222000 x222001 x222002 x222003 x222004 x222005 x222006 x222007 x222008))) else (conf_InPool.l1 k x1 x2 x12 x13 x14 x20 x21 (wrap64 (x22 + 1)) x222000 x222001 x222002 x222003 x222004 x222005 x222006 x222007 x222008)) else (none)) else (none)) else (conf_InPool.l0 k x1 x2 x12 x13 (wrap64 (x14 + 1)))
end
def conf_InPool.f (k : Nat) (a0_0 : Int) (a0_1 : Int) (l0_2 : List (S41)) (a1 : Int) (a2 : Int) : Option (Bool) := (conf_right.f k a0_0 a0_1 l0_2).bind fun t217 => (conf_InPool.l0 k a1 a2 t217 (t217.length : Int) 0)
theorem conf_InPool.mono_l : ∀ k, (∀ y0 y1 y2 y3 y4, LeO (conf_InPool.l0 k y0 y1 y2 y3 y4) (conf_InPool.l0 (k + 1) y0 y1 y2 y3 y4)) ∧ (∀ y0 y1 y2 y3 y4 y5 y6 y7 y8 y9 y10 y11 y12 y13 y14 y15 y16, LeO (conf_InPool.l1 k y0 y1 y2 y3 y4 y5 y6 y7 y8 y9 y10 y11 y12 y13 y14 y15 y16) (conf_InPool.l1 (k + 1) y0 y1 y2 y3 y4 y5 y6 y7 y8 y9 y10 y11 y12 y13 y14 y15 y16))
  | 0 => ⟨fun _ _ _ _ _ r h => by simp [conf_InPool.l0] at h, fun _ _ _ _ _ _ _ _ _ _ _ _ _ _ _ _ _ r h => by simp [conf_InPool.l1] at h⟩
  | k + 1 => by
    obtain ⟨ih0, ih1⟩ := conf_InPool.mono_l k
    refine ⟨?_, ?_⟩
    · intro y0 y1 y2 y3 y4
      unfold conf_InPool.l0
      repeat' first
      | (with_reducible exact ih0 _ _ _ _ _)
      | (with_reducible exact ih1 _ _ _ _ _ _ _ _ _ _ _ _ _ _ _ _ _)
      | (with_reducible exact conf_right.mono _ _ _ _)
      | (with_reducible exact LeO.refl _)
      | (with_reducible exact LeO.none _)
      | (with_reducible refine LeO.ite ?_ ?_)
      | (with_reducible refine LeO.bind ?_ (fun _ => ?_))
    · intro y0 y1 y2 y3 y4 y5 y6 y7 y8 y9 y10 y11 y12 y13 y14 y15 y16
      unfold conf_InPool.l1
      repeat' first
      | (with_reducible exact ih0 _ _ _ _ _)
      | (with_reducible exact ih1 _ _ _ _ _ _ _ _ _ _ _ _ _ _ _ _ _)
      | (with_reducible exact conf_right.mono _ _ _ _)
      | (with_reducible exact LeO.refl _)
      | (with_reducible exact LeO.none _)
      | (with_reducible refine LeO.ite ?_ ?_)
      | (with_reducible refine LeO.bind ?_ (fun _ => ?_))
theorem conf_InPool.mono : ∀ a0 a1 a2 a3 a4 k, LeO (conf_InPool.f k a0 a1 a2 a3 a4) (conf_InPool.f (k + 1) a0 a1 a2 a3 a4) := by
 intro a0 a1 a2 a3 a4 k
 obtain ⟨ih0, ih1⟩ := conf_InPool.mono_l k
 unfold conf_InPool.f
 repeat' first
  | (with_reducible exact ih0 _ _ _ _ _)
  | (with_reducible exact ih1 _ _ _ _ _ _ _ _ _ _ _ _ _ _ _ _ _)
  | (with_reducible exact conf_right.mono _ _ _ _)
  | (with_reducible exact LeO.refl _)
  | (with_reducible exact LeO.none _)
  | (with_reducible refine LeO.ite ?_ ?_)
  | (with_reducible refine LeO.bind ?_ (fun _ => ?_))
set_option maxHeartbeats 8000000 in
set_option maxRecDepth 100000 in
theorem conf_InPool.calls (k : Nat) (a0_0 : Int) (a0_1 : Int) (A0_2 : Option Addr) (c0_2 : Nat) (l0_2 : List (S41)) (a1 : Int) (a2 : Int) (r : Bool) (w : World) (hr0_2 : Kd.C k41 w A0_2 l0_2.length l0_2) (hc0_2 : l0_2.length ≤ c0_2) (h : conf_InPool.f k a0_0 a0_1 l0_2 a1 a2 = some r) :
    Calls Try.prog 22 #[.agg #[.int .i64 a0_0, .int .i64 a0_1, .slice A0_2 l0_2.length c0_2], .int .i64 a1, .int .i64 a2] w fun e w' => e = .returned (.bool r) ∧ Below w.heap.size w w' := by
 have hu24 := Try.underlying24
 have hu66 := Try.underlying66
 have hu62 := Try.underlying62
 have HR0_2 := Aside0.mk hr0_2
 have HC0_2 := Aside0.mk hc0_2
 clear hr0_2 hc0_2
 have HB := Aside0.mk (Below.refl w.heap.size w)
 have H : ((conf_right.f k a0_0 a0_1 l0_2).bind fun t217 => (conf_InPool.l0 k a1 a2 t217 (t217.length : Int) 0)) = some r := h
 clear h
 replace H := Option.bind_eq_some_iff.mp H
 obtain ⟨t217, A40, H⟩ := H
 replace H : (conf_InPool.l0 k a1 a2 t217 (t217.length : Int) 0) = some r := H
 have A4 := Aside0.mk A40
 clear A40
 have H' := Aside0.mk H
 clear H
 go_enter Try.func22, Try.ntmps22
 go_wp2_with (first | ((with_reducible refine gate_dst (N := 3) rfl ?_); refine box_event rfl (N := 3) rfl (cs := #[.int .i64 a0_0, .int .i64 a0_1, .slice A0_2 l0_2.length c0_2]) (t := 24) sqs ?_; intro gb216 hg w5 hbox hb; have BK216 := sqM (hbox); have GW216 := sqM (sqZ hg (sqB HB.out)); have GE216 := sqM (sqZ hg (sqB HB.out)); replace HB := sqM (below_step (sqB HB.out) hb); clear hb hbox hg; obtain ⟨hcz6_0, hcz6_1, hcz6_2, hfz6_0, hfz6_1, hfz6_2⟩ := sqF3 BK216.out) | ((with_reducible refine gate_callee (f := 46) rfl ?_); refine goesL_ (some 12) rfl rfl Try.func46 (by kernel_rfl) rfl #[.agg #[.int .i64 a0_0, .int .i64 a0_1, .slice A0_2 l0_2.length c0_2]] rfl sqA ?_; (with_reducible refine (conf_right.calls _ _ _ (fun k_ => k_ < w.heap.size) _ _ _ _ _ ?side1 A4.out).mono ?_); (case side1 => exact Kd.V_mk HC0_2.out (Kd.F_below (Kd.C_F k41_heap HR0_2.out) (sqB1 HB.out GE216.out))); rintro e w7 ⟨v218, rfl, ho0, hb⟩; refine ⟨_, rfl, ?_⟩; have HO219 := sqM (Kd.N_lower (Kd.N_mono (ok' := fun k_ => k_ ≠ gb216) ho0 (fun k_ hk_ => Or.elim hk_ (fun hs_ => fun e_ => Nat.not_le.2 hs_ (by rw [e_]; exact GW216.out)) (fun hn_ => (Kd.freshB (g := gb216) (o := .cells #[.int .i64 a0_0, .int .i64 a0_1, .slice A0_2 l0_2.length c0_2] 24 (0, 0)) (sqK BK216.out) k_ hn_)))) (below_size (sqB1 HB.out GE216.out))); replace BK216 := sqM (blk_below (sqK BK216.out) hb); replace HB := sqM (below_step (sqB1 HB.out GE216.out) hb); (try clear hb); (try clear hb2); (try clear hk); (try clear hi); (try clear ho0); obtain ⟨Ao8, co8, eo8⟩ := Kd.N_slice HO219.out; subst eo8))
 go_loopg [14] k (fun kq v14 w' => ∃ (x14_1 : Int), v14 = .int .i64 x14_1 ∧ Aside0 (conf_InPool.l0 kq a1 a2 t217 (t217.length : Int) x14_1 = some r) ∧ Aside0 (kq ≤ k) ∧ Aside0 (Kd.N k66 66 w' w.heap.size (fun k_ => k_ ≠ gb216) (.slice Ao8 t217.length co8) t217) ∧ Aside0 (w'.heap[gb216]? = some (.cells #[.int .i64 a0_0, .int .i64 a0_1, (.slice A0_2 l0_2.length c0_2)] 24 (0, 0))) ∧ Aside0 (Below w.heap.size w w'))
 case atStart => exact ⟨(0), sqI, H', ⟨Nat.le_refl _⟩, ⟨sqN HO219.out⟩, ⟨sqK BK216.out⟩, ⟨sqB1 HB.out GE216.out⟩⟩
 clear H'
 try clear c2
 try clear p2
 try clear c4
 try clear hcz6_0 hcz6_1 hcz6_2 hfz6_0 hfz6_1 hfz6_2
 obtain ⟨x14_1, rfl, HA, HK1, HO_12, BK216, HB⟩ := hrel
 cases gk with
 | zero => exact absurd HA.out (by simp [conf_InPool.l0])
 | succ k1 => ?_
 have H := HA.out
 clear HA
 simp only [conf_InPool.l0] at H
 by_cases c9 : x14_1 < (t217.length : Int)
 rotate_left
 · rw [if_neg c9] at H
   have c9b0 : decide (x14_1 < (t217.length : Int)) = false := decide_eq_false c9
   clear c9
   obtain rfl := Option.some.inj H
   go_wp2
   go_ret
   exact ⟨sqE, sqB1 HB.out GE216.out⟩
 rw [if_pos c9] at H
 have c9b0 : decide (x14_1 < (t217.length : Int)) = true := decide_eq_true c9
 clear c9
 by_cases c10 : 0 ≤ x14_1
 rotate_left
 · rw [if_neg c10] at H
   exact absurd H (by simp)
 rw [if_pos c10] at H
 have c10b0 : decide (0 ≤ x14_1) = true := decide_eq_true c10
 clear c10
 by_cases c11 : x14_1 < (t217.length : Int)
 rotate_left
 · rw [if_neg c11] at H
   exact absurd H (by simp)
 rw [if_pos c11] at H
 have c11b0 : decide (x14_1 < (t217.length : Int)) = true := decide_eq_true c11
 clear c11
 have H' := Aside0.mk H
 clear H
 have p220 : 0 ≤ (x14_1 : Int) := of_decide_eq_true sqH
 have q220 : x14_1 < (t217.length : Int) := of_decide_eq_true sqH
 obtain ⟨ad220, A220_4, c220_4, A220_5, c220_5, e220, hx220_0, hx220_1, hx220_2, hx220_3, hx220_4, hx220_5, hx220_6, hx220_7, hx220_8, hl220_4, hi220_4, hl220_5, hi220_5⟩ := at_T66 (Kd.N_reads' HO_12.out).2.2 x14_1 p220 q220
 cases e220
 obtain ⟨ce220, hce220, hMe220, hcc220⟩ := Kd.N_get HO_12.out z66 x14_1 p220 (by first | exact q220 | exact of_decide_eq_true sqH | (have e_ := (Kd.N_reads' HO_12.out).1; omega))
 obtain ⟨ua220_4, uc220_4, ua220_5, uc220_5, rfl, ul220_4, ge220_4, ul220_5, ge220_5⟩ := k66_openF hMe220
 have hv220_4 := hcc220 4 _ rfl
 rw [add_field _ _ 4 (by omega)] at hv220_4
 replace hv220_4 := Option.some.inj (hv220_4.symm.trans hx220_4)
 injection hv220_4 with hva_ hvn_ hvc_
 rw [hva_] at ge220_4
 rw [hvc_] at ul220_4
 have HL220_4 := sqM (show Kd.V k62 62 _ w.heap.size _ _ ((rd_T66 t217 x14_1).f2.f2) from Kd.V_mk ul220_4 ge220_4)
 clear hva_ hvn_ hvc_ ge220_4 ul220_4
 have hv220_5 := hcc220 5 _ rfl
 rw [add_field _ _ 5 (by omega)] at hv220_5
 replace hv220_5 := Option.some.inj (hv220_5.symm.trans hx220_5)
 injection hv220_5 with hva_ hvn_ hvc_
 rw [hva_] at ge220_5
 rw [hvc_] at ul220_5
 have HL220_5 := sqM (show Kd.V k59 59 _ w.heap.size _ _ ((rd_T66 t217 x14_1).f2.f3) from Kd.V_mk ul220_5 ge220_5)
 clear hva_ hvn_ hvc_ ge220_5 ul220_5
 clear hcc220 hce220
 have HR220_4 := Aside0.mk hi220_4
 have HC220_4 := Aside0.mk hl220_4
 clear hi220_4 hl220_4
 have HR220_5 := Aside0.mk hi220_5
 have HC220_5 := Aside0.mk hl220_5
 clear hi220_5 hl220_5
 replace p220 := eq_true p220
 replace q220 := eq_true q220
 go_wp2_with (first | ((with_reducible refine gate_dst (N := 8) rfl ?_); refine box_event rfl (N := 8) rfl (cs := #[.int .i64 0, .int .i64 0, .int .i64 0, .int .i64 0, .slice none 0 0, .slice none 0 0, .int .i64 0, .int .i64 0, .int .i64 0]) (t := 66) sqs ?_; intro gb221 hg w12 hbox hb; have BK221 := sqM (hbox); have GW221 := sqM (sqZ hg (sqB1 HB.out GE216.out)); have GE221 := sqM (sqZ hg (sqB1 HB.out GE216.out)); have NB216_221 := sqM (sqL hg (sqK BK216.out)); have NB221_216 := sqM (sqG hg (sqK BK216.out)); replace HO_12 := sqM (sqNe (sqN HO_12.out) hg hb); replace HL220_4 := sqM (sqVe (sqV HL220_4.out) hg hb); replace HL220_5 := sqM (sqVe (sqV HL220_5.out) hg hb); replace BK216 := sqM (blk_below (sqK BK216.out) hb); replace HR220_4 := sqM (Kd.C_below (sqC HR220_4.out) hb); replace HR220_5 := sqM (Kd.C_below (sqC HR220_5.out) hb); replace HB := sqM (below_step (sqB1 HB.out GE216.out) hb); clear hb hbox hg; have hnb13 := NB221_216.out; have hnc13 := NB216_221.out; obtain ⟨hcz14_0, hcz14_1, hcz14_2, hcz14_3, hcz14_4, hcz14_5, hcz14_6, hcz14_7, hcz14_8, hfz14_0, hfz14_1, hfz14_2, hfz14_3, hfz14_4, hfz14_5, hfz14_6, hfz14_7, hfz14_8⟩ := sqF9 BK221.out))
 go_loopg [22] k1 (fun kq v22 w' => ∃ (x22_2 : Int), v22 = .int .i64 x22_2 ∧ Aside0 (conf_InPool.l1 kq a1 a2 t217 (t217.length : Int) x14_1 ((rd_T66 t217 x14_1).f2.f2) (((rd_T66 t217 x14_1).f2.f2).length : Int) x22_2 ((rd_T66 t217 x14_1).f0) ((rd_T66 t217 x14_1).f1) ((rd_T66 t217 x14_1).f2.f0) ((rd_T66 t217 x14_1).f2.f1) ((rd_T66 t217 x14_1).f2.f2) ((rd_T66 t217 x14_1).f2.f3) ((rd_T66 t217 x14_1).f2.f4) ((rd_T66 t217 x14_1).f2.f5) ((rd_T66 t217 x14_1).f2.f6) = some r) ∧ Aside0 (kq ≤ k1) ∧ Aside0 (Kd.N k66 66 w' w.heap.size (fun k_ => k_ ≠ gb216 ∧ k_ ≠ gb221) (.slice (some ad220) t217.length co8) t217) ∧ Aside0 (Kd.V k62 62 w' w.heap.size (fun k_ => some k_ ≠ ((.slice (some ad220) t217.length co8) : Value).ownBlock ∧ k_ ≠ gb216 ∧ k_ ≠ gb221) (.slice A220_4 ((rd_T66 t217 x14_1).f2.f2).length c220_4) ((rd_T66 t217 x14_1).f2.f2)) ∧ Aside0 (Kd.V k62 62 w' w.heap.size (fun k_ => some k_ ≠ ((.slice (some ad220) t217.length co8) : Value).ownBlock ∧ k_ ≠ gb216 ∧ k_ ≠ gb221) (.slice A220_4 ((rd_T66 t217 x14_1).f2.f2).length c220_4) ((rd_T66 t217 x14_1).f2.f2)) ∧ Aside0 (Kd.V k59 59 w' w.heap.size (fun k_ => some k_ ≠ ((.slice (some ad220) t217.length co8) : Value).ownBlock ∧ k_ ≠ gb216 ∧ k_ ≠ gb221) (.slice A220_5 ((rd_T66 t217 x14_1).f2.f3).length c220_5) ((rd_T66 t217 x14_1).f2.f3)) ∧ Aside0 (w'.heap[gb216]? = some (.cells #[.int .i64 a0_0, .int .i64 a0_1, (.slice A0_2 l0_2.length c0_2)] 24 (0, 0))) ∧ Aside0 (w'.heap[gb221]? = some (.cells #[.int .i64 ((rd_T66 t217 x14_1).f0), .int .i64 ((rd_T66 t217 x14_1).f1), .int .i64 ((rd_T66 t217 x14_1).f2.f0), .int .i64 ((rd_T66 t217 x14_1).f2.f1), (.slice A220_4 ((rd_T66 t217 x14_1).f2.f2).length c220_4), (.slice A220_5 ((rd_T66 t217 x14_1).f2.f3).length c220_5), .int .i64 ((rd_T66 t217 x14_1).f2.f4), .int .i64 ((rd_T66 t217 x14_1).f2.f5), .int .i64 ((rd_T66 t217 x14_1).f2.f6)] 66 (0, 0))) ∧ Aside0 (Below w.heap.size w w'))
 case atStart => exact ⟨(0), sqI, H', ⟨Nat.le_refl _⟩, ⟨by refine sqN ?_; exact Kd.N_mono (sqN9 (Kd.N_mono HO_12.out (fun k_ hk => (⟨hk, hk.2⟩ : _ ∧ k_ ≠ gb221))) (fun _ hk => hk.2)) (fun _ hk => ⟨hk.1.1, hk.1.2⟩)⟩, ⟨by refine sqV ?_; exact Kd.V_mono (sqV9 (Kd.V_mono HL220_4.out (fun k_ hk => (⟨hk, hk.2⟩ : _ ∧ k_ ≠ gb221))) (fun _ hk => hk.2)) (fun _ hk => ⟨hk.1.1.2, ⟨hk.1.1.1, hk.1.2⟩⟩)⟩, ⟨by refine sqV ?_; exact Kd.V_mono (sqV9 (Kd.V_mono HL220_4.out (fun k_ hk => (⟨hk, hk.2⟩ : _ ∧ k_ ≠ gb221))) (fun _ hk => hk.2)) (fun _ hk => ⟨hk.1.1.2, ⟨hk.1.1.1, hk.1.2⟩⟩)⟩, ⟨by refine sqV ?_; exact Kd.V_mono (sqV9 (Kd.V_mono HL220_5.out (fun k_ hk => (⟨hk, hk.2⟩ : _ ∧ k_ ≠ gb221))) (fun _ hk => hk.2)) (fun _ hk => ⟨hk.1.1.2, ⟨hk.1.1.1, hk.1.2⟩⟩)⟩, ⟨(sqK (sqX9 BK216.out NB216_221.out))⟩, ⟨(sqK (sqP9 BK221.out))⟩, ⟨sqB2 HB.out GE216.out GE221.out⟩⟩
 clear H'
 try clear c1
 try clear c2
 try clear p2
 try clear q2
 try clear hx2
 try clear c4
 try clear c9
 try clear c9b0
 try clear c10
 try clear c10b0
 try clear c11
 try clear c11b0
 try clear c13
 try clear hcz14_0 hcz14_1 hcz14_2 hcz14_3 hcz14_4 hcz14_5 hcz14_6 hcz14_7 hcz14_8
 try clear hcz6_0 hcz6_1 hcz6_2
 try clear hfz14_0 hfz14_1 hfz14_2 hfz14_3 hfz14_4 hfz14_5 hfz14_6 hfz14_7 hfz14_8
 try clear hfz6_0 hfz6_1 hfz6_2
 try clear hx220_0 hx220_1 hx220_2 hx220_3 hx220_4 hx220_5 hx220_6 hx220_7 hx220_8
 try clear p2
 try clear p220
 try clear q220
 obtain ⟨x22_2, rfl, HA, HK2, HO_12, HO_20, HO_222004, HO_222005, BK216, BK221, HB⟩ := hrel
 cases gk with
 | zero => exact absurd HA.out (by simp [conf_InPool.l1])
 | succ k2 => ?_
 have H := HA.out
 clear HA
 simp only [conf_InPool.l1] at H
 by_cases c15 : x22_2 < (((rd_T66 t217 x14_1).f2.f2).length : Int)
 rotate_left
 · rw [if_neg c15] at H
   have c15b0 : decide (x22_2 < (((rd_T66 t217 x14_1).f2.f2).length : Int)) = false := decide_eq_false c15
   clear c15
   have H' := Aside0.mk H
   clear H
   go_wp2
   go_roundg k2
   case measure => have := HK1.out; have := HK2.out; omega
   case rel => exact ⟨(wrap64 (x14_1 + 1)), sqI, H', ⟨by have := HK1.out; have := HK2.out; omega⟩, ⟨by refine sqN ?_; exact Kd.N_mono HO_12.out (fun _ hk => hk.1)⟩, ⟨sqK BK216.out⟩, ⟨sqB2 HB.out GE216.out GE221.out⟩⟩
 rw [if_pos c15] at H
 have c15b0 : decide (x22_2 < (((rd_T66 t217 x14_1).f2.f2).length : Int)) = true := decide_eq_true c15
 clear c15
 by_cases c16 : 0 ≤ x22_2
 rotate_left
 · rw [if_neg c16] at H
   exact absurd H (by simp)
 rw [if_pos c16] at H
 have c16b0 : decide (0 ≤ x22_2) = true := decide_eq_true c16
 clear c16
 by_cases c17 : x22_2 < (((rd_T66 t217 x14_1).f2.f2).length : Int)
 rotate_left
 · rw [if_neg c17] at H
   exact absurd H (by simp)
 rw [if_pos c17] at H
 have c17b0 : decide (x22_2 < (((rd_T66 t217 x14_1).f2.f2).length : Int)) = true := decide_eq_true c17
 clear c17
 by_cases c18 : ((rd_T66 t217 x14_1).f0) = a1
 rotate_left
 · rw [if_neg c18] at H
   have c18b0 : (((rd_T66 t217 x14_1).f0) == a1) = false := beq_eq_false_iff_ne.mpr c18
   have c18b1 : (((rd_T66 t217 x14_1).f0) != a1) = true := bne_iff_ne.mpr c18
   have H' := Aside0.mk H
   clear H
   have p222 : 0 ≤ (x22_2 : Int) := of_decide_eq_true sqH
   have q222 : x22_2 < (((rd_T66 t217 x14_1).f2.f2).length : Int) := of_decide_eq_true sqH
   obtain ⟨ad222, e222, hx222_0, hx222_1⟩ := at_T62 (Kd.V_reads' HO_20.out).2.2 x22_2 p222 q222
   cases e222
   replace p222 := eq_true p222
   replace q222 := eq_true q222
   go_wp2_with (first | ((with_reducible refine gate_dst (N := 10) rfl ?_); refine box_event rfl (N := 10) rfl (cs := #[.int .i64 0, .int .i64 0]) (t := 62) sqs ?_; intro gb223 hg w35 hbox hb; have BK223 := sqM (hbox); have GW223 := sqM (sqZ hg (sqB2 HB.out GE216.out GE221.out)); have GE223 := sqM (sqZ hg (sqB2 HB.out GE216.out GE221.out)); have NB216_223 := sqM (sqL hg (sqK BK216.out)); have NB223_216 := sqM (sqG hg (sqK BK216.out)); have NB221_223 := sqM (sqL hg (sqK BK221.out)); have NB223_221 := sqM (sqG hg (sqK BK221.out)); replace HO_12 := sqM (sqNe (sqN HO_12.out) hg hb); replace HO_20 := sqM (sqVe (sqV HO_20.out) hg hb); replace HO_222004 := sqM (sqVe (sqV HO_222004.out) hg hb); replace HO_222005 := sqM (sqVe (sqV HO_222005.out) hg hb); replace BK216 := sqM (blk_below (sqK BK216.out) hb); replace BK221 := sqM (blk_below (sqK BK221.out) hb); replace HB := sqM (below_step (sqB2 HB.out GE216.out GE221.out) hb); clear hb hbox hg; have hnb36 := NB223_216.out; have hnc36 := NB216_223.out; have hnb37 := NB223_221.out; have hnc37 := NB221_223.out; obtain ⟨hcz38_0, hcz38_1, hfz38_0, hfz38_1⟩ := sqF2 BK223.out; have hnb39 := NB221_216.out; have hnc39 := NB216_221.out; obtain ⟨hcz40_0, hcz40_1, hcz40_2, hcz40_3, hcz40_4, hcz40_5, hcz40_6, hcz40_7, hcz40_8, hfz40_0, hfz40_1, hfz40_2, hfz40_3, hfz40_4, hfz40_5, hfz40_6, hfz40_7, hfz40_8⟩ := sqF9 BK221.out))
   go_roundg k2
   case measure => have := HK1.out; have := HK2.out; omega
   case rel => exact ⟨(wrap64 (x22_2 + 1)), sqI, H', ⟨by have := HK1.out; have := HK2.out; omega⟩, ⟨by refine sqN ?_; exact Kd.N_mono (sqN2 (Kd.N_mono HO_12.out (fun k_ hk => (⟨hk, hk.2⟩ : _ ∧ k_ ≠ gb223))) (fun _ hk => hk.2)) (fun _ hk => ⟨hk.1.1.1, hk.1.1.2⟩)⟩, ⟨by refine sqV ?_; exact Kd.V_mono (sqV2 (Kd.V_mono HO_20.out (fun k_ hk => (⟨hk, hk.2⟩ : _ ∧ k_ ≠ gb223))) (fun _ hk => hk.2)) (fun _ hk => ⟨hk.1.1.1, ⟨hk.1.1.2.1, hk.1.1.2.2⟩⟩)⟩, ⟨by refine sqV ?_; exact Kd.V_mono (sqV2 (Kd.V_mono HO_222004.out (fun k_ hk => (⟨hk, hk.2⟩ : _ ∧ k_ ≠ gb223))) (fun _ hk => hk.2)) (fun _ hk => ⟨hk.1.1.1, ⟨hk.1.1.2.1, hk.1.1.2.2⟩⟩)⟩, ⟨by refine sqV ?_; exact Kd.V_mono (sqV2 (Kd.V_mono HO_222005.out (fun k_ hk => (⟨hk, hk.2⟩ : _ ∧ k_ ≠ gb223))) (fun _ hk => hk.2)) (fun _ hk => ⟨hk.1.1.1, ⟨hk.1.1.2.1, hk.1.1.2.2⟩⟩)⟩, ⟨(sqK (sqX2 BK216.out NB216_223.out))⟩, ⟨(sqK (sqX2 BK221.out NB221_223.out))⟩, ⟨sqB3 HB.out GE216.out GE221.out GE223.out⟩⟩
 rw [if_pos c18] at H
 have c18b0 : (((rd_T66 t217 x14_1).f0) == a1) = true := beq_iff_eq.mpr c18
 have c18b1 : (((rd_T66 t217 x14_1).f0) != a1) = false := bne_eq_false_iff_eq.mpr c18
 clear c18
 replace H := Option.bind_eq_some_iff.mp H
 obtain ⟨t224, A190, H⟩ := H
 replace H : (if t224 = true then (some true) else (conf_InPool.l1 k2 a1 a2 t217 (t217.length : Int) x14_1 ((rd_T66 t217 x14_1).f2.f2) (((rd_T66 t217 x14_1).f2.f2).length : Int) (wrap64 (x22_2 + 1)) ((rd_T66 t217 x14_1).f0) ((rd_T66 t217 x14_1).f1) ((rd_T66 t217 x14_1).f2.f0) ((rd_T66 t217 x14_1).f2.f1) ((rd_T66 t217 x14_1).f2.f2) ((rd_T66 t217 x14_1).f2.f3) ((rd_T66 t217 x14_1).f2.f4) ((rd_T66 t217 x14_1).f2.f5) ((rd_T66 t217 x14_1).f2.f6))) = some r := H
 have A19 := Aside0.mk A190
 clear A190
 by_cases c20 : t224 = true
 · subst c20
   have H1 : (some true) = some r := by rw [if_pos rfl] at H; exact H
   clear H
   have H := H1
   clear H1
   obtain rfl := Option.some.inj H
   have p222 : 0 ≤ (x22_2 : Int) := of_decide_eq_true sqH
   have q222 : x22_2 < (((rd_T66 t217 x14_1).f2.f2).length : Int) := of_decide_eq_true sqH
   obtain ⟨ad222, e222, hx222_0, hx222_1⟩ := at_T62 (Kd.V_reads' HO_20.out).2.2 x22_2 p222 q222
   cases e222
   replace p222 := eq_true p222
   replace q222 := eq_true q222
   go_wp2_with (first | ((with_reducible refine gate_dst (N := 10) rfl ?_); refine box_event rfl (N := 10) rfl (cs := #[.int .i64 0, .int .i64 0]) (t := 62) sqs ?_; intro gb223 hg w21 hbox hb; have BK223 := sqM (hbox); have GW223 := sqM (sqZ hg (sqB2 HB.out GE216.out GE221.out)); have GE223 := sqM (sqZ hg (sqB2 HB.out GE216.out GE221.out)); have NB216_223 := sqM (sqL hg (sqK BK216.out)); have NB223_216 := sqM (sqG hg (sqK BK216.out)); have NB221_223 := sqM (sqL hg (sqK BK221.out)); have NB223_221 := sqM (sqG hg (sqK BK221.out)); replace HO_12 := sqM (sqNe (sqN HO_12.out) hg hb); replace HO_20 := sqM (sqVe (sqV HO_20.out) hg hb); replace HO_222004 := sqM (sqVe (sqV HO_222004.out) hg hb); replace HO_222005 := sqM (sqVe (sqV HO_222005.out) hg hb); replace BK216 := sqM (blk_below (sqK BK216.out) hb); replace BK221 := sqM (blk_below (sqK BK221.out) hb); replace HB := sqM (below_step (sqB2 HB.out GE216.out GE221.out) hb); clear hb hbox hg; have hnb22 := NB223_216.out; have hnc22 := NB216_223.out; have hnb23 := NB223_221.out; have hnc23 := NB221_223.out; obtain ⟨hcz24_0, hcz24_1, hfz24_0, hfz24_1⟩ := sqF2 BK223.out; have hnb25 := NB221_216.out; have hnc25 := NB216_221.out; obtain ⟨hcz26_0, hcz26_1, hcz26_2, hcz26_3, hcz26_4, hcz26_5, hcz26_6, hcz26_7, hcz26_8, hfz26_0, hfz26_1, hfz26_2, hfz26_3, hfz26_4, hfz26_5, hfz26_6, hfz26_7, hfz26_8⟩ := sqF9 BK221.out) | (go_at_call 48; (with_reducible refine (conf_has.calls _ _ _ _ _ A19.out).mono ?_); rintro e w27 ⟨rfl, hb⟩; replace HO_12 := sqM (Kd.N_below (by refine sqN ?_; exact (sqN2 HO_12.out (fun k_ hk => hk.2))) hb); replace HO_20 := sqM (Kd.V_below (by refine sqV ?_; exact (sqV2 HO_20.out (fun k_ hk => hk.2))) hb); replace HO_222004 := sqM (Kd.V_below (by refine sqV ?_; exact (sqV2 HO_222004.out (fun k_ hk => hk.2))) hb); replace HO_222005 := sqM (Kd.V_below (by refine sqV ?_; exact (sqV2 HO_222005.out (fun k_ hk => hk.2))) hb); replace BK216 := sqM (blk_below (sqK (sqX2 BK216.out NB216_223.out)) hb); replace BK221 := sqM (blk_below (sqK (sqX2 BK221.out NB221_223.out)) hb); replace BK223 := sqM (blk_below (sqK (sqP2 BK223.out)) hb); replace HB := sqM (below_step (sqB3 HB.out GE216.out GE221.out GE223.out) hb); (try clear hb); (try clear hb2); (try clear hk); (try clear hi)))
   go_ret
   exact ⟨sqE, sqB3 HB.out GE216.out GE221.out GE223.out⟩
 replace c20 := Bool.eq_false_iff.mpr c20
 subst c20
 have H1 : (conf_InPool.l1 k2 a1 a2 t217 (t217.length : Int) x14_1 ((rd_T66 t217 x14_1).f2.f2) (((rd_T66 t217 x14_1).f2.f2).length : Int) (wrap64 (x22_2 + 1)) ((rd_T66 t217 x14_1).f0) ((rd_T66 t217 x14_1).f1) ((rd_T66 t217 x14_1).f2.f0) ((rd_T66 t217 x14_1).f2.f1) ((rd_T66 t217 x14_1).f2.f2) ((rd_T66 t217 x14_1).f2.f3) ((rd_T66 t217 x14_1).f2.f4) ((rd_T66 t217 x14_1).f2.f5) ((rd_T66 t217 x14_1).f2.f6)) = some r := by rw [if_neg (show ¬ (false = true) by decide)] at H; exact H
 clear H
 have H := H1
 clear H1
 have H' := Aside0.mk H
 clear H
 have p222 : 0 ≤ (x22_2 : Int) := of_decide_eq_true sqH
 have q222 : x22_2 < (((rd_T66 t217 x14_1).f2.f2).length : Int) := of_decide_eq_true sqH
 obtain ⟨ad222, e222, hx222_0, hx222_1⟩ := at_T62 (Kd.V_reads' HO_20.out).2.2 x22_2 p222 q222
 cases e222
 replace p222 := eq_true p222
 replace q222 := eq_true q222
 go_wp2_with (first | ((with_reducible refine gate_dst (N := 10) rfl ?_); refine box_event rfl (N := 10) rfl (cs := #[.int .i64 0, .int .i64 0]) (t := 62) sqs ?_; intro gb223 hg w28 hbox hb; have BK223 := sqM (hbox); have GW223 := sqM (sqZ hg (sqB2 HB.out GE216.out GE221.out)); have GE223 := sqM (sqZ hg (sqB2 HB.out GE216.out GE221.out)); have NB216_223 := sqM (sqL hg (sqK BK216.out)); have NB223_216 := sqM (sqG hg (sqK BK216.out)); have NB221_223 := sqM (sqL hg (sqK BK221.out)); have NB223_221 := sqM (sqG hg (sqK BK221.out)); replace HO_12 := sqM (sqNe (sqN HO_12.out) hg hb); replace HO_20 := sqM (sqVe (sqV HO_20.out) hg hb); replace HO_222004 := sqM (sqVe (sqV HO_222004.out) hg hb); replace HO_222005 := sqM (sqVe (sqV HO_222005.out) hg hb); replace BK216 := sqM (blk_below (sqK BK216.out) hb); replace BK221 := sqM (blk_below (sqK BK221.out) hb); replace HB := sqM (below_step (sqB2 HB.out GE216.out GE221.out) hb); clear hb hbox hg; have hnb29 := NB223_216.out; have hnc29 := NB216_223.out; have hnb30 := NB223_221.out; have hnc30 := NB221_223.out; obtain ⟨hcz31_0, hcz31_1, hfz31_0, hfz31_1⟩ := sqF2 BK223.out; have hnb32 := NB221_216.out; have hnc32 := NB216_221.out; obtain ⟨hcz33_0, hcz33_1, hcz33_2, hcz33_3, hcz33_4, hcz33_5, hcz33_6, hcz33_7, hcz33_8, hfz33_0, hfz33_1, hfz33_2, hfz33_3, hfz33_4, hfz33_5, hfz33_6, hfz33_7, hfz33_8⟩ := sqF9 BK221.out) | (go_at_call 48; (with_reducible refine (conf_has.calls _ _ _ _ _ A19.out).mono ?_); rintro e w34 ⟨rfl, hb⟩; replace HO_12 := sqM (Kd.N_below (by refine sqN ?_; exact (sqN2 HO_12.out (fun k_ hk => hk.2))) hb); replace HO_20 := sqM (Kd.V_below (by refine sqV ?_; exact (sqV2 HO_20.out (fun k_ hk => hk.2))) hb); replace HO_222004 := sqM (Kd.V_below (by refine sqV ?_; exact (sqV2 HO_222004.out (fun k_ hk => hk.2))) hb); replace HO_222005 := sqM (Kd.V_below (by refine sqV ?_; exact (sqV2 HO_222005.out (fun k_ hk => hk.2))) hb); replace BK216 := sqM (blk_below (sqK (sqX2 BK216.out NB216_223.out)) hb); replace BK221 := sqM (blk_below (sqK (sqX2 BK221.out NB221_223.out)) hb); replace BK223 := sqM (blk_below (sqK (sqP2 BK223.out)) hb); replace HB := sqM (below_step (sqB3 HB.out GE216.out GE221.out GE223.out) hb); (try clear hb); (try clear hb2); (try clear hk); (try clear hi)))
 go_roundg k2
 case measure => have := HK1.out; have := HK2.out; omega
 case rel => exact ⟨(wrap64 (x22_2 + 1)), sqI, H', ⟨by have := HK1.out; have := HK2.out; omega⟩, ⟨by refine sqN ?_; exact Kd.N_mono HO_12.out (fun _ hk => ⟨hk.1.1, hk.1.2⟩)⟩, ⟨by refine sqV ?_; exact Kd.V_mono HO_20.out (fun _ hk => ⟨hk.1.1, ⟨hk.1.2.1, hk.1.2.2⟩⟩)⟩, ⟨by refine sqV ?_; exact Kd.V_mono HO_222004.out (fun _ hk => ⟨hk.1.1, ⟨hk.1.2.1, hk.1.2.2⟩⟩)⟩, ⟨by refine sqV ?_; exact Kd.V_mono HO_222005.out (fun _ hk => ⟨hk.1.1, ⟨hk.1.2.1, hk.1.2.2⟩⟩)⟩, ⟨sqK BK216.out⟩, ⟨sqK BK221.out⟩, ⟨sqB3 HB.out GE216.out GE221.out GE223.out⟩⟩

/-! ### conf_Find: function 24 -/
def conf_Find.l0 : Nat → Int → List (S66) → Int → Int → Option (Int × Int × Bool)
  | 0, _, _, _, _ => none
  | k + 1, x1, x10, x11, x12 => if x12 < x11 then (if 0 ≤ x12 then (if x12 < (x10.length : Int) then ((addr_Has.f ((rd_T66 x10 x12).f2.f0) ((rd_T66 x10 x12).f2.f1) x1).bind fun t231 => (if t231 = true then (some ((rd_T66 x10 x12).f0, (rd_T66 x10 x12).f1, true)) else (conf_Find.l0 k x1 x10 x11 (wrap64 (x12 + 1))))) else (none)) else (none)) else (some (0, 0, false))
def conf_Find.f (k : Nat) (a0_0 : Int) (a0_1 : Int) (l0_2 : List (S41)) (a1 : Int) : Option (Int × Int × Bool) := (conf_right.f k a0_0 a0_1 l0_2).bind fun t226 => (conf_Find.l0 k a1 t226 (t226.length : Int) 0)
theorem conf_Find.mono_l : ∀ k, (∀ y0 y1 y2 y3, LeO (conf_Find.l0 k y0 y1 y2 y3) (conf_Find.l0 (k + 1) y0 y1 y2 y3))
  | 0 => fun _ _ _ _ r h => by simp [conf_Find.l0] at h
  | k + 1 => by
    have ih0 := conf_Find.mono_l k
    · intro y0 y1 y2 y3
      unfold conf_Find.l0
      repeat' first
      | (with_reducible exact ih0 _ _ _ _)
      | (with_reducible exact conf_right.mono _ _ _ _)
      | (with_reducible exact LeO.refl _)
      | (with_reducible exact LeO.none _)
      | (with_reducible refine LeO.ite ?_ ?_)
      | (with_reducible refine LeO.bind ?_ (fun _ => ?_))
theorem conf_Find.mono : ∀ a0 a1 a2 a3 k, LeO (conf_Find.f k a0 a1 a2 a3) (conf_Find.f (k + 1) a0 a1 a2 a3) := by
 intro a0 a1 a2 a3 k
 have ih0 := conf_Find.mono_l k
 unfold conf_Find.f
 repeat' first
  | (with_reducible exact ih0 _ _ _ _)
  | (with_reducible exact conf_right.mono _ _ _ _)
  | (with_reducible exact LeO.refl _)
  | (with_reducible exact LeO.none _)
  | (with_reducible refine LeO.ite ?_ ?_)
  | (with_reducible refine LeO.bind ?_ (fun _ => ?_))
set_option maxHeartbeats 8000000 in
set_option maxRecDepth 100000 in
theorem conf_Find.calls (k : Nat) (a0_0 : Int) (a0_1 : Int) (A0_2 : Option Addr) (c0_2 : Nat) (l0_2 : List (S41)) (a1 : Int) (r1 : Int) (r2 : Int) (r3 : Bool) (w : World) (hr0_2 : Kd.C k41 w A0_2 l0_2.length l0_2) (hc0_2 : l0_2.length ≤ c0_2) (h : conf_Find.f k a0_0 a0_1 l0_2 a1 = some (r1, r2, r3)) :
    Calls Try.prog 24 #[.agg #[.int .i64 a0_0, .int .i64 a0_1, .slice A0_2 l0_2.length c0_2], .int .i64 a1] w fun e w' => e = .returned (.tuple #[.int .i64 r1, .int .i64 r2, .bool r3]) ∧ Below w.heap.size w w' := by
 have hu24 := Try.underlying24
 have hu66 := Try.underlying66
 have HR0_2 := Aside0.mk hr0_2
 have HC0_2 := Aside0.mk hc0_2
 clear hr0_2 hc0_2
 have HB := Aside0.mk (Below.refl w.heap.size w)
 have H : ((conf_right.f k a0_0 a0_1 l0_2).bind fun t226 => (conf_Find.l0 k a1 t226 (t226.length : Int) 0)) = some (r1, r2, r3) := h
 clear h
 replace H := Option.bind_eq_some_iff.mp H
 obtain ⟨t226, A30, H⟩ := H
 replace H : (conf_Find.l0 k a1 t226 (t226.length : Int) 0) = some (r1, r2, r3) := H
 have A3 := Aside0.mk A30
 clear A30
 have H' := Aside0.mk H
 clear H
 go_enter Try.func24, Try.ntmps24
 go_wp2_with (first | ((with_reducible refine gate_dst (N := 2) rfl ?_); refine box_event rfl (N := 2) rfl (cs := #[.int .i64 a0_0, .int .i64 a0_1, .slice A0_2 l0_2.length c0_2]) (t := 24) sqs ?_; intro gb225 hg w4 hbox hb; have BK225 := sqM (hbox); have GW225 := sqM (sqZ hg (sqB HB.out)); have GE225 := sqM (sqZ hg (sqB HB.out)); replace HB := sqM (below_step (sqB HB.out) hb); clear hb hbox hg; obtain ⟨hcz5_0, hcz5_1, hcz5_2, hfz5_0, hfz5_1, hfz5_2⟩ := sqF3 BK225.out) | (go_at_call 46; (with_reducible refine (conf_right.calls _ _ _ (fun k_ => k_ < w.heap.size) _ _ _ _ _ ?side1 A3.out).mono ?_); (case side1 => exact Kd.V_mk HC0_2.out (Kd.F_below (Kd.C_F k41_heap HR0_2.out) (sqB1 HB.out GE225.out))); rintro e w6 ⟨v227, rfl, ho0, hb⟩; have HO228 := sqM (Kd.N_lower (Kd.N_mono (ok' := fun k_ => k_ ≠ gb225) ho0 (fun k_ hk_ => Or.elim hk_ (fun hs_ => fun e_ => Nat.not_le.2 hs_ (by rw [e_]; exact GW225.out)) (fun hn_ => (Kd.freshB (g := gb225) (o := .cells #[.int .i64 a0_0, .int .i64 a0_1, .slice A0_2 l0_2.length c0_2] 24 (0, 0)) (sqK BK225.out) k_ hn_)))) (below_size (sqB1 HB.out GE225.out))); replace BK225 := sqM (blk_below (sqK BK225.out) hb); replace HB := sqM (below_step (sqB1 HB.out GE225.out) hb); (try clear hb); (try clear hb2); (try clear hk); (try clear hi); (try clear ho0); obtain ⟨Ao7, co7, eo7⟩ := Kd.N_slice HO228.out; subst eo7))
 repeat (go_quiet (first | ((with_reducible refine gate_dst (N := 2) rfl ?_); refine box_event rfl (N := 2) rfl (cs := #[.int .i64 a0_0, .int .i64 a0_1, .slice A0_2 l0_2.length c0_2]) (t := 24) sqs ?_; intro gb225 hg w4 hbox hb; have BK225 := sqM (hbox); have GW225 := sqM (sqZ hg (sqB HB.out)); have GE225 := sqM (sqZ hg (sqB HB.out)); replace HB := sqM (below_step (sqB HB.out) hb); clear hb hbox hg; obtain ⟨hcz5_0, hcz5_1, hcz5_2, hfz5_0, hfz5_1, hfz5_2⟩ := sqF3 BK225.out) | (go_at_call 46; (with_reducible refine (conf_right.calls _ _ _ (fun k_ => k_ < w.heap.size) _ _ _ _ _ ?side1 A3.out).mono ?_); (case side1 => exact Kd.V_mk HC0_2.out (Kd.F_below (Kd.C_F k41_heap HR0_2.out) (sqB1 HB.out GE225.out))); rintro e w6 ⟨v227, rfl, ho0, hb⟩; have HO228 := sqM (Kd.N_lower (Kd.N_mono (ok' := fun k_ => k_ ≠ gb225) ho0 (fun k_ hk_ => Or.elim hk_ (fun hs_ => fun e_ => Nat.not_le.2 hs_ (by rw [e_]; exact GW225.out)) (fun hn_ => (Kd.freshB (g := gb225) (o := .cells #[.int .i64 a0_0, .int .i64 a0_1, .slice A0_2 l0_2.length c0_2] 24 (0, 0)) (sqK BK225.out) k_ hn_)))) (below_size (sqB1 HB.out GE225.out))); replace BK225 := sqM (blk_below (sqK BK225.out) hb); replace HB := sqM (below_step (sqB1 HB.out GE225.out) hb); (try clear hb); (try clear hb2); (try clear hk); (try clear hi); (try clear ho0); obtain ⟨Ao7, co7, eo7⟩ := Kd.N_slice HO228.out; subst eo7)); try go_wp2_with (first | ((with_reducible refine gate_dst (N := 2) rfl ?_); refine box_event rfl (N := 2) rfl (cs := #[.int .i64 a0_0, .int .i64 a0_1, .slice A0_2 l0_2.length c0_2]) (t := 24) sqs ?_; intro gb225 hg w4 hbox hb; have BK225 := sqM (hbox); have GW225 := sqM (sqZ hg (sqB HB.out)); have GE225 := sqM (sqZ hg (sqB HB.out)); replace HB := sqM (below_step (sqB HB.out) hb); clear hb hbox hg; obtain ⟨hcz5_0, hcz5_1, hcz5_2, hfz5_0, hfz5_1, hfz5_2⟩ := sqF3 BK225.out) | (go_at_call 46; (with_reducible refine (conf_right.calls _ _ _ (fun k_ => k_ < w.heap.size) _ _ _ _ _ ?side1 A3.out).mono ?_); (case side1 => exact Kd.V_mk HC0_2.out (Kd.F_below (Kd.C_F k41_heap HR0_2.out) (sqB1 HB.out GE225.out))); rintro e w6 ⟨v227, rfl, ho0, hb⟩; have HO228 := sqM (Kd.N_lower (Kd.N_mono (ok' := fun k_ => k_ ≠ gb225) ho0 (fun k_ hk_ => Or.elim hk_ (fun hs_ => fun e_ => Nat.not_le.2 hs_ (by rw [e_]; exact GW225.out)) (fun hn_ => (Kd.freshB (g := gb225) (o := .cells #[.int .i64 a0_0, .int .i64 a0_1, .slice A0_2 l0_2.length c0_2] 24 (0, 0)) (sqK BK225.out) k_ hn_)))) (below_size (sqB1 HB.out GE225.out))); replace BK225 := sqM (blk_below (sqK BK225.out) hb); replace HB := sqM (below_step (sqB1 HB.out GE225.out) hb); (try clear hb); (try clear hb2); (try clear hk); (try clear hi); (try clear ho0); obtain ⟨Ao7, co7, eo7⟩ := Kd.N_slice HO228.out; subst eo7)))
 go_loopg [12] k (fun kq v12 w' => ∃ (x12_1 : Int), v12 = .int .i64 x12_1 ∧ Aside0 (conf_Find.l0 kq a1 t226 (t226.length : Int) x12_1 = some (r1, r2, r3)) ∧ Aside0 (kq ≤ k) ∧ Aside0 (Kd.N k66 66 w' w.heap.size (fun k_ => k_ ≠ gb225) (.slice Ao7 t226.length co7) t226) ∧ Aside0 (w'.heap[gb225]? = some (.cells #[.int .i64 a0_0, .int .i64 a0_1, (.slice A0_2 l0_2.length c0_2)] 24 (0, 0))) ∧ Aside0 (Below w.heap.size w w'))
 case atStart => exact ⟨(0), sqI, H', ⟨Nat.le_refl _⟩, ⟨sqN HO228.out⟩, ⟨sqK BK225.out⟩, ⟨sqB1 HB.out GE225.out⟩⟩
 clear H'
 try clear c2
 try clear p2
 try clear hcz5_0 hcz5_1 hcz5_2 hfz5_0 hfz5_1 hfz5_2
 obtain ⟨x12_1, rfl, HA, HK1, HO_10, BK225, HB⟩ := hrel
 cases gk with
 | zero => exact absurd HA.out (by simp [conf_Find.l0])
 | succ k1 => ?_
 have H := HA.out
 clear HA
 simp only [conf_Find.l0] at H
 by_cases c8 : x12_1 < (t226.length : Int)
 rotate_left
 · rw [if_neg c8] at H
   have c8b0 : decide (x12_1 < (t226.length : Int)) = false := decide_eq_false c8
   clear c8
   simp only [Option.some.injEq, Prod.mk.injEq] at H
   obtain ⟨rfl, rfl, rfl⟩ := H
   go_wp2
   repeat (go_quiet (fail); try go_wp2)
   go_ret3
   exact ⟨sqE, sqB1 HB.out GE225.out⟩
 rw [if_pos c8] at H
 have c8b0 : decide (x12_1 < (t226.length : Int)) = true := decide_eq_true c8
 clear c8
 by_cases c9 : 0 ≤ x12_1
 rotate_left
 · rw [if_neg c9] at H
   exact absurd H (by simp)
 rw [if_pos c9] at H
 have c9b0 : decide (0 ≤ x12_1) = true := decide_eq_true c9
 clear c9
 by_cases c10 : x12_1 < (t226.length : Int)
 rotate_left
 · rw [if_neg c10] at H
   exact absurd H (by simp)
 rw [if_pos c10] at H
 have c10b0 : decide (x12_1 < (t226.length : Int)) = true := decide_eq_true c10
 clear c10
 replace H := Option.bind_eq_some_iff.mp H
 obtain ⟨t231, A110, H⟩ := H
 replace H : (if t231 = true then (some ((rd_T66 t226 x12_1).f0, (rd_T66 t226 x12_1).f1, true)) else (conf_Find.l0 k1 a1 t226 (t226.length : Int) (wrap64 (x12_1 + 1)))) = some (r1, r2, r3) := H
 have A11 := Aside0.mk A110
 clear A110
 by_cases c12 : t231 = true
 · subst c12
   have H1 : (some ((rd_T66 t226 x12_1).f0, (rd_T66 t226 x12_1).f1, true)) = some (r1, r2, r3) := by rw [if_pos rfl] at H; exact H
   clear H
   have H := H1
   clear H1
   simp only [Option.some.injEq, Prod.mk.injEq] at H
   obtain ⟨rfl, rfl, rfl⟩ := H
   have p229 : 0 ≤ (x12_1 : Int) := of_decide_eq_true sqH
   have q229 : x12_1 < (t226.length : Int) := of_decide_eq_true sqH
   obtain ⟨ad229, A229_4, c229_4, A229_5, c229_5, e229, hx229_0, hx229_1, hx229_2, hx229_3, hx229_4, hx229_5, hx229_6, hx229_7, hx229_8, hl229_4, hi229_4, hl229_5, hi229_5⟩ := at_T66 (Kd.N_reads' HO_10.out).2.2 x12_1 p229 q229
   cases e229
   obtain ⟨ce229, hce229, hMe229, hcc229⟩ := Kd.N_get HO_10.out z66 x12_1 p229 (by first | exact q229 | exact of_decide_eq_true sqH | (have e_ := (Kd.N_reads' HO_10.out).1; omega))
   obtain ⟨ua229_4, uc229_4, ua229_5, uc229_5, rfl, ul229_4, ge229_4, ul229_5, ge229_5⟩ := k66_openF hMe229
   have hv229_4 := hcc229 4 _ rfl
   rw [add_field _ _ 4 (by omega)] at hv229_4
   replace hv229_4 := Option.some.inj (hv229_4.symm.trans hx229_4)
   injection hv229_4 with hva_ hvn_ hvc_
   rw [hva_] at ge229_4
   rw [hvc_] at ul229_4
   have HL229_4 := sqM (show Kd.V k62 62 _ w.heap.size _ _ ((rd_T66 t226 x12_1).f2.f2) from Kd.V_mk ul229_4 ge229_4)
   clear hva_ hvn_ hvc_ ge229_4 ul229_4
   have hv229_5 := hcc229 5 _ rfl
   rw [add_field _ _ 5 (by omega)] at hv229_5
   replace hv229_5 := Option.some.inj (hv229_5.symm.trans hx229_5)
   injection hv229_5 with hva_ hvn_ hvc_
   rw [hva_] at ge229_5
   rw [hvc_] at ul229_5
   have HL229_5 := sqM (show Kd.V k59 59 _ w.heap.size _ _ ((rd_T66 t226 x12_1).f2.f3) from Kd.V_mk ul229_5 ge229_5)
   clear hva_ hvn_ hvc_ ge229_5 ul229_5
   clear hcc229 hce229
   have HR229_4 := Aside0.mk hi229_4
   have HC229_4 := Aside0.mk hl229_4
   clear hi229_4 hl229_4
   have HR229_5 := Aside0.mk hi229_5
   have HC229_5 := Aside0.mk hl229_5
   clear hi229_5 hl229_5
   replace p229 := eq_true p229
   replace q229 := eq_true q229
   go_wp2_with (first | ((with_reducible refine gate_dst (N := 8) rfl ?_); refine box_event rfl (N := 8) rfl (cs := #[.int .i64 0, .int .i64 0, .int .i64 0, .int .i64 0, .slice none 0 0, .slice none 0 0, .int .i64 0, .int .i64 0, .int .i64 0]) (t := 66) sqs ?_; intro gb230 hg w13 hbox hb; have BK230 := sqM (hbox); have GW230 := sqM (sqZ hg (sqB1 HB.out GE225.out)); have GE230 := sqM (sqZ hg (sqB1 HB.out GE225.out)); have NB225_230 := sqM (sqL hg (sqK BK225.out)); have NB230_225 := sqM (sqG hg (sqK BK225.out)); replace HO_10 := sqM (sqNe (sqN HO_10.out) hg hb); replace HL229_4 := sqM (sqVe (sqV HL229_4.out) hg hb); replace HL229_5 := sqM (sqVe (sqV HL229_5.out) hg hb); replace BK225 := sqM (blk_below (sqK BK225.out) hb); replace HR229_4 := sqM (Kd.C_below (sqC HR229_4.out) hb); replace HR229_5 := sqM (Kd.C_below (sqC HR229_5.out) hb); replace HB := sqM (below_step (sqB1 HB.out GE225.out) hb); clear hb hbox hg; have hnb14 := NB230_225.out; have hnc14 := NB225_230.out; obtain ⟨hcz15_0, hcz15_1, hcz15_2, hcz15_3, hcz15_4, hcz15_5, hcz15_6, hcz15_7, hcz15_8, hfz15_0, hfz15_1, hfz15_2, hfz15_3, hfz15_4, hfz15_5, hfz15_6, hfz15_7, hfz15_8⟩ := sqF9 BK230.out) | (go_at_call 49; (with_reducible refine (addr_Has.calls _ _ _ _ _ A11.out).mono ?_); rintro e w' ⟨rfl, ⟨nd, rfl⟩⟩; (try first | exact ⟨rfl, _, World.drewN_drewN _ _ _⟩ | exact ⟨rfl, _, Eq.trans (World.drewN_drewN _ _ _) (congrArg (World.drewN _) (Nat.add_assoc _ _ _))⟩)))
   repeat (go_quiet (first | ((with_reducible refine gate_dst (N := 8) rfl ?_); refine box_event rfl (N := 8) rfl (cs := #[.int .i64 0, .int .i64 0, .int .i64 0, .int .i64 0, .slice none 0 0, .slice none 0 0, .int .i64 0, .int .i64 0, .int .i64 0]) (t := 66) sqs ?_; intro gb230 hg w13 hbox hb; have BK230 := sqM (hbox); have GW230 := sqM (sqZ hg (sqB1 HB.out GE225.out)); have GE230 := sqM (sqZ hg (sqB1 HB.out GE225.out)); have NB225_230 := sqM (sqL hg (sqK BK225.out)); have NB230_225 := sqM (sqG hg (sqK BK225.out)); replace HO_10 := sqM (sqNe (sqN HO_10.out) hg hb); replace HL229_4 := sqM (sqVe (sqV HL229_4.out) hg hb); replace HL229_5 := sqM (sqVe (sqV HL229_5.out) hg hb); replace BK225 := sqM (blk_below (sqK BK225.out) hb); replace HR229_4 := sqM (Kd.C_below (sqC HR229_4.out) hb); replace HR229_5 := sqM (Kd.C_below (sqC HR229_5.out) hb); replace HB := sqM (below_step (sqB1 HB.out GE225.out) hb); clear hb hbox hg; have hnb14 := NB230_225.out; have hnc14 := NB225_230.out; obtain ⟨hcz15_0, hcz15_1, hcz15_2, hcz15_3, hcz15_4, hcz15_5, hcz15_6, hcz15_7, hcz15_8, hfz15_0, hfz15_1, hfz15_2, hfz15_3, hfz15_4, hfz15_5, hfz15_6, hfz15_7, hfz15_8⟩ := sqF9 BK230.out) | (go_at_call 49; (with_reducible refine (addr_Has.calls _ _ _ _ _ A11.out).mono ?_); rintro e w' ⟨rfl, ⟨nd, rfl⟩⟩; (try first | exact ⟨rfl, _, World.drewN_drewN _ _ _⟩ | exact ⟨rfl, _, Eq.trans (World.drewN_drewN _ _ _) (congrArg (World.drewN _) (Nat.add_assoc _ _ _))⟩))); try go_wp2_with (first | ((with_reducible refine gate_dst (N := 8) rfl ?_); refine box_event rfl (N := 8) rfl (cs := #[.int .i64 0, .int .i64 0, .int .i64 0, .int .i64 0, .slice none 0 0, .slice none 0 0, .int .i64 0, .int .i64 0, .int .i64 0]) (t := 66) sqs ?_; intro gb230 hg w13 hbox hb; have BK230 := sqM (hbox); have GW230 := sqM (sqZ hg (sqB1 HB.out GE225.out)); have GE230 := sqM (sqZ hg (sqB1 HB.out GE225.out)); have NB225_230 := sqM (sqL hg (sqK BK225.out)); have NB230_225 := sqM (sqG hg (sqK BK225.out)); replace HO_10 := sqM (sqNe (sqN HO_10.out) hg hb); replace HL229_4 := sqM (sqVe (sqV HL229_4.out) hg hb); replace HL229_5 := sqM (sqVe (sqV HL229_5.out) hg hb); replace BK225 := sqM (blk_below (sqK BK225.out) hb); replace HR229_4 := sqM (Kd.C_below (sqC HR229_4.out) hb); replace HR229_5 := sqM (Kd.C_below (sqC HR229_5.out) hb); replace HB := sqM (below_step (sqB1 HB.out GE225.out) hb); clear hb hbox hg; have hnb14 := NB230_225.out; have hnc14 := NB225_230.out; obtain ⟨hcz15_0, hcz15_1, hcz15_2, hcz15_3, hcz15_4, hcz15_5, hcz15_6, hcz15_7, hcz15_8, hfz15_0, hfz15_1, hfz15_2, hfz15_3, hfz15_4, hfz15_5, hfz15_6, hfz15_7, hfz15_8⟩ := sqF9 BK230.out) | (go_at_call 49; (with_reducible refine (addr_Has.calls _ _ _ _ _ A11.out).mono ?_); rintro e w' ⟨rfl, ⟨nd, rfl⟩⟩; (try first | exact ⟨rfl, _, World.drewN_drewN _ _ _⟩ | exact ⟨rfl, _, Eq.trans (World.drewN_drewN _ _ _) (congrArg (World.drewN _) (Nat.add_assoc _ _ _))⟩))))
   go_ret3
   exact ⟨sqE, sqB2 HB.out GE225.out GE230.out⟩
 replace c12 := Bool.eq_false_iff.mpr c12
 subst c12
 have H1 : (conf_Find.l0 k1 a1 t226 (t226.length : Int) (wrap64 (x12_1 + 1))) = some (r1, r2, r3) := by rw [if_neg (show ¬ (false = true) by decide)] at H; exact H
 clear H
 have H := H1
 clear H1
 have H' := Aside0.mk H
 clear H
 have p229 : 0 ≤ (x12_1 : Int) := of_decide_eq_true sqH
 have q229 : x12_1 < (t226.length : Int) := of_decide_eq_true sqH
 obtain ⟨ad229, A229_4, c229_4, A229_5, c229_5, e229, hx229_0, hx229_1, hx229_2, hx229_3, hx229_4, hx229_5, hx229_6, hx229_7, hx229_8, hl229_4, hi229_4, hl229_5, hi229_5⟩ := at_T66 (Kd.N_reads' HO_10.out).2.2 x12_1 p229 q229
 cases e229
 obtain ⟨ce229, hce229, hMe229, hcc229⟩ := Kd.N_get HO_10.out z66 x12_1 p229 (by first | exact q229 | exact of_decide_eq_true sqH | (have e_ := (Kd.N_reads' HO_10.out).1; omega))
 obtain ⟨ua229_4, uc229_4, ua229_5, uc229_5, rfl, ul229_4, ge229_4, ul229_5, ge229_5⟩ := k66_openF hMe229
 have hv229_4 := hcc229 4 _ rfl
 rw [add_field _ _ 4 (by omega)] at hv229_4
 replace hv229_4 := Option.some.inj (hv229_4.symm.trans hx229_4)
 injection hv229_4 with hva_ hvn_ hvc_
 rw [hva_] at ge229_4
 rw [hvc_] at ul229_4
 have HL229_4 := sqM (show Kd.V k62 62 _ w.heap.size _ _ ((rd_T66 t226 x12_1).f2.f2) from Kd.V_mk ul229_4 ge229_4)
 clear hva_ hvn_ hvc_ ge229_4 ul229_4
 have hv229_5 := hcc229 5 _ rfl
 rw [add_field _ _ 5 (by omega)] at hv229_5
 replace hv229_5 := Option.some.inj (hv229_5.symm.trans hx229_5)
 injection hv229_5 with hva_ hvn_ hvc_
 rw [hva_] at ge229_5
 rw [hvc_] at ul229_5
 have HL229_5 := sqM (show Kd.V k59 59 _ w.heap.size _ _ ((rd_T66 t226 x12_1).f2.f3) from Kd.V_mk ul229_5 ge229_5)
 clear hva_ hvn_ hvc_ ge229_5 ul229_5
 clear hcc229 hce229
 have HR229_4 := Aside0.mk hi229_4
 have HC229_4 := Aside0.mk hl229_4
 clear hi229_4 hl229_4
 have HR229_5 := Aside0.mk hi229_5
 have HC229_5 := Aside0.mk hl229_5
 clear hi229_5 hl229_5
 replace p229 := eq_true p229
 replace q229 := eq_true q229
 go_wp2_with (first | ((with_reducible refine gate_dst (N := 8) rfl ?_); refine box_event rfl (N := 8) rfl (cs := #[.int .i64 0, .int .i64 0, .int .i64 0, .int .i64 0, .slice none 0 0, .slice none 0 0, .int .i64 0, .int .i64 0, .int .i64 0]) (t := 66) sqs ?_; intro gb230 hg w16 hbox hb; have BK230 := sqM (hbox); have GW230 := sqM (sqZ hg (sqB1 HB.out GE225.out)); have GE230 := sqM (sqZ hg (sqB1 HB.out GE225.out)); have NB225_230 := sqM (sqL hg (sqK BK225.out)); have NB230_225 := sqM (sqG hg (sqK BK225.out)); replace HO_10 := sqM (sqNe (sqN HO_10.out) hg hb); replace HL229_4 := sqM (sqVe (sqV HL229_4.out) hg hb); replace HL229_5 := sqM (sqVe (sqV HL229_5.out) hg hb); replace BK225 := sqM (blk_below (sqK BK225.out) hb); replace HR229_4 := sqM (Kd.C_below (sqC HR229_4.out) hb); replace HR229_5 := sqM (Kd.C_below (sqC HR229_5.out) hb); replace HB := sqM (below_step (sqB1 HB.out GE225.out) hb); clear hb hbox hg; have hnb17 := NB230_225.out; have hnc17 := NB225_230.out; obtain ⟨hcz18_0, hcz18_1, hcz18_2, hcz18_3, hcz18_4, hcz18_5, hcz18_6, hcz18_7, hcz18_8, hfz18_0, hfz18_1, hfz18_2, hfz18_3, hfz18_4, hfz18_5, hfz18_6, hfz18_7, hfz18_8⟩ := sqF9 BK230.out) | (go_at_call 49; (with_reducible refine (addr_Has.calls _ _ _ _ _ A11.out).mono ?_); rintro e w' ⟨rfl, ⟨nd, rfl⟩⟩; (try first | exact ⟨rfl, _, World.drewN_drewN _ _ _⟩ | exact ⟨rfl, _, Eq.trans (World.drewN_drewN _ _ _) (congrArg (World.drewN _) (Nat.add_assoc _ _ _))⟩)))
 repeat (go_quiet (first | ((with_reducible refine gate_dst (N := 8) rfl ?_); refine box_event rfl (N := 8) rfl (cs := #[.int .i64 0, .int .i64 0, .int .i64 0, .int .i64 0, .slice none 0 0, .slice none 0 0, .int .i64 0, .int .i64 0, .int .i64 0]) (t := 66) sqs ?_; intro gb230 hg w16 hbox hb; have BK230 := sqM (hbox); have GW230 := sqM (sqZ hg (sqB1 HB.out GE225.out)); have GE230 := sqM (sqZ hg (sqB1 HB.out GE225.out)); have NB225_230 := sqM (sqL hg (sqK BK225.out)); have NB230_225 := sqM (sqG hg (sqK BK225.out)); replace HO_10 := sqM (sqNe (sqN HO_10.out) hg hb); replace HL229_4 := sqM (sqVe (sqV HL229_4.out) hg hb); replace HL229_5 := sqM (sqVe (sqV HL229_5.out) hg hb); replace BK225 := sqM (blk_below (sqK BK225.out) hb); replace HR229_4 := sqM (Kd.C_below (sqC HR229_4.out) hb); replace HR229_5 := sqM (Kd.C_below (sqC HR229_5.out) hb); replace HB := sqM (below_step (sqB1 HB.out GE225.out) hb); clear hb hbox hg; have hnb17 := NB230_225.out; have hnc17 := NB225_230.out; obtain ⟨hcz18_0, hcz18_1, hcz18_2, hcz18_3, hcz18_4, hcz18_5, hcz18_6, hcz18_7, hcz18_8, hfz18_0, hfz18_1, hfz18_2, hfz18_3, hfz18_4, hfz18_5, hfz18_6, hfz18_7, hfz18_8⟩ := sqF9 BK230.out) | (go_at_call 49; (with_reducible refine (addr_Has.calls _ _ _ _ _ A11.out).mono ?_); rintro e w' ⟨rfl, ⟨nd, rfl⟩⟩; (try first | exact ⟨rfl, _, World.drewN_drewN _ _ _⟩ | exact ⟨rfl, _, Eq.trans (World.drewN_drewN _ _ _) (congrArg (World.drewN _) (Nat.add_assoc _ _ _))⟩))); try go_wp2_with (first | ((with_reducible refine gate_dst (N := 8) rfl ?_); refine box_event rfl (N := 8) rfl (cs := #[.int .i64 0, .int .i64 0, .int .i64 0, .int .i64 0, .slice none 0 0, .slice none 0 0, .int .i64 0, .int .i64 0, .int .i64 0]) (t := 66) sqs ?_; intro gb230 hg w16 hbox hb; have BK230 := sqM (hbox); have GW230 := sqM (sqZ hg (sqB1 HB.out GE225.out)); have GE230 := sqM (sqZ hg (sqB1 HB.out GE225.out)); have NB225_230 := sqM (sqL hg (sqK BK225.out)); have NB230_225 := sqM (sqG hg (sqK BK225.out)); replace HO_10 := sqM (sqNe (sqN HO_10.out) hg hb); replace HL229_4 := sqM (sqVe (sqV HL229_4.out) hg hb); replace HL229_5 := sqM (sqVe (sqV HL229_5.out) hg hb); replace BK225 := sqM (blk_below (sqK BK225.out) hb); replace HR229_4 := sqM (Kd.C_below (sqC HR229_4.out) hb); replace HR229_5 := sqM (Kd.C_below (sqC HR229_5.out) hb); replace HB := sqM (below_step (sqB1 HB.out GE225.out) hb); clear hb hbox hg; have hnb17 := NB230_225.out; have hnc17 := NB225_230.out; obtain ⟨hcz18_0, hcz18_1, hcz18_2, hcz18_3, hcz18_4, hcz18_5, hcz18_6, hcz18_7, hcz18_8, hfz18_0, hfz18_1, hfz18_2, hfz18_3, hfz18_4, hfz18_5, hfz18_6, hfz18_7, hfz18_8⟩ := sqF9 BK230.out) | (go_at_call 49; (with_reducible refine (addr_Has.calls _ _ _ _ _ A11.out).mono ?_); rintro e w' ⟨rfl, ⟨nd, rfl⟩⟩; (try first | exact ⟨rfl, _, World.drewN_drewN _ _ _⟩ | exact ⟨rfl, _, Eq.trans (World.drewN_drewN _ _ _) (congrArg (World.drewN _) (Nat.add_assoc _ _ _))⟩))))
 go_roundg k1
 case measure => have := HK1.out; omega
 case rel => exact ⟨(wrap64 (x12_1 + 1)), sqI, H', ⟨by have := HK1.out; omega⟩, ⟨by refine sqN ?_; exact Kd.N_mono (sqN9 (Kd.N_mono HO_10.out (fun k_ hk => (⟨hk, hk.2⟩ : _ ∧ k_ ≠ gb230))) (fun _ hk => hk.2)) (fun _ hk => hk.1.1)⟩, ⟨(sqK (sqX9 BK225.out NB225_230.out))⟩, ⟨sqB2 HB.out GE225.out GE230.out⟩⟩

/-! ### boarderlaw13_knows: function 15 -/
/-- The document's example, as it lies in memory: f is where its pool begins. -/
def plR (f : Int) : List S57 := [⟨167772160, 24, [⟨f, 167772180⟩], [⟨⟨#[105, 48, 49]⟩, 167772165⟩], 1, 167772161, 600⟩]
def plC (f : Int) : List S41 := [⟨plR f⟩]
def plE : List S41 := [⟨plR 167772170 ++ [⟨167772288, 25, [], [], 0, 0, 1⟩]⟩]
structure Lay (w : World) (lo hi g1 g2 g3 g4 : Nat) (f : Int) : Prop where
  h1 : w.heap[g1]? = some (.cells #[.int .i64 f, .int .i64 167772180] 62 (0, 0))
  h2 : w.heap[g2]? = some (.cells #[.string (⟨#[105, 48, 49]⟩ : ByteArray), .int .i64 167772165] 59 (0, 0))
  h3 : w.heap[g3]? = some (.cells #[.int .i64 167772160, .int .i64 24, .slice (some ⟨g1, 0, none⟩) 1 1, .slice (some ⟨g2, 0, none⟩) 1 1, .int .i64 1, .int .i64 167772161, .int .i64 600] 57 (0, 0))
  h4 : w.heap[g4]? = some (.cells #[.slice (some ⟨g3, 0, none⟩) 1 1] 41 (0, 0))
  l : lo ≤ g1 ∧ g1 < g2 ∧ g2 < g3 ∧ g3 < g4 ∧ g4 < hi
theorem Lay.below {w w' : World} {lo hi g1 g2 g3 g4 : Nat} {f : Int} (h : Lay w lo hi g1 g2 g3 g4 f) (hb : Below w.heap.size w w') : Lay w' lo hi g1 g2 g3 g4 f :=
  ⟨blk_below h.h1 hb, blk_below h.h2 hb, blk_below h.h3 hb, blk_below h.h4 hb, h.l⟩
theorem Lay.far {w : World} {lo hi g1 g2 g3 g4 : Nat} {f : Int} (h : Lay w lo hi g1 g2 g3 g4 f) {p : Addr} (hp : p.block < lo ∨ hi ≤ p.block) (u : Value) : Lay (w.setCell p u) lo hi g1 g2 g3 g4 f := by
 have l := h.l
 exact ⟨blk_far h.h1 (by omega) u, blk_far h.h2 (by omega) u, blk_far h.h3 (by omega) u, blk_far h.h4 (by omega) u, l⟩
theorem Lay.drew {w : World} {lo hi g1 g2 g3 g4 : Nat} {f : Int} (h : Lay w lo hi g1 g2 g3 g4 f) : Lay w.drew lo hi g1 g2 g3 g4 f := ⟨h.h1, h.h2, h.h3, h.h4, h.l⟩
theorem Lay.grown {w w1 : World} {lo hi g1 g2 g3 g4 : Nat} {f : Int} (h : Lay w lo hi g1 g2 g3 g4 f) (hg : w.grownBy w1 none) : Lay w1 lo hi g1 g2 g3 g4 f :=
  ⟨blk_grown h.h1 hg (by simp), blk_grown h.h2 hg (by simp), blk_grown h.h3 hg (by simp), blk_grown h.h4 hg (by simp), h.l⟩
/-- One element that fills its block. -/
theorem C_one {α : Type} (d : Kd α) {w : World} {g : Nat} {t : TypeId} {x : α} {cs : List Value} (hK : d.K w x cs) (hb : w.heap[g]? = some (.cells cs.toArray t (0, 0))) : Kd.C d w (some ⟨g, 0, none⟩) 1 [x] := by
 refine ⟨rfl, by simp, fun _ => ⟨_, rfl, fun j p hj => ?_⟩⟩
 cases j with
 | zero =>
  obtain rfl : x = p := by simpa using hj
  refine ⟨cs, d.K_len hK, hK, fun i u hi => ?_⟩
  have e : w.cell? ⟨g, i, none⟩ = cs.toArray[i]? := blk_cell hb i
  have : (⟨g, 0, none⟩ : Addr).add (0 * d.sz + i) = ⟨g, i, none⟩ := by
   simp [Addr.add]
   intro h; exact h.symm
  rw [this, e]
  simpa using hi
 | succ j => simp at hj
theorem Lay.C2 {w : World} {lo hi g1 g2 g3 g4 : Nat} {f : Int} (h : Lay w lo hi g1 g2 g3 g4 f) : k57.K w ⟨167772160, 24, [⟨f, 167772180⟩], [⟨⟨#[105, 48, 49]⟩, 167772165⟩], 1, 167772161, 600⟩ [.int .i64 167772160, .int .i64 24, .slice (some ⟨g1, 0, none⟩) 1 1, .slice (some ⟨g2, 0, none⟩) 1 1, .int .i64 1, .int .i64 167772161, .int .i64 600] :=
  k57_mk w ⟨167772160, 24, [⟨f, 167772180⟩], [⟨⟨#[105, 48, 49]⟩, 167772165⟩], 1, 167772161, 600⟩ (Nat.le_refl 1) (C_one k62 (k62_mk w ⟨f, 167772180⟩) h.h1) (Nat.le_refl 1) (C_one k59 (k59_mk w ⟨⟨#[105, 48, 49]⟩, 167772165⟩) h.h2)
theorem Lay.C {w : World} {lo hi g1 g2 g3 g4 : Nat} {f : Int} (h : Lay w lo hi g1 g2 g3 g4 f) : Kd.C k41 w (some ⟨g4, 0, none⟩) 1 (plC f) :=
  C_one k41 (k41_mk w ⟨plR f⟩ (Nat.le_refl 1) (C_one k57 h.C2 h.h3)) h.h4
theorem lit_event {P : Program} {o : Oper} {ops : Array Oper} {Q : Exit → Act → World → Prop} {rest : List Oper} {a : Act} {W : World} (hgd : o.guard = none) {N : Tmp} (_hd : o.dst = some N) {inner : Array Value} {e : TypeId} {n : Nat}
    (hrun : (execOp a.eval o).run P W = .ok (.value (.slice (some ⟨W.heap.size, 0, none⟩) n n)) (W.alloc (.cells inner e)))
    (h : ∀ g, g = W.heap.size → ∀ w1, w1.heap[g]? = some (.cells inner e (0, 0)) → Below W.heap.size W w1 → wpList P ops Q rest (a.put o.dst (.slice (some ⟨g, 0, none⟩) n n)) w1) : wpList P ops Q (o :: rest) a W :=
  Kd.event_run hgd hrun (h _ rfl _ (blk_new W _) (below_alloc (Below.refl _ _) _))
set_option maxHeartbeats 8000000 in
set_option maxRecDepth 100000 in
theorem boarderlaw13_Plain.lay (w : World) :
    Calls Try.prog 39 #[] w fun e w' => ∃ g1 g2 g3 g4 : Nat, e = .returned (.agg #[.int .i64 167772161, .int .i64 300, .slice (some ⟨g4, 0, none⟩) 1 1]) ∧ Lay w' w.heap.size w'.heap.size g1 g2 g3 g4 167772170 ∧ Below w.heap.size w w' := by
 have HB := Aside0.mk (Below.refl w.heap.size w)
 go_enter Try.func39, Try.ntmps39
 go_wp2_with (first | ((with_reducible refine gate_dst (N := 0) rfl ?_); refine box_event rfl (N := 0) rfl (cs := #[.int .i64 0, .int .i64 0, .slice none 0 0]) (t := 24) sqs ?_; intro ga hg w1 hbox hb; have BA := sqM (hbox); have GA := sqM (sqZ hg (sqB HB.out)); replace HB := sqM (below_step (sqB HB.out) hb); clear hb hbox hg) | ((with_reducible refine gate_dst (N := 3) rfl ?_); refine lit_event rfl (N := 3) rfl (inner := #[.int .i64 167772170, .int .i64 167772180]) (e := 62) (n := 1) sqs ?_; intro g1 hg w2 hbox hb; have P1 := sqM (hbox); have L1 := sqM (show ga < g1 by rw [hg]; exact blk_lt BA.out); have M1 := sqM (sqZ hg (sqB HB.out)); replace BA := sqM (blk_below BA.out hb); replace HB := sqM (below_step (sqB HB.out) hb); clear hb hbox hg) | ((with_reducible refine gate_dst (N := 5) rfl ?_); refine lit_event rfl (N := 5) rfl (inner := #[.string (⟨#[105, 48, 49]⟩ : ByteArray), .int .i64 167772165]) (e := 59) (n := 1) sqs ?_; intro g2 hg w3 hbox hb; have P2 := sqM (hbox); have L2 := sqM (show g1 < g2 by rw [hg]; exact blk_lt P1.out); replace BA := sqM (blk_below BA.out hb); replace P1 := sqM (blk_below P1.out hb); replace HB := sqM (below_step (sqB HB.out) hb); clear hb hbox hg) | ((with_reducible refine gate_dst (N := 1) rfl ?_); refine box_event rfl (N := 1) rfl (cs := #[.int .i64 0, .int .i64 0, .slice none 0 0, .slice none 0 0, .int .i64 0, .int .i64 0, .int .i64 0]) (t := 57) sqs ?_; intro gs hg w4 hbox hb; have BS := sqM (hbox); have GS := sqM (sqZ hg (sqB HB.out)); have L3 := sqM (show g2 < gs by rw [hg]; exact blk_lt P2.out); replace BA := sqM (blk_below BA.out hb); replace P1 := sqM (blk_below P1.out hb); replace P2 := sqM (blk_below P2.out hb); replace HB := sqM (below_step (sqB HB.out) hb); clear hb hbox hg; have hnb9 : gs ≠ ga := (by have := L1.out; have := L2.out; have := L3.out; omega); have hnc9 : ga ≠ gs := hnb9.symm; obtain ⟨hcz10_0, hcz10_1, hcz10_2, hcz10_3, hcz10_4, hcz10_5, hcz10_6, hfz10_0, hfz10_1, hfz10_2, hfz10_3, hfz10_4, hfz10_5, hfz10_6⟩ := sqF7 BS.out) | ((with_reducible refine gate_store (t := 57) (p := 1) rfl ?_); refine store_event (t := 57) (p := 1) (v := ?vo_w11) (w1 := (((((((w4.setCell ⟨gs, 0, none⟩ (.int .i64 167772160)).setCell ⟨gs, 1, none⟩ (.int .i64 24)).setCell ⟨gs, 2, none⟩ (.slice (some ⟨g1, 0, none⟩) 1 1)).setCell ⟨gs, 3, none⟩ (.slice (some ⟨g2, 0, none⟩) 1 1)).setCell ⟨gs, 4, none⟩ (.int .i64 1)).setCell ⟨gs, 5, none⟩ (.int .i64 167772161)).setCell ⟨gs, 6, none⟩ (.int .i64 600))) ?hg ?ho ?hn ?hr ?_; (case ho => rfl); (case hg => rfl); (case hn => rfl); (case hr => first | (go_simp; done) | (go_simp; rfl)); intro w11 hw; replace BA : Aside0 (w11.heap[ga]? = some (.cells #[.int .i64 0, .int .i64 0, .slice none 0 0] 24 (0, 0))) := ⟨by rw [hw]; exact sqX7 BA.out hnc9⟩; replace P1 : Aside0 (w11.heap[g1]? = some (.cells #[.int .i64 167772170, .int .i64 167772180] 62 (0, 0))) := ⟨by rw [hw]; exact sqX7 P1.out (by have := L2.out; have := L3.out; omega)⟩; replace P2 : Aside0 (w11.heap[g2]? = some (.cells #[.string (⟨#[105, 48, 49]⟩ : ByteArray), .int .i64 167772165] 59 (0, 0))) := ⟨by rw [hw]; exact sqX7 P2.out (by have := L3.out; omega)⟩; replace BS : Aside0 (w11.heap[gs]? = some (.cells #[.int .i64 167772160, .int .i64 24, .slice (some ⟨g1, 0, none⟩) 1 1, .slice (some ⟨g2, 0, none⟩) 1 1, .int .i64 1, .int .i64 167772161, .int .i64 600] 57 (0, 0))) := ⟨by rw [hw]; exact sqP7 BS.out⟩; replace HB : Aside0 (Below w.heap.size w w11) := ⟨by rw [hw]; exact sqB1 HB.out GS.out⟩; clear hw; obtain ⟨hcz12_0, hcz12_1, hcz12_2, hcz12_3, hcz12_4, hcz12_5, hcz12_6, hfz12_0, hfz12_1, hfz12_2, hfz12_3, hfz12_4, hfz12_5, hfz12_6⟩ := sqF7 BS.out) | ((with_reducible refine gate_dst (N := 8) rfl ?_); refine lit_event rfl (N := 8) rfl (inner := #[.int .i64 167772160, .int .i64 24, .slice (some ⟨g1, 0, none⟩) 1 1, .slice (some ⟨g2, 0, none⟩) 1 1, .int .i64 1, .int .i64 167772161, .int .i64 600]) (e := 57) (n := 1) sqs ?_; intro g3 hg w13 hbox hb; have P3 := sqM (hbox); have L4 := sqM (show gs < g3 by rw [hg]; exact blk_lt BS.out); replace BA := sqM (blk_below BA.out hb); replace P1 := sqM (blk_below P1.out hb); replace P2 := sqM (blk_below P2.out hb); replace HB := sqM (below_step (sqB HB.out) hb); clear hb hbox hg) | ((with_reducible refine gate_dst (N := 10) rfl ?_); refine lit_event rfl (N := 10) rfl (inner := #[.slice (some ⟨g3, 0, none⟩) 1 1]) (e := 41) (n := 1) sqs ?_; intro g4 hg w16 hbox hb; have P4 := sqM (hbox); have L5 := sqM (show g3 < g4 by rw [hg]; exact blk_lt P3.out); replace BA := sqM (blk_below BA.out hb); replace P1 := sqM (blk_below P1.out hb); replace P2 := sqM (blk_below P2.out hb); replace P3 := sqM (blk_below P3.out hb); replace HB := sqM (below_step (sqB HB.out) hb); clear hb hbox hg; obtain ⟨hcz19_0, hcz19_1, hcz19_2, hfz19_0, hfz19_1, hfz19_2⟩ := sqF3 BA.out))
 refine bodyPost_ret (results_cell_row rfl _ _ ga 24 #[.int .i64 167772161, .int .i64 300, .slice (some ⟨g4, 0, none⟩) 1 1] (0, 0) _ rfl (by exact (sqP3 BA.out)) Try.underlying24 rfl (by kernel_rfl)) rfl ?_
 have l1 := L1.out; have l2 := L2.out; have l3 := L3.out; have l4 := L4.out; have l5 := L5.out; have m1 := M1.out
 refine ⟨g1, g2, g3, g4, rfl, ⟨sqX3 P1.out (by omega), sqX3 P2.out (by omega), sqX3 P3.out (by omega), sqX3 P4.out (by omega), m1, l2, by omega, l5, ?_⟩, sqB1 HB.out GA.out⟩
 exact blk_lt (sqX3 P4.out (by omega))
theorem Lay.far3 {w : World} {lo hi g1 g2 g3 g4 : Nat} {f : Int} (h : Lay w lo hi g1 g2 g3 g4 f) {g : Nat} (hp : g < lo ∨ hi ≤ g) (u0 u1 u2 : Value) : Lay (((w.setCell ⟨g, 0, none⟩ u0).setCell ⟨g, 1, none⟩ u1).setCell ⟨g, 2, none⟩ u2) lo hi g1 g2 g3 g4 f :=
  ((h.far (p := ⟨g, 0, none⟩) hp u0).far (p := ⟨g, 1, none⟩) hp u1).far (p := ⟨g, 2, none⟩) hp u2
theorem Lay.put {w : World} {lo hi g1 g2 g3 g4 : Nat} {f : Int} (h : Lay w lo hi g1 g2 g3 g4 f) (f' : Int) : Lay (w.setCell ⟨g1, 0, none⟩ (.int .i64 f')) lo hi g1 g2 g3 g4 f' := by
 have l := h.l
 exact ⟨blk_put h.h1 0 _ rfl, blk_far h.h2 (p := ⟨g1, 0, none⟩) (show g2 ≠ g1 by omega) _, blk_far h.h3 (p := ⟨g1, 0, none⟩) (show g3 ≠ g1 by omega) _, blk_far h.h4 (p := ⟨g1, 0, none⟩) (show g4 ≠ g1 by omega) _, l⟩
/-- Rows of seven plain cells. -/
def rawK : Kd (List Value) where
  sz := 7
  E := []
  K := fun _ x cs => cs = x ∧ x.length = 7 ∧ ∀ u ∈ x, u.oneCell' = true
  M := fun _ _ _ x cs => cs = x ∧ x.length = 7 ∧ ∀ u ∈ x, u.oneCell' = true
  K_len := fun h => by rw [h.1]; exact h.2.1
  K_one := fun h => by rw [h.1]; exact h.2.2
  K_below := fun _ h => h
  K_of_M := fun h => h
  M_mono := fun _ h => h
  M_bound := fun h => h
  M_move := fun _ h => h
  M_lower := fun _ h => h
theorem rawC {w : World} {A : Option Addr} {n : Nat} {xs : List (List Value)} {ys : List S57} (hc : Kd.C rawK w A n xs) (hl : ys.length = xs.length) (hk : ∀ (j : Nat) (y : S57), ys[j]? = some y → ∃ x, xs[j]? = some x ∧ k57.K w y x) : Kd.C k57 w A n ys := by
 obtain ⟨h1, h2, h3⟩ := hc
 refine ⟨hl.trans h1, h2, fun hn => ?_⟩
 obtain ⟨ad, hA, hj⟩ := h3 hn
 refine ⟨ad, hA, fun j y hy => ?_⟩
 obtain ⟨x, hx, hK⟩ := hk j y hy
 obtain ⟨c, hcl, hR, hcell⟩ := hj j x hx
 obtain rfl := hR.1
 exact ⟨c, hcl, hK, hcell⟩
def rw1 (g1 g2 : Nat) : List Value := [.int .i64 167772160, .int .i64 24, .slice (some ⟨g1, 0, none⟩) 1 1, .slice (some ⟨g2, 0, none⟩) 1 1, .int .i64 1, .int .i64 167772161, .int .i64 600]
def rw2 : List Value := [.int .i64 167772288, .int .i64 25, .slice none 0 0, .slice none 0 0, .int .i64 0, .int .i64 0, .int .i64 1]
theorem rw1_K (w : World) (g1 g2 : Nat) : rawK.K w (rw1 g1 g2) (rw1 g1 g2) := ⟨rfl, rfl, by simp [rw1, Value.oneCell']⟩
theorem rw2_K (w : World) : rawK.K w rw2 rw2 := ⟨rfl, rfl, by simp [rw2, Value.oneCell']⟩
/-- The example with a second subnet: its new row, and what leads to it. -/
theorem Lay.CE {w : World} {lo hi g1 g2 g3 g4 : Nat} {f : Int} (h : Lay w lo hi g1 g2 g3 g4 f) {A : Option Addr} {c : Nat} (hA : Kd.C rawK w A 2 [rw1 g1 g2, rw2]) (hc : 2 ≤ c) {w' : World} (hw : w' = w.setCell ⟨g4, 0, none⟩ (.slice A 2 c))
    (hA' : Kd.C rawK w' A 2 [rw1 g1 g2, rw2]) (hf : f = 167772170) : Kd.C k41 w' (some ⟨g4, 0, none⟩) 1 plE := by
 subst hf
 have l := h.l
 have b1 : w'.heap[g1]? = some (.cells #[.int .i64 167772170, .int .i64 167772180] 62 (0, 0)) := by rw [hw]; exact blk_far h.h1 (p := ⟨g4, 0, none⟩) (show g1 ≠ g4 by omega) _
 have b2 : w'.heap[g2]? = some (.cells #[.string (⟨#[105, 48, 49]⟩ : ByteArray), .int .i64 167772165] 59 (0, 0)) := by rw [hw]; exact blk_far h.h2 (p := ⟨g4, 0, none⟩) (show g2 ≠ g4 by omega) _
 have b4 : w'.heap[g4]? = some (.cells #[.slice A 2 c] 41 (0, 0)) := by rw [hw]; exact blk_put h.h4 0 _ rfl
 have k1 : k57.K w' ⟨167772160, 24, [⟨167772170, 167772180⟩], [⟨⟨#[105, 48, 49]⟩, 167772165⟩], 1, 167772161, 600⟩ (rw1 g1 g2) :=
  k57_mk w' ⟨167772160, 24, [⟨167772170, 167772180⟩], [⟨⟨#[105, 48, 49]⟩, 167772165⟩], 1, 167772161, 600⟩ (Nat.le_refl 1) (C_one k62 (k62_mk w' ⟨167772170, 167772180⟩) b1) (Nat.le_refl 1) (C_one k59 (k59_mk w' ⟨⟨#[105, 48, 49]⟩, 167772165⟩) b2)
 have k2 : k57.K w' ⟨167772288, 25, [], [], 0, 0, 1⟩ rw2 :=
  k57_mk w' ⟨167772288, 25, [], [], 0, 0, 1⟩ (Nat.le_refl 0) (Kd.C_nil _ _) (Nat.le_refl 0) (Kd.C_nil _ _)
 have hs : Kd.C k57 w' A 2 (plR 167772170 ++ [⟨167772288, 25, [], [], 0, 0, 1⟩]) := by
  refine rawC hA' rfl (fun j y hy => ?_)
  cases j with
  | zero => obtain rfl := Option.some.inj hy; exact ⟨_, rfl, k1⟩
  | succ j =>
   cases j with
   | zero => obtain rfl := Option.some.inj hy; exact ⟨_, rfl, k2⟩
   | succ j => simp [plR] at hy
 exact C_one k41 (k41_mk w' ⟨plR 167772170 ++ [⟨167772288, 25, [], [], 0, 0, 1⟩]⟩ hc hs) b4
theorem plC_len (f : Int) : (plC f).length = 1 := rfl
theorem plE_len : plE.length = 1 := rfl
theorem one_Find {k : Nat} {a b x r1 r2 : Int} {r3 : Bool} {A : Option Addr} {l : List S41} {w : World} (hl : l.length = 1) (hc : Kd.C k41 w A 1 l) (h : conf_Find.f k a b l x = some (r1, r2, r3)) :
    Calls Try.prog 24 #[.agg #[.int .i64 a, .int .i64 b, .slice A 1 1], .int .i64 x] w fun e w' => e = .returned (.tuple #[.int .i64 r1, .int .i64 r2, .bool r3]) ∧ Below w.heap.size w w' := by
 have := conf_Find.calls k a b A 1 l x r1 r2 r3 w (by rw [hl]; exact hc) (by omega) h
 rw [hl] at this
 exact this
theorem one_Keeper {k : Nat} {a b x : Int} {r1 : ByteArray} {r2 : Bool} {A : Option Addr} {l : List S41} {w : World} (hl : l.length = 1) (hc : Kd.C k41 w A 1 l) (h : conf_Keeper.f k a b l x = some (r1, r2)) :
    Calls Try.prog 20 #[.agg #[.int .i64 a, .int .i64 b, .slice A 1 1], .int .i64 x] w fun e w' => e = .returned (.tuple #[.string r1, .bool r2]) ∧ Below w.heap.size w w' := by
 have := conf_Keeper.calls k a b A 1 l x r1 r2 w (by rw [hl]; exact hc) (by omega) h
 rw [hl] at this
 exact this
theorem one_KeptFor {k : Nat} {a b x r1 : Int} {y : ByteArray} {r2 : Bool} {A : Option Addr} {l : List S41} {w : World} (hl : l.length = 1) (hc : Kd.C k41 w A 1 l) (h : conf_KeptFor.f k a b l x y = some (r1, r2)) :
    Calls Try.prog 18 #[.agg #[.int .i64 a, .int .i64 b, .slice A 1 1], .int .i64 x, .string y] w fun e w' => e = .returned (.tuple #[.int .i64 r1, .bool r2]) ∧ Below w.heap.size w w' := by
 have := conf_KeptFor.calls k a b A 1 l x y r1 r2 w (by rw [hl]; exact hc) (by omega) h
 rw [hl] at this
 exact this
theorem one_Check {k : Nat} {a b r : Int} {A : Option Addr} {l : List S41} {w : World} (hl : l.length = 1) (hc : Kd.C k41 w A 1 l) (h : conf_Check.f k a b l = some r) :
    Calls Try.prog 16 #[.agg #[.int .i64 a, .int .i64 b, .slice A 1 1]] w fun e w' => e = .returned (.int .i64 r) ∧ Below w.heap.size w w' := by
 have := conf_Check.calls k a b A 1 l r w (by rw [hl]; exact hc) (by omega) h
 rw [hl] at this
 exact this
theorem one_InPool {k : Nat} {a b x y : Int} {r : Bool} {A : Option Addr} {l : List S41} {w : World} (hl : l.length = 1) (hc : Kd.C k41 w A 1 l) (h : conf_InPool.f k a b l x y = some r) :
    Calls Try.prog 22 #[.agg #[.int .i64 a, .int .i64 b, .slice A 1 1], .int .i64 x, .int .i64 y] w fun e w' => e = .returned (.bool r) ∧ Below w.heap.size w w' := by
 have := conf_InPool.calls k a b A 1 l x y r w (by rw [hl]; exact hc) (by omega) h
 rw [hl] at this
 exact this
def boarderlaw13_knows.T3 : Bool × List (List Nat × List Nat) := (true, [([], []), ([0], [0]), ([], []), ([2], [2]), ([3], [3]), ([4], [4]), ([5], [5]), ([], []), ([7], [7]), ([6, 8], [6, 8]), ([1, 0, 1, 2, 3, 4, 5, 6, 7, 8, 9], [1]), ([10, 0, 1, 2, 3, 4, 5, 6, 7, 8, 9], [10]), ([11, 9, 9, 0, 1, 2, 3, 4, 5, 6, 7, 8, 9], [9, 11])])
def boarderlaw13_knows.B3 : List Nat := [0, 1, 0, 4, 12, 28, 60, 0, 128, 508, 1023, 2047, 4095]
theorem boarderlaw13_knows.tab3 : rtab .any (opsOf Try.f15 3) = boarderlaw13_knows.T3 := by kernel_rfl
theorem boarderlaw13_knows.bits3 : waitsOk boarderlaw13_knows.T3.2 boarderlaw13_knows.B3 = true := by kernel_rfl
def boarderlaw13_knows.f (k : Nat) : Option (Bool) := ((conf_Find.f k 167772161 300 (plC 167772170) 167772259).bind fun bt264 => ((conf_Keeper.f k 167772161 300 (plC 167772170) 167772165).bind fun bt267 => ((conf_KeptFor.f k 167772161 300 (plC 167772170) 0 (⟨#[105, 48, 49]⟩ : ByteArray)).bind fun bt269 => ((conf_Check.f k 167772161 300 (plC 167772170)).bind fun t271 => (if t271 = 0 then ((conf_Check.f k 167772161 300 (plC 167772161)).bind fun t272 => (if t272 = 9 then ((conf_Check.f k 167772161 300 plE).bind fun t273 => (if t273 = 8 then (if bt264.1 = 0 then (if bt264.2.1 = 0 then (if bt264.2.2 = true then (if bt267.1.toList = ([105, 48, 49] : List UInt8) then (if bt267.2 = true then (if bt269.1 = 167772165 then (if bt269.2 = true then ((conf_InPool.f k 167772161 300 (plC 167772170) 0 167772180).bind fun t274 => (if t274 = true then ((conf_InPool.f k 167772161 300 (plC 167772170) 0 167772181).bind fun t275 => (some (!t275))) else (none))) else (none)) else (none)) else (none)) else (none)) else (none)) else (none)) else (none)) else (none))) else (none))) else (none))))))
theorem boarderlaw13_knows.mono : ∀ k, LeO (boarderlaw13_knows.f k ) (boarderlaw13_knows.f (k + 1) ) := by
 intro  k
 unfold boarderlaw13_knows.f
 repeat' first
  | (with_reducible exact conf_Check.mono _ _ _ _)
  | (with_reducible exact conf_Find.mono _ _ _ _ _)
  | (with_reducible exact conf_InPool.mono _ _ _ _ _ _)
  | (with_reducible exact conf_Keeper.mono _ _ _ _ _)
  | (with_reducible exact conf_KeptFor.mono _ _ _ _ _ _)
  | (with_reducible exact LeO.refl _)
  | (with_reducible exact LeO.none _)
  | (with_reducible refine LeO.ite ?_ ?_)
  | (with_reducible refine LeO.bind ?_ (fun _ => ?_))
set_option maxHeartbeats 8000000 in
set_option maxRecDepth 100000 in
theorem boarderlaw13_knows.calls (k : Nat) (r : Bool) (w : World) (h : boarderlaw13_knows.f k = some r) :
    Calls Try.prog 15 #[] w fun e w' => e = .returned (.bool r) ∧ Below w.heap.size w w' := by
 have hu24 := Try.underlying24
 have HB := Aside0.mk (Below.refl w.heap.size w)
 have H : ((conf_Find.f k 167772161 300 (plC 167772170) 167772259).bind fun bt264 => ((conf_Keeper.f k 167772161 300 (plC 167772170) 167772165).bind fun bt267 => ((conf_KeptFor.f k 167772161 300 (plC 167772170) 0 (⟨#[105, 48, 49]⟩ : ByteArray)).bind fun bt269 => ((conf_Check.f k 167772161 300 (plC 167772170)).bind fun t271 => (if t271 = 0 then ((conf_Check.f k 167772161 300 (plC 167772161)).bind fun t272 => (if t272 = 9 then ((conf_Check.f k 167772161 300 plE).bind fun t273 => (if t273 = 8 then (if bt264.1 = 0 then (if bt264.2.1 = 0 then (if bt264.2.2 = true then (if bt267.1.toList = ([105, 48, 49] : List UInt8) then (if bt267.2 = true then (if bt269.1 = 167772165 then (if bt269.2 = true then ((conf_InPool.f k 167772161 300 (plC 167772170) 0 167772180).bind fun t274 => (if t274 = true then ((conf_InPool.f k 167772161 300 (plC 167772170) 0 167772181).bind fun t275 => (some (!t275))) else (none))) else (none)) else (none)) else (none)) else (none)) else (none)) else (none)) else (none)) else (none))) else (none))) else (none)))))) = some r := h
 clear h
 replace H := Option.bind_eq_some_iff.mp H
 obtain ⟨⟨t264, t265, t266⟩, A40, H⟩ := H
 replace H : ((conf_Keeper.f k 167772161 300 (plC 167772170) 167772165).bind fun bt267 => ((conf_KeptFor.f k 167772161 300 (plC 167772170) 0 (⟨#[105, 48, 49]⟩ : ByteArray)).bind fun bt269 => ((conf_Check.f k 167772161 300 (plC 167772170)).bind fun t271 => (if t271 = 0 then ((conf_Check.f k 167772161 300 (plC 167772161)).bind fun t272 => (if t272 = 9 then ((conf_Check.f k 167772161 300 plE).bind fun t273 => (if t273 = 8 then (if t264 = 0 then (if t265 = 0 then (if t266 = true then (if bt267.1.toList = ([105, 48, 49] : List UInt8) then (if bt267.2 = true then (if bt269.1 = 167772165 then (if bt269.2 = true then ((conf_InPool.f k 167772161 300 (plC 167772170) 0 167772180).bind fun t274 => (if t274 = true then ((conf_InPool.f k 167772161 300 (plC 167772170) 0 167772181).bind fun t275 => (some (!t275))) else (none))) else (none)) else (none)) else (none)) else (none)) else (none)) else (none)) else (none)) else (none))) else (none))) else (none))))) = some r := H
 have A4 := Aside0.mk A40
 clear A40
 replace H := Option.bind_eq_some_iff.mp H
 obtain ⟨⟨t267, t268⟩, A50, H⟩ := H
 replace H : ((conf_KeptFor.f k 167772161 300 (plC 167772170) 0 (⟨#[105, 48, 49]⟩ : ByteArray)).bind fun bt269 => ((conf_Check.f k 167772161 300 (plC 167772170)).bind fun t271 => (if t271 = 0 then ((conf_Check.f k 167772161 300 (plC 167772161)).bind fun t272 => (if t272 = 9 then ((conf_Check.f k 167772161 300 plE).bind fun t273 => (if t273 = 8 then (if t264 = 0 then (if t265 = 0 then (if t266 = true then (if t267.toList = ([105, 48, 49] : List UInt8) then (if t268 = true then (if bt269.1 = 167772165 then (if bt269.2 = true then ((conf_InPool.f k 167772161 300 (plC 167772170) 0 167772180).bind fun t274 => (if t274 = true then ((conf_InPool.f k 167772161 300 (plC 167772170) 0 167772181).bind fun t275 => (some (!t275))) else (none))) else (none)) else (none)) else (none)) else (none)) else (none)) else (none)) else (none)) else (none))) else (none))) else (none)))) = some r := H
 have A5 := Aside0.mk A50
 clear A50
 replace H := Option.bind_eq_some_iff.mp H
 obtain ⟨⟨t269, t270⟩, A60, H⟩ := H
 replace H : ((conf_Check.f k 167772161 300 (plC 167772170)).bind fun t271 => (if t271 = 0 then ((conf_Check.f k 167772161 300 (plC 167772161)).bind fun t272 => (if t272 = 9 then ((conf_Check.f k 167772161 300 plE).bind fun t273 => (if t273 = 8 then (if t264 = 0 then (if t265 = 0 then (if t266 = true then (if t267.toList = ([105, 48, 49] : List UInt8) then (if t268 = true then (if t269 = 167772165 then (if t270 = true then ((conf_InPool.f k 167772161 300 (plC 167772170) 0 167772180).bind fun t274 => (if t274 = true then ((conf_InPool.f k 167772161 300 (plC 167772170) 0 167772181).bind fun t275 => (some (!t275))) else (none))) else (none)) else (none)) else (none)) else (none)) else (none)) else (none)) else (none)) else (none))) else (none))) else (none))) = some r := H
 have A6 := Aside0.mk A60
 clear A60
 replace H := Option.bind_eq_some_iff.mp H
 obtain ⟨t271, A70, H⟩ := H
 replace H : (if t271 = 0 then ((conf_Check.f k 167772161 300 (plC 167772161)).bind fun t272 => (if t272 = 9 then ((conf_Check.f k 167772161 300 plE).bind fun t273 => (if t273 = 8 then (if t264 = 0 then (if t265 = 0 then (if t266 = true then (if t267.toList = ([105, 48, 49] : List UInt8) then (if t268 = true then (if t269 = 167772165 then (if t270 = true then ((conf_InPool.f k 167772161 300 (plC 167772170) 0 167772180).bind fun t274 => (if t274 = true then ((conf_InPool.f k 167772161 300 (plC 167772170) 0 167772181).bind fun t275 => (some (!t275))) else (none))) else (none)) else (none)) else (none)) else (none)) else (none)) else (none)) else (none)) else (none))) else (none))) else (none)) = some r := H
 have A7 := Aside0.mk A70
 clear A70
 by_cases c8 : t271 = 0
 rotate_left
 · rw [if_neg c8] at H
   exact absurd H (by simp)
 rw [if_pos c8] at H
 have c8b0 : (t271 == 0) = true := beq_iff_eq.mpr c8
 have c8b1 : (t271 != 0) = false := bne_eq_false_iff_eq.mpr c8
 clear c8
 replace H := Option.bind_eq_some_iff.mp H
 obtain ⟨t272, A90, H⟩ := H
 replace H : (if t272 = 9 then ((conf_Check.f k 167772161 300 plE).bind fun t273 => (if t273 = 8 then (if t264 = 0 then (if t265 = 0 then (if t266 = true then (if t267.toList = ([105, 48, 49] : List UInt8) then (if t268 = true then (if t269 = 167772165 then (if t270 = true then ((conf_InPool.f k 167772161 300 (plC 167772170) 0 167772180).bind fun t274 => (if t274 = true then ((conf_InPool.f k 167772161 300 (plC 167772170) 0 167772181).bind fun t275 => (some (!t275))) else (none))) else (none)) else (none)) else (none)) else (none)) else (none)) else (none)) else (none)) else (none))) else (none)) = some r := H
 have A9 := Aside0.mk A90
 clear A90
 by_cases c10 : t272 = 9
 rotate_left
 · rw [if_neg c10] at H
   exact absurd H (by simp)
 rw [if_pos c10] at H
 have c10b0 : (t272 == 9) = true := beq_iff_eq.mpr c10
 have c10b1 : (t272 != 9) = false := bne_eq_false_iff_eq.mpr c10
 clear c10
 replace H := Option.bind_eq_some_iff.mp H
 obtain ⟨t273, A110, H⟩ := H
 replace H : (if t273 = 8 then (if t264 = 0 then (if t265 = 0 then (if t266 = true then (if t267.toList = ([105, 48, 49] : List UInt8) then (if t268 = true then (if t269 = 167772165 then (if t270 = true then ((conf_InPool.f k 167772161 300 (plC 167772170) 0 167772180).bind fun t274 => (if t274 = true then ((conf_InPool.f k 167772161 300 (plC 167772170) 0 167772181).bind fun t275 => (some (!t275))) else (none))) else (none)) else (none)) else (none)) else (none)) else (none)) else (none)) else (none)) else (none)) = some r := H
 have A11 := Aside0.mk A110
 clear A110
 by_cases c12 : t273 = 8
 rotate_left
 · rw [if_neg c12] at H
   exact absurd H (by simp)
 rw [if_pos c12] at H
 have c12b0 : (t273 == 8) = true := beq_iff_eq.mpr c12
 have c12b1 : (t273 != 8) = false := bne_eq_false_iff_eq.mpr c12
 clear c12
 by_cases c13 : t264 = 0
 rotate_left
 · rw [if_neg c13] at H
   exact absurd H (by simp)
 rw [if_pos c13] at H
 have c13b0 : (t264 == 0) = true := beq_iff_eq.mpr c13
 have c13b1 : (t264 != 0) = false := bne_eq_false_iff_eq.mpr c13
 clear c13
 by_cases c14 : t265 = 0
 rotate_left
 · rw [if_neg c14] at H
   exact absurd H (by simp)
 rw [if_pos c14] at H
 have c14b0 : (t265 == 0) = true := beq_iff_eq.mpr c14
 have c14b1 : (t265 != 0) = false := bne_eq_false_iff_eq.mpr c14
 clear c14
 by_cases c15 : t266 = true
 rotate_left
 · replace c15 := Bool.eq_false_iff.mpr c15
   subst c15
   have H1 : (none) = some r := by rw [if_neg (show ¬ (false = true) by decide)] at H; exact H
   clear H
   have H := H1
   clear H1
   exact absurd H (by simp)
 subst c15
 have H1 : (if t267.toList = ([105, 48, 49] : List UInt8) then (if t268 = true then (if t269 = 167772165 then (if t270 = true then ((conf_InPool.f k 167772161 300 (plC 167772170) 0 167772180).bind fun t274 => (if t274 = true then ((conf_InPool.f k 167772161 300 (plC 167772170) 0 167772181).bind fun t275 => (some (!t275))) else (none))) else (none)) else (none)) else (none)) else (none)) = some r := by rw [if_pos rfl] at H; exact H
 clear H
 have H := H1
 clear H1
 by_cases c16 : t267.toList = ([105, 48, 49] : List UInt8)
 rotate_left
 · rw [if_neg c16] at H
   exact absurd H (by simp)
 rw [if_pos c16] at H
 have c16b0 : (t267.toList == ([105, 48, 49] : List UInt8)) = true := beq_iff_eq.mpr c16
 have c16b1 : (t267.toList != ([105, 48, 49] : List UInt8)) = false := bne_eq_false_iff_eq.mpr c16
 clear c16
 by_cases c17 : t268 = true
 rotate_left
 · replace c17 := Bool.eq_false_iff.mpr c17
   subst c17
   have H1 : (none) = some r := by rw [if_neg (show ¬ (false = true) by decide)] at H; exact H
   clear H
   have H := H1
   clear H1
   exact absurd H (by simp)
 subst c17
 have H1 : (if t269 = 167772165 then (if t270 = true then ((conf_InPool.f k 167772161 300 (plC 167772170) 0 167772180).bind fun t274 => (if t274 = true then ((conf_InPool.f k 167772161 300 (plC 167772170) 0 167772181).bind fun t275 => (some (!t275))) else (none))) else (none)) else (none)) = some r := by rw [if_pos rfl] at H; exact H
 clear H
 have H := H1
 clear H1
 by_cases c18 : t269 = 167772165
 rotate_left
 · rw [if_neg c18] at H
   exact absurd H (by simp)
 rw [if_pos c18] at H
 have c18b0 : (t269 == 167772165) = true := beq_iff_eq.mpr c18
 have c18b1 : (t269 != 167772165) = false := bne_eq_false_iff_eq.mpr c18
 clear c18
 by_cases c19 : t270 = true
 rotate_left
 · replace c19 := Bool.eq_false_iff.mpr c19
   subst c19
   have H1 : (none) = some r := by rw [if_neg (show ¬ (false = true) by decide)] at H; exact H
   clear H
   have H := H1
   clear H1
   exact absurd H (by simp)
 subst c19
 have H1 : ((conf_InPool.f k 167772161 300 (plC 167772170) 0 167772180).bind fun t274 => (if t274 = true then ((conf_InPool.f k 167772161 300 (plC 167772170) 0 167772181).bind fun t275 => (some (!t275))) else (none))) = some r := by rw [if_pos rfl] at H; exact H
 clear H
 have H := H1
 clear H1
 replace H := Option.bind_eq_some_iff.mp H
 obtain ⟨t274, A200, H⟩ := H
 replace H : (if t274 = true then ((conf_InPool.f k 167772161 300 (plC 167772170) 0 167772181).bind fun t275 => (some (!t275))) else (none)) = some r := H
 have A20 := Aside0.mk A200
 clear A200
 by_cases c21 : t274 = true
 rotate_left
 · replace c21 := Bool.eq_false_iff.mpr c21
   subst c21
   have H1 : (none) = some r := by rw [if_neg (show ¬ (false = true) by decide)] at H; exact H
   clear H
   have H := H1
   clear H1
   exact absurd H (by simp)
 subst c21
 have H1 : ((conf_InPool.f k 167772161 300 (plC 167772170) 0 167772181).bind fun t275 => (some (!t275))) = some r := by rw [if_pos rfl] at H; exact H
 clear H
 have H := H1
 clear H1
 replace H := Option.bind_eq_some_iff.mp H
 obtain ⟨t275, A220, H⟩ := H
 replace H : (some (!t275)) = some r := H
 have A22 := Aside0.mk A220
 clear A220
 obtain rfl := Option.some.inj H
 go_enter Try.func15, Try.ntmps15
 try go_wp2_with (first | ((with_reducible refine gate_callee (f := 39) rfl ?_); refine goesL_ (some 11) rfl rfl Try.func39 (by kernel_rfl) rfl #[] rfl sqA ?_; (refine (boarderlaw13_Plain.lay _).mono ?_); rintro e wa ⟨c1, c2, c3, c4, rfl, hL, hb⟩; refine ⟨_, rfl, ?_⟩; have HC := sqM hL; have ZA := sqM (show w.heap.size ≤ wa.heap.size from hb.size); replace HB := sqM (below_step HB.out hb); clear hL hb) | ((with_reducible refine gate_callee (f := 39) rfl ?_); refine goesL_ (some 12) rfl rfl Try.func39 (by kernel_rfl) rfl #[] rfl sqA ?_; (refine (boarderlaw13_Plain.lay _).mono ?_); rintro e wb ⟨d1, d2, d3, d4, rfl, hL, hb⟩; refine ⟨_, rfl, ?_⟩; have HD := sqM hL; have ZB := sqM (show wa.heap.size ≤ wb.heap.size from hb.size); replace HC := sqM (HC.out.below hb); replace HB := sqM (below_step HB.out hb); clear hL hb) | ((with_reducible refine gate_callee (f := 39) rfl ?_); refine goesL_ (some 13) rfl rfl Try.func39 (by kernel_rfl) rfl #[] rfl sqA ?_; (refine (boarderlaw13_Plain.lay _).mono ?_); rintro e wc ⟨e1, e2, e3, e4, rfl, hL, hb⟩; refine ⟨_, rfl, ?_⟩; have HE := sqM hL; have ZC := sqM (show wb.heap.size ≤ wc.heap.size from hb.size); replace HC := sqM (HC.out.below hb); replace HD := sqM (HD.out.below hb); replace HB := sqM (below_step HB.out hb); clear hL hb) | ((with_reducible refine gate_dst (N := 1) rfl ?_); refine box_event rfl (N := 1) rfl (cs := #[.int .i64 0, .int .i64 0, .slice none 0 0]) (t := 24) sqs ?_; intro gc hg w1 hbox hb; have BC := sqM (hbox); have GC := sqM (show wc.heap.size ≤ gc from Nat.le_of_eq hg.symm); have WC := sqM (sqZ hg (sqB HB.out)); replace HC := sqM (HC.out.below hb); replace HD := sqM (HD.out.below hb); replace HE := sqM (HE.out.below hb); replace HB := sqM (below_step (sqB HB.out) hb); clear hb hbox hg) | ((with_reducible refine gate_dst (N := 2) rfl ?_); refine box_event rfl (N := 2) rfl (cs := #[.int .i64 0, .int .i64 0, .slice none 0 0]) (t := 24) sqs ?_; intro gd hg w2 hbox hb; have BD := sqM (hbox); have GD := sqM (show gc < gd by rw [hg]; exact blk_lt BC.out); have WD := sqM (sqZ hg (sqB HB.out)); replace BC := sqM (blk_below BC.out hb); replace HC := sqM (HC.out.below hb); replace HD := sqM (HD.out.below hb); replace HE := sqM (HE.out.below hb); replace HB := sqM (below_step (sqB HB.out) hb); clear hb hbox hg) | ((with_reducible refine gate_dst (N := 3) rfl ?_); refine box_event rfl (N := 3) rfl (cs := #[.int .i64 0, .int .i64 0, .slice none 0 0]) (t := 24) sqs ?_; intro ge hg w3 hbox hb; have BE := sqM (hbox); have GE := sqM (show gd < ge by rw [hg]; exact blk_lt BD.out); have WE := sqM (sqZ hg (sqB HB.out)); replace BC := sqM (blk_below BC.out hb); replace BD := sqM (blk_below BD.out hb); replace HC := sqM (HC.out.below hb); replace HD := sqM (HD.out.below hb); replace HE := sqM (HE.out.below hb); replace HB := sqM (below_step (sqB HB.out) hb); clear hb hbox hg; obtain ⟨hcz1_0, hcz1_1, hcz1_2, hfz1_0, hfz1_1, hfz1_2⟩ := sqF3 BC.out) | ((with_reducible refine gate_store (t := 24) (p := 1) rfl ?_); refine store_event (t := 24) (p := 1) (v := ?vo_w4) (w1 := (((w3.setCell ⟨gc, 0, none⟩ (.int .i64 167772161)).setCell ⟨gc, 1, none⟩ (.int .i64 300)).setCell ⟨gc, 2, none⟩ (.slice (some ⟨c4, 0, none⟩) 1 1))) ?hg ?ho ?hn ?hr ?_; (case ho => rfl); (case hg => rfl); (case hn => rfl); (case hr => first | (go_simp; done) | (go_simp; rfl)); intro w4 hw; replace BC : Aside0 (w4.heap[gc]? = some (.cells #[.int .i64 167772161, .int .i64 300, .slice (some ⟨c4, 0, none⟩) 1 1] 24 (0, 0))) := ⟨by rw [hw]; exact sqP3 BC.out⟩; replace BD : Aside0 (w4.heap[gd]? = some (.cells #[.int .i64 0, .int .i64 0, .slice none 0 0] 24 (0, 0))) := ⟨by rw [hw]; exact sqX3 BD.out (by have := GC.out; have := GD.out; have := GE.out; omega)⟩; replace BE : Aside0 (w4.heap[ge]? = some (.cells #[.int .i64 0, .int .i64 0, .slice none 0 0] 24 (0, 0))) := ⟨by rw [hw]; exact sqX3 BE.out (by have := GC.out; have := GD.out; have := GE.out; omega)⟩; replace HC : Aside0 (Lay w4 w.heap.size wa.heap.size c1 c2 c3 c4 167772170) := ⟨by rw [hw]; exact HC.out.far3 (Or.inr (by have := ZB.out; have := ZC.out; have := GC.out; have := GD.out; have := GE.out; omega)) _ _ _⟩; replace HD : Aside0 (Lay w4 wa.heap.size wb.heap.size d1 d2 d3 d4 167772170) := ⟨by rw [hw]; exact HD.out.far3 (Or.inr (by have := ZB.out; have := ZC.out; have := GC.out; have := GD.out; have := GE.out; omega)) _ _ _⟩; replace HE : Aside0 (Lay w4 wb.heap.size wc.heap.size e1 e2 e3 e4 167772170) := ⟨by rw [hw]; exact HE.out.far3 (Or.inr (by have := ZB.out; have := ZC.out; have := GC.out; have := GD.out; have := GE.out; omega)) _ _ _⟩; replace HB : Aside0 (Below w.heap.size w w4) := ⟨by rw [hw]; exact sqB3 HB.out WC.out WD.out WE.out⟩; clear hw; obtain ⟨hcz2_0, hcz2_1, hcz2_2, hfz2_0, hfz2_1, hfz2_2⟩ := sqF3 BD.out) | ((with_reducible refine gate_store (t := 24) (p := 2) rfl ?_); refine store_event (t := 24) (p := 2) (v := ?vo_w5) (w1 := (((w4.setCell ⟨gd, 0, none⟩ (.int .i64 167772161)).setCell ⟨gd, 1, none⟩ (.int .i64 300)).setCell ⟨gd, 2, none⟩ (.slice (some ⟨d4, 0, none⟩) 1 1))) ?hg ?ho ?hn ?hr ?_; (case ho => rfl); (case hg => rfl); (case hn => rfl); (case hr => first | (go_simp; done) | (go_simp; rfl)); intro w5 hw; replace BC : Aside0 (w5.heap[gc]? = some (.cells #[.int .i64 167772161, .int .i64 300, .slice (some ⟨c4, 0, none⟩) 1 1] 24 (0, 0))) := ⟨by rw [hw]; exact sqX3 BC.out (by have := GC.out; have := GD.out; have := GE.out; omega)⟩; replace BD : Aside0 (w5.heap[gd]? = some (.cells #[.int .i64 167772161, .int .i64 300, .slice (some ⟨d4, 0, none⟩) 1 1] 24 (0, 0))) := ⟨by rw [hw]; exact sqP3 BD.out⟩; replace BE : Aside0 (w5.heap[ge]? = some (.cells #[.int .i64 0, .int .i64 0, .slice none 0 0] 24 (0, 0))) := ⟨by rw [hw]; exact sqX3 BE.out (by have := GC.out; have := GD.out; have := GE.out; omega)⟩; replace HC : Aside0 (Lay w5 w.heap.size wa.heap.size c1 c2 c3 c4 167772170) := ⟨by rw [hw]; exact HC.out.far3 (Or.inr (by have := ZB.out; have := ZC.out; have := GC.out; have := GD.out; have := GE.out; omega)) _ _ _⟩; replace HD : Aside0 (Lay w5 wa.heap.size wb.heap.size d1 d2 d3 d4 167772170) := ⟨by rw [hw]; exact HD.out.far3 (Or.inr (by have := ZB.out; have := ZC.out; have := GC.out; have := GD.out; have := GE.out; omega)) _ _ _⟩; replace HE : Aside0 (Lay w5 wb.heap.size wc.heap.size e1 e2 e3 e4 167772170) := ⟨by rw [hw]; exact HE.out.far3 (Or.inr (by have := ZB.out; have := ZC.out; have := GC.out; have := GD.out; have := GE.out; omega)) _ _ _⟩; replace HB : Aside0 (Below w.heap.size w w5) := ⟨by rw [hw]; exact sqB3 HB.out WC.out WD.out WE.out⟩; clear hw; obtain ⟨hcz3_0, hcz3_1, hcz3_2, hfz3_0, hfz3_1, hfz3_2⟩ := sqF3 BE.out) | ((with_reducible refine gate_store (t := 24) (p := 3) rfl ?_); refine store_event (t := 24) (p := 3) (v := ?vo_w6) (w1 := (((w5.setCell ⟨ge, 0, none⟩ (.int .i64 167772161)).setCell ⟨ge, 1, none⟩ (.int .i64 300)).setCell ⟨ge, 2, none⟩ (.slice (some ⟨e4, 0, none⟩) 1 1))) ?hg ?ho ?hn ?hr ?_; (case ho => rfl); (case hg => rfl); (case hn => rfl); (case hr => first | (go_simp; done) | (go_simp; rfl)); intro w6 hw; replace BC : Aside0 (w6.heap[gc]? = some (.cells #[.int .i64 167772161, .int .i64 300, .slice (some ⟨c4, 0, none⟩) 1 1] 24 (0, 0))) := ⟨by rw [hw]; exact sqX3 BC.out (by have := GC.out; have := GD.out; have := GE.out; omega)⟩; replace BD : Aside0 (w6.heap[gd]? = some (.cells #[.int .i64 167772161, .int .i64 300, .slice (some ⟨d4, 0, none⟩) 1 1] 24 (0, 0))) := ⟨by rw [hw]; exact sqX3 BD.out (by have := GC.out; have := GD.out; have := GE.out; omega)⟩; replace BE : Aside0 (w6.heap[ge]? = some (.cells #[.int .i64 167772161, .int .i64 300, .slice (some ⟨e4, 0, none⟩) 1 1] 24 (0, 0))) := ⟨by rw [hw]; exact sqP3 BE.out⟩; replace HC : Aside0 (Lay w6 w.heap.size wa.heap.size c1 c2 c3 c4 167772170) := ⟨by rw [hw]; exact HC.out.far3 (Or.inr (by have := ZB.out; have := ZC.out; have := GC.out; have := GD.out; have := GE.out; omega)) _ _ _⟩; replace HD : Aside0 (Lay w6 wa.heap.size wb.heap.size d1 d2 d3 d4 167772170) := ⟨by rw [hw]; exact HD.out.far3 (Or.inr (by have := ZB.out; have := ZC.out; have := GC.out; have := GD.out; have := GE.out; omega)) _ _ _⟩; replace HE : Aside0 (Lay w6 wb.heap.size wc.heap.size e1 e2 e3 e4 167772170) := ⟨by rw [hw]; exact HE.out.far3 (Or.inr (by have := ZB.out; have := ZC.out; have := GC.out; have := GD.out; have := GE.out; omega)) _ _ _⟩; replace HB : Aside0 (Below w.heap.size w w6) := ⟨by rw [hw]; exact sqB3 HB.out WC.out WD.out WE.out⟩; clear hw; obtain ⟨hcz4_0, hcz4_1, hcz4_2, hfz4_0, hfz4_1, hfz4_2⟩ := sqF3 BD.out; obtain ⟨hcz5_0, hfz5_0⟩ := sqF1 HD.out.h4; obtain ⟨hcz6_0, hcz6_1, hcz6_2, hcz6_3, hcz6_4, hcz6_5, hcz6_6, hfz6_0, hfz6_1, hfz6_2, hfz6_3, hfz6_4, hfz6_5, hfz6_6⟩ := sqF7 HD.out.h3; obtain ⟨hcz7_0, hcz7_1, hfz7_0, hfz7_1⟩ := sqF2 HD.out.h1) | ((with_reducible refine gate_store (t := 3) (p := 23) rfl ?_); refine store_event (t := 3) (p := 23) (v := ?vo_w7) (w1 := w6.setCell ⟨d1, 0, none⟩ (.int .i64 167772161)) ?hg ?ho ?hn ?hr ?_; (case ho => rfl); (case hg => rfl); (case hn => rfl); (case hr => first | (go_simp; done) | (go_simp; rfl)); intro w7 hw; replace BC : Aside0 (w7.heap[gc]? = some (.cells #[.int .i64 167772161, .int .i64 300, .slice (some ⟨c4, 0, none⟩) 1 1] 24 (0, 0))) := ⟨by rw [hw]; exact blk_far BC.out (p := ⟨d1, 0, none⟩) (show gc ≠ d1 from (by have := HD.out.l; have := ZB.out; have := ZC.out; have := GC.out; have := GD.out; have := GE.out; omega)) _⟩; replace BD : Aside0 (w7.heap[gd]? = some (.cells #[.int .i64 167772161, .int .i64 300, .slice (some ⟨d4, 0, none⟩) 1 1] 24 (0, 0))) := ⟨by rw [hw]; exact blk_far BD.out (p := ⟨d1, 0, none⟩) (show gd ≠ d1 from (by have := HD.out.l; have := ZB.out; have := ZC.out; have := GC.out; have := GD.out; have := GE.out; omega)) _⟩; replace BE : Aside0 (w7.heap[ge]? = some (.cells #[.int .i64 167772161, .int .i64 300, .slice (some ⟨e4, 0, none⟩) 1 1] 24 (0, 0))) := ⟨by rw [hw]; exact blk_far BE.out (p := ⟨d1, 0, none⟩) (show ge ≠ d1 from (by have := HD.out.l; have := ZB.out; have := ZC.out; have := GC.out; have := GD.out; have := GE.out; omega)) _⟩; replace HC : Aside0 (Lay w7 w.heap.size wa.heap.size c1 c2 c3 c4 167772170) := ⟨by rw [hw]; exact HC.out.far (p := ⟨d1, 0, none⟩) (Or.inr HD.out.l.1) _⟩; replace HE : Aside0 (Lay w7 wb.heap.size wc.heap.size e1 e2 e3 e4 167772170) := ⟨by rw [hw]; exact HE.out.far (p := ⟨d1, 0, none⟩) (Or.inl (show d1 < wb.heap.size from (by have := HD.out.l; omega))) _⟩; replace HB : Aside0 (Below w.heap.size w w7) := ⟨by rw [hw]; exact below_set HB.out (Nat.le_trans ZA.out HD.out.l.1)⟩; replace HD : Aside0 (Lay w7 wa.heap.size wb.heap.size d1 d2 d3 d4 167772161) := ⟨by rw [hw]; exact HD.out.put _⟩; clear hw; clear hcz1_0 hcz1_1 hcz1_2 hfz1_0 hfz1_1 hfz1_2 hcz2_0 hcz2_1 hcz2_2 hfz2_0 hfz2_1 hfz2_2 hcz3_0 hcz3_1 hcz3_2 hfz3_0 hfz3_1 hfz3_2 hcz4_0 hcz4_1 hcz4_2 hfz4_0 hfz4_1 hfz4_2 hcz5_0 hfz5_0 hcz6_0 hcz6_1 hcz6_2 hcz6_3 hcz6_4 hcz6_5 hcz6_6 hfz6_0 hfz6_1 hfz6_2 hfz6_3 hfz6_4 hfz6_5 hfz6_6 hcz7_0 hcz7_1 hfz7_0 hfz7_1))
 replace HC := sqM (HC.out.drew)
 replace HD := sqM (HD.out.drew)
 replace HE := sqM (HE.out.drew)
 replace BC := sqM (blk_drew BC.out)
 replace BD := sqM (blk_drew BD.out)
 replace BE := sqM (blk_drew BE.out)
 replace HB := sqM (below_drew1 HB.out)
 refine start_ (n := 13) (S := fun w' => w'.cell? ⟨ge, 2, none⟩ = some (.slice (some ⟨e4, 0, none⟩) 1 1) ∧ w'.cell? ⟨e4, 0, none⟩ = some (.slice (some ⟨e3, 0, none⟩) 1 1)) (ds := [12]) #[false, false, false, false, false, false, false, false, false, false, false, false, false] (by kernel_rfl) rfl rfl ⟨(blk_cell BE.out 2).trans rfl, (blk_cell HE.out.h4 0).trans rfl⟩ (fun hHeld => ?_); refine with_tabW boarderlaw13_knows.tab3 boarderlaw13_knows.bits3 (fun HT_ HW_ => ?_)
 generalize w7.drew = w8 at HC HD HE BC BD BE HB hHeld ⊢
 refine pure_ (i := 0) (N := some 24) (v := ?_) (a' := ?_) #[true, false, false, false, false, false, false, false, false, false, false, false, false] rfl rfl (any_of HT_.out (by kernel_rfl)) (fun _ _ _ h => h) (Or.inl ⟨by rfl, ?_⟩) ?_ ?_
 rotate_left
 · intro w'
   go_simp
   with_reducible rfl
 rotate_left
 · simp only [Act.put, List.setIfInBounds_toArray, List.set_cons_zero, List.set_cons_succ, i64_w, i32_w]
   rfl
 refine pure_ (i := 2) (N := some 26) (v := ?_) (a' := ?_) #[true, false, true, false, false, false, false, false, false, false, false, false, false] rfl rfl (any_of HT_.out (by kernel_rfl)) (fun _ _ _ h => h) (Or.inl ⟨by rfl, ?_⟩) ?_ ?_
 rotate_left
 · intro w'
   go_simp
   with_reducible rfl
 rotate_left
 · simp only [Act.put, List.setIfInBounds_toArray, List.set_cons_zero, List.set_cons_succ, i64_w, i32_w]
   rfl
 refine pure_ (i := 7) (N := some 31) (v := ?_) (a' := ?_) #[true, false, true, false, false, false, false, true, false, false, false, false, false] rfl rfl (any_of HT_.out (by kernel_rfl)) (fun _ _ _ h => h) (Or.inl ⟨by rfl, ?_⟩) ?_ ?_
 rotate_left
 · intro w'
   go_simp
   with_reducible rfl
 rotate_left
 · simp only [Act.put, List.setIfInBounds_toArray, List.set_cons_zero, List.set_cons_succ, i64_w, i32_w]
   rfl
 refine take_ (i := 1) (N := some 25) (v := ?_) (a' := ?_) #[true, true, true, false, false, false, false, true, false, false, false, false, false] rfl rfl (take_ofW HT_.out HW_.out (by kernel_rfl)) (fun _ _ _ h => h) (Or.inl ⟨by rfl, ?_⟩) hHeld ?_ ?_
 rotate_left
 · rintro w' ⟨s0, s1⟩
   go_simp
   with_reducible rfl
 rotate_left
 · simp only [Act.put, List.setIfInBounds_toArray, List.set_cons_zero, List.set_cons_succ, i64_w, i32_w]
   rfl
 refine take_ (i := 3) (N := some 27) (v := ?_) (a' := ?_) #[true, true, true, true, false, false, false, true, false, false, false, false, false] rfl rfl (take_ofW HT_.out HW_.out (by kernel_rfl)) (fun _ _ _ h => h) (Or.inl ⟨by rfl, ?_⟩) hHeld ?_ ?_
 rotate_left
 · rintro w' ⟨s0, s1⟩
   go_simp
   with_reducible rfl
 rotate_left
 · simp only [Act.put, List.setIfInBounds_toArray, List.set_cons_zero, List.set_cons_succ, i64_w, i32_w]
   rfl
 refine pure_ (i := 4) (N := some 28) (v := ?_) (a' := ?_) #[true, true, true, true, true, false, false, true, false, false, false, false, false] rfl rfl (any_of HT_.out (by kernel_rfl)) (fun _ _ _ h => h) (Or.inl ⟨by rfl, ?_⟩) ?_ ?_
 rotate_left
 · intro w'
   go_simp
   with_reducible rfl
 rotate_left
 · simp only [Act.put, List.setIfInBounds_toArray, List.set_cons_zero, List.set_cons_succ, i64_w, i32_w]
   rfl
 refine pure_ (i := 5) (N := some 29) (v := ?_) (a' := ?_) #[true, true, true, true, true, true, false, true, false, false, false, false, false] rfl rfl (any_of HT_.out (by kernel_rfl)) (fun _ _ _ h => h) (Or.inl ⟨by rfl, ?_⟩) ?_ ?_
 rotate_left
 · intro w'
   go_simp
   with_reducible rfl
 rotate_left
 · simp only [Act.put, List.setIfInBounds_toArray, List.set_cons_zero, List.set_cons_succ, i64_w, i32_w]
   rfl
 refine take_ (i := 6) (N := some 30) (v := ?_) (a' := ?_) #[true, true, true, true, true, true, true, true, false, false, false, false, false] rfl rfl (take_ofW HT_.out HW_.out (by kernel_rfl)) (fun _ _ _ h => h) (Or.inl ⟨by rfl, ?_⟩) hHeld ?_ ?_
 rotate_left
 · rintro w' ⟨s0, s1⟩
   go_simp
   with_reducible rfl
 rotate_left
 · simp only [Act.put, List.setIfInBounds_toArray, List.set_cons_zero, List.set_cons_succ, i64_w, i32_w]
   rfl
 refine one_ (i := 8) (N := some 32) #[true, true, true, true, true, true, true, true, true, false, false, false, false] rfl rfl (one_of HT_.out (by kernel_rfl)) (by decide) (fun K hK => ?_)
 refine value_ (w1 := ?_) (v := ?_) (by rfl) rfl ?_ ?_
 rotate_left 2
 · go_simp
   constructor
   · rfl
   · rfl
 refine hK.out _ _ ⟨(blk_cell (blk_alloc BE.out _) 2).trans rfl, (blk_cell (blk_alloc HE.out.h4 _) 0).trans rfl⟩ (fun hHeld => ?_)
 clear hK K
 refine norm_ (a' := ?_) ?_ ?_
 rotate_left
 · show Act.put _ (some 32) _ = _
   simp only [Act.put, List.setIfInBounds_toArray, List.set_cons_zero, List.set_cons_succ, i64_w, i32_w]
   rfl
 refine one_ (i := 9) (N := some 33) #[true, true, true, true, true, true, true, true, true, true, false, false, false] rfl rfl (one_of HT_.out (by kernel_rfl)) (by decide) (fun K hK => ?_)
 refine Kd.R_append_cap_step rawK (w0 := w) w.heap.size (by rfl) (.tmp 30) (.tmp 32) 39 57 (.agg #[(.int .i64 0), (.int .i64 0), (.slice none 0 0), (.slice none 0 0), (.int .i64 0), (.int .i64 0), (.int .i64 0)]) 88 rfl Try.underlying39 info57 rfl (by decide) (by omega) (some ⟨e3, 0, none⟩) [rw1 e1 e2] rw2 rw2 (fun k_ => w8.heap.size ≤ k_) rfl rfl (fun _ _ _ _ _ _ h => h) (rw2_K _) (fun _ h => h) (C_one rawK (rw1_K _ e1 e2) HE.out.h3) HB.out (below_size HB.out) (show (1 + 1) * 88 ≤ 140737488355328 from by omega) ?_
 have ZE := sqM (blk_lt HE.out.h4)
 intro v9 w9 ho hb hg hat
 have HO9 := Aside0.mk ho
 replace BC := sqM (blk_grown BC.out hg (by simp [Value.ownBlock]))
 replace BD := sqM (blk_grown BD.out hg (by simp [Value.ownBlock]))
 replace BE := sqM (blk_grown BE.out hg (by simp [Value.ownBlock]))
 replace HC := sqM (HC.out.grown hg)
 replace HD := sqM (HD.out.grown hg)
 replace HE := sqM (HE.out.grown hg)
 replace HB := sqM hb
 clear ho hb hg hat
 obtain ⟨Ao, co, eo⟩ := Kd.R_slice HO9.out
 subst eo
 refine hK.out _ _ ⟨(blk_cell BE.out 2).trans rfl, (blk_cell HE.out.h4 0).trans rfl⟩ (fun hHeld => ?_)
 clear hK K
 refine norm_ (a' := ?_) ?_ ?_
 rotate_left
 · show Act.put _ (some 33) _ = _
   simp only [Act.put, List.setIfInBounds_toArray, List.set_cons_zero, List.set_cons_succ, i64_w, i32_w]
   rfl
 refine pure_ (i := 10) (N := some 34) (v := ?_) (a' := ?_) #[true, true, true, true, true, true, true, true, true, true, true, false, false] rfl rfl (any_of HT_.out (by kernel_rfl)) (fun _ _ _ h => h) (Or.inl ⟨by rfl, ?_⟩) ?_ ?_
 rotate_left
 · intro w'
   go_simp
   with_reducible rfl
 rotate_left
 · simp only [Act.put, List.setIfInBounds_toArray, List.set_cons_zero, List.set_cons_succ, i64_w, i32_w]
   rfl
 refine pure_ (i := 11) (N := some 35) (v := ?_) (a' := ?_) #[true, true, true, true, true, true, true, true, true, true, true, true, false] rfl rfl (any_of HT_.out (by kernel_rfl)) (fun _ _ _ h => h) (Or.inl ⟨by rfl, ?_⟩) ?_ ?_
 rotate_left
 · intro w'
   go_simp
   with_reducible rfl
 rotate_left
 · simp only [Act.put, List.setIfInBounds_toArray, List.set_cons_zero, List.set_cons_succ, i64_w, i32_w]
   rfl
 refine last_ (i := 12) (N := none) #[true, true, true, true, true, true, true, true, true, true, true, true, true] rfl rfl (one_of HT_.out (by kernel_rfl)) (by decide) (fun K hK => ?_)
 obtain ⟨hq0, hq1⟩ := sqF1 HE.out.h4
 refine skip_ (w1 := ?_) (by rfl) rfl ?_ ?_
 rotate_left
 · go_simp
   rfl
 refine hK.out _ _ ?_
 clear hK K
 refine done_ (done_of HT_.out (by kernel_rfl)) ?_
 have hA2 : Kd.C rawK (w9.setCell ⟨e4, 0, none⟩ (.slice Ao 2 co)) Ao 2 [rw1 e1 e2, rw2] := (Kd.R_reads' (Kd.R_far HO9.out (p := ⟨e4, 0, none⟩) (fun k_ hk => by have h_ : w8.heap.size ≤ k_ := hk; have := ZE.out; show k_ ≠ e4; omega) (.slice Ao 2 co))).2.2
 have hA1 : Kd.C rawK w9 Ao 2 [rw1 e1 e2, rw2] := (Kd.R_reads' HO9.out).2.2
 have hco : 2 ≤ co := (Kd.R_reads' HO9.out).2.1
 have EX := sqM (HE.out.CE hA1 hco rfl hA2 rfl)
 replace HC := sqM (HC.out.far (p := ⟨e4, 0, none⟩) (Or.inr (show wa.heap.size ≤ e4 from (by have := HE.out.l; have := ZB.out; omega))) (.slice Ao 2 co))
 replace HD := sqM (HD.out.far (p := ⟨e4, 0, none⟩) (Or.inr (show wb.heap.size ≤ e4 from (by have := HE.out.l; omega))) (.slice Ao 2 co))
 replace BC := sqM (blk_far BC.out (p := ⟨e4, 0, none⟩) (show gc ≠ e4 from (by have := HE.out.l; have := ZC.out; have := GC.out; have := GD.out; have := GE.out; omega)) (.slice Ao 2 co))
 replace BD := sqM (blk_far BD.out (p := ⟨e4, 0, none⟩) (show gd ≠ e4 from (by have := HE.out.l; have := ZC.out; have := GC.out; have := GD.out; have := GE.out; omega)) (.slice Ao 2 co))
 replace BE := sqM (blk_far BE.out (p := ⟨e4, 0, none⟩) (show ge ≠ e4 from (by have := HE.out.l; have := ZC.out; have := GC.out; have := GD.out; have := GE.out; omega)) (.slice Ao 2 co))
 replace HB := sqM (below_set (j := 0) (v := .slice Ao 2 co) HB.out (Nat.le_trans ZA.out (Nat.le_trans ZB.out (by have := HE.out.l; omega : wb.heap.size ≤ e4))))
 clear HE HO9 hA1 hA2 hco
 generalize w9.setCell ⟨e4, 0, none⟩ (.slice Ao 2 co) = wz at HC HD EX BC BD BE HB ⊢
 obtain ⟨hcz8_0, hcz8_1, hcz8_2, hfz8_0, hfz8_1, hfz8_2⟩ := sqF3 BC.out
 go_wp2_with (first | ((with_reducible refine gate_callee (f := 24) rfl ?_); refine goesL_ (some 38) rfl rfl Try.func24 (by kernel_rfl) rfl #[.agg #[.int .i64 167772161, .int .i64 300, .slice (some ⟨c4, 0, none⟩) 1 1], .int .i64 167772259] rfl sqA ?_; (with_reducible refine (one_Find (plC_len _) HC.out.C A4.out).mono ?_); rintro e wf ⟨rfl, hb⟩; refine ⟨_, rfl, ?_⟩; replace BC := sqM (blk_below BC.out hb); replace BD := sqM (blk_below BD.out hb); replace BE := sqM (blk_below BE.out hb); replace HC := sqM (HC.out.below hb); replace HD := sqM (HD.out.below hb); replace EX := sqM (Kd.C_below EX.out hb); replace HB := sqM (below_step HB.out hb); clear hb; obtain ⟨hcz9_0, hcz9_1, hcz9_2, hfz9_0, hfz9_1, hfz9_2⟩ := sqF3 BC.out) | ((with_reducible refine gate_callee (f := 20) rfl ?_); refine goesL_ (some 44) rfl rfl Try.func20 (by kernel_rfl) rfl #[.agg #[.int .i64 167772161, .int .i64 300, .slice (some ⟨c4, 0, none⟩) 1 1], .int .i64 167772165] rfl sqA ?_; (with_reducible refine (one_Keeper (plC_len _) HC.out.C A5.out).mono ?_); rintro e wg ⟨rfl, hb⟩; refine ⟨_, rfl, ?_⟩; replace BC := sqM (blk_below BC.out hb); replace BD := sqM (blk_below BD.out hb); replace BE := sqM (blk_below BE.out hb); replace HC := sqM (HC.out.below hb); replace HD := sqM (HD.out.below hb); replace EX := sqM (Kd.C_below EX.out hb); replace HB := sqM (below_step HB.out hb); clear hb; obtain ⟨hcz10_0, hcz10_1, hcz10_2, hfz10_0, hfz10_1, hfz10_2⟩ := sqF3 BC.out) | ((with_reducible refine gate_callee (f := 18) rfl ?_); refine goesL_ (some 49) rfl rfl Try.func18 (by kernel_rfl) rfl #[.agg #[.int .i64 167772161, .int .i64 300, .slice (some ⟨c4, 0, none⟩) 1 1], .int .i64 0, .string (⟨#[105, 48, 49]⟩ : ByteArray)] rfl sqA ?_; (with_reducible refine (one_KeptFor (plC_len _) HC.out.C A6.out).mono ?_); rintro e wh ⟨rfl, hb⟩; refine ⟨_, rfl, ?_⟩; replace BC := sqM (blk_below BC.out hb); replace BD := sqM (blk_below BD.out hb); replace BE := sqM (blk_below BE.out hb); replace HC := sqM (HC.out.below hb); replace HD := sqM (HD.out.below hb); replace EX := sqM (Kd.C_below EX.out hb); replace HB := sqM (below_step HB.out hb); clear hb; obtain ⟨hcz11_0, hcz11_1, hcz11_2, hfz11_0, hfz11_1, hfz11_2⟩ := sqF3 BC.out) | ((with_reducible refine gate_callee (f := 16) rfl ?_); refine goesL_ (some 53) rfl rfl Try.func16 (by kernel_rfl) rfl #[.agg #[.int .i64 167772161, .int .i64 300, .slice (some ⟨c4, 0, none⟩) 1 1]] rfl sqA ?_; (with_reducible refine (one_Check (plC_len _) HC.out.C A7.out).mono ?_); rintro e wi ⟨rfl, hb⟩; refine ⟨_, rfl, ?_⟩; replace BC := sqM (blk_below BC.out hb); replace BD := sqM (blk_below BD.out hb); replace BE := sqM (blk_below BE.out hb); replace HC := sqM (HC.out.below hb); replace HD := sqM (HD.out.below hb); replace EX := sqM (Kd.C_below EX.out hb); replace HB := sqM (below_step HB.out hb); clear hb; obtain ⟨hcz12_0, hcz12_1, hcz12_2, hfz12_0, hfz12_1, hfz12_2⟩ := sqF3 BD.out) | (go_at_call 16; (with_reducible refine (one_Check (plC_len _) HD.out.C A9.out).mono ?_); rintro e wj ⟨rfl, hb⟩; replace BC := sqM (blk_below BC.out hb); replace BD := sqM (blk_below BD.out hb); replace BE := sqM (blk_below BE.out hb); replace HC := sqM (HC.out.below hb); replace HD := sqM (HD.out.below hb); replace EX := sqM (Kd.C_below EX.out hb); replace HB := sqM (below_step HB.out hb); clear hb; obtain ⟨hcz13_0, hcz13_1, hcz13_2, hfz13_0, hfz13_1, hfz13_2⟩ := sqF3 BE.out) | (go_at_call 16; (with_reducible refine (one_Check plE_len EX.out A11.out).mono ?_); rintro e wk ⟨rfl, hb⟩; replace BC := sqM (blk_below BC.out hb); replace BD := sqM (blk_below BD.out hb); replace BE := sqM (blk_below BE.out hb); replace HC := sqM (HC.out.below hb); replace HD := sqM (HD.out.below hb); replace EX := sqM (Kd.C_below EX.out hb); replace HB := sqM (below_step HB.out hb); clear hb; obtain ⟨hcz14_0, hcz14_1, hcz14_2, hfz14_0, hfz14_1, hfz14_2⟩ := sqF3 BC.out) | (go_at_call 22; (with_reducible refine (one_InPool (plC_len _) HC.out.C A20.out).mono ?_); rintro e wl ⟨rfl, hb⟩; replace BC := sqM (blk_below BC.out hb); replace BD := sqM (blk_below BD.out hb); replace BE := sqM (blk_below BE.out hb); replace HC := sqM (HC.out.below hb); replace HD := sqM (HD.out.below hb); replace EX := sqM (Kd.C_below EX.out hb); replace HB := sqM (below_step HB.out hb); clear hb; obtain ⟨hcz15_0, hcz15_1, hcz15_2, hfz15_0, hfz15_1, hfz15_2⟩ := sqF3 BC.out) | (go_at_call 22; (with_reducible refine (one_InPool (plC_len _) HC.out.C A22.out).mono ?_); rintro e wm ⟨rfl, hb⟩; replace BC := sqM (blk_below BC.out hb); replace BD := sqM (blk_below BD.out hb); replace BE := sqM (blk_below BE.out hb); replace HC := sqM (HC.out.below hb); replace HD := sqM (HD.out.below hb); replace EX := sqM (Kd.C_below EX.out hb); replace HB := sqM (below_step HB.out hb); clear hb; skip))
 go_ret
 exact ⟨sqE, HB.out⟩

/-! ### boarderref01_Right: function 70 -/
def boarderref01_Right.f (a0 : Int) : Option (Bool) := if a0 ≥ 0 then (some (decide (a0 < 4294967296))) else (some false)
set_option maxHeartbeats 8000000 in
set_option maxRecDepth 100000 in
theorem boarderref01_Right.calls (a0 : Int) (r : Bool) (w : World) (h : boarderref01_Right.f a0 = some r) :
    Calls Try.prog 70 #[.int .i64 a0] w fun e w' => e = .returned (.bool r) ∧ Drawn0 w w' := by
 have H : (if a0 ≥ 0 then (some (decide (a0 < 4294967296))) else (some false)) = some r := h
 clear h
 by_cases c2 : a0 ≥ 0
 · rw [if_pos c2] at H
   have c2b0 : decide (0 ≤ a0) = true := decide_eq_true c2
   clear c2
   obtain rfl := Option.some.inj H
   go_enter Try.func70, Try.ntmps70
   go_wp2
   go_ret
   exact ⟨sqI, sqD⟩
 rw [if_neg c2] at H
 have c2b0 : decide (0 ≤ a0) = false := decide_eq_false c2
 clear c2
 obtain rfl := Option.some.inj H
 go_enter Try.func70, Try.ntmps70
 go_wp2
 go_ret
 exact ⟨sqI, sqD⟩

/-! ### boarderref07_Right: function 63 -/
def boarderref07_Right.f (a0 : ByteArray) : Option (Bool) := if (a0.size : Int) < 3 then (some false) else (if 0 < (a0.size : Int) then (if (bt a0 0) = 105 then (if (a0.size : Int) ≤ 256 then (some true) else (if (bt a0 0) = 104 then (some (decide ((a0.size : Int) ≤ 18))) else (some false))) else (if (bt a0 0) = 104 then (some (decide ((a0.size : Int) ≤ 18))) else (some false))) else (none))
set_option maxHeartbeats 8000000 in
set_option maxRecDepth 100000 in
theorem boarderref07_Right.calls (a0 : ByteArray) (r : Bool) (w : World) (h : boarderref07_Right.f a0 = some r) :
    Calls Try.prog 63 #[.string a0] w fun e w' => e = .returned (.bool r) ∧ Drawn0 w w' := by
 have H : (if (a0.size : Int) < 3 then (some false) else (if 0 < (a0.size : Int) then (if (bt a0 0) = 105 then (if (a0.size : Int) ≤ 256 then (some true) else (if (bt a0 0) = 104 then (some (decide ((a0.size : Int) ≤ 18))) else (some false))) else (if (bt a0 0) = 104 then (some (decide ((a0.size : Int) ≤ 18))) else (some false))) else (none))) = some r := h
 clear h
 by_cases c2 : (a0.size : Int) < 3
 · rw [if_pos c2] at H
   have c2b0 : decide ((a0.size : Int) < 3) = true := decide_eq_true c2
   have c2b1 : decide (a0.size < 3) = true := decide_eq_true (by omega)
   clear c2
   obtain rfl := Option.some.inj H
   go_enter Try.func63, Try.ntmps63
   go_wp2
   go_ret
   exact ⟨sqI, sqD⟩
 rw [if_neg c2] at H
 have c2b0 : decide ((a0.size : Int) < 3) = false := decide_eq_false c2
 have c2b1 : decide (a0.size < 3) = false := decide_eq_false (by omega)
 clear c2
 by_cases c3 : 0 < (a0.size : Int)
 rotate_left
 · rw [if_neg c3] at H
   exact absurd H (by simp)
 rw [if_pos c3] at H
 have c3b0 : decide (0 < (a0.size : Int)) = true := decide_eq_true c3
 have c3b1 : decide (0 < a0.size) = true := decide_eq_true (by omega)
 clear c3
 by_cases c5 : (bt a0 0) = 105
 rotate_left
 · rw [if_neg c5] at H
   have c5b0 : ((bt a0 0) == 105) = false := beq_eq_false_iff_ne.mpr c5
   have c5b1 : ((bt a0 0) != 105) = true := bne_iff_ne.mpr c5
   by_cases c10 : (bt a0 0) = 104
   rotate_left
   · rw [if_neg c10] at H
     have c10b0 : ((bt a0 0) == 104) = false := beq_eq_false_iff_ne.mpr c10
     have c10b1 : ((bt a0 0) != 104) = true := bne_iff_ne.mpr c10
     obtain rfl := Option.some.inj H
     have p4 : 0 ≤ (0 : Int) := (by omega)
     have q4 : 0 < a0.size := (by have : (0 : Int) < (a0.size : Int) := of_decide_eq_true sqH; omega)
     have hx4 : ∀ h : 0 < a0.size, ((a0[0]'h).toNat : Int) = bt a0 0 := bt_at a0 0
     clear p4
     have qi4 : (0 < (a0.size : Int)) = True := eq_true (of_decide_eq_true sqH)
     replace q4 := eq_true q4
     have p9 : 0 ≤ (0 : Int) := (by omega)
     have q9 : 0 < a0.size := (by have : (0 : Int) < (a0.size : Int) := of_decide_eq_true sqH; omega)
     have hx9 : ∀ h : 0 < a0.size, ((a0[0]'h).toNat : Int) = bt a0 0 := bt_at a0 0
     clear p9
     have qi9 : (0 < (a0.size : Int)) = True := eq_true (of_decide_eq_true sqH)
     replace q9 := eq_true q9
     go_enter Try.func63, Try.ntmps63
     go_wp2
     go_ret
     exact ⟨sqI, sqD⟩
   rw [if_pos c10] at H
   have c10b0 : ((bt a0 0) == 104) = true := beq_iff_eq.mpr c10
   have c10b1 : ((bt a0 0) != 104) = false := bne_eq_false_iff_eq.mpr c10
   clear c10
   obtain rfl := Option.some.inj H
   have p4 : 0 ≤ (0 : Int) := (by omega)
   have q4 : 0 < a0.size := (by have : (0 : Int) < (a0.size : Int) := of_decide_eq_true sqH; omega)
   have hx4 : ∀ h : 0 < a0.size, ((a0[0]'h).toNat : Int) = bt a0 0 := bt_at a0 0
   clear p4
   have qi4 : (0 < (a0.size : Int)) = True := eq_true (of_decide_eq_true sqH)
   replace q4 := eq_true q4
   have p9 : 0 ≤ (0 : Int) := (by omega)
   have q9 : 0 < a0.size := (by have : (0 : Int) < (a0.size : Int) := of_decide_eq_true sqH; omega)
   have hx9 : ∀ h : 0 < a0.size, ((a0[0]'h).toNat : Int) = bt a0 0 := bt_at a0 0
   clear p9
   have qi9 : (0 < (a0.size : Int)) = True := eq_true (of_decide_eq_true sqH)
   replace q9 := eq_true q9
   go_enter Try.func63, Try.ntmps63
   go_wp2
   go_ret
   exact ⟨sqI, sqD⟩
 rw [if_pos c5] at H
 have c5b0 : ((bt a0 0) == 105) = true := beq_iff_eq.mpr c5
 have c5b1 : ((bt a0 0) != 105) = false := bne_eq_false_iff_eq.mpr c5
 clear c5
 by_cases c6 : (a0.size : Int) ≤ 256
 · rw [if_pos c6] at H
   have c6b0 : decide ((a0.size : Int) ≤ 256) = true := decide_eq_true c6
   have c6b1 : decide (a0.size ≤ 256) = true := decide_eq_true (by omega)
   clear c6
   obtain rfl := Option.some.inj H
   have p4 : 0 ≤ (0 : Int) := (by omega)
   have q4 : 0 < a0.size := (by have : (0 : Int) < (a0.size : Int) := of_decide_eq_true sqH; omega)
   have hx4 : ∀ h : 0 < a0.size, ((a0[0]'h).toNat : Int) = bt a0 0 := bt_at a0 0
   clear p4
   have qi4 : (0 < (a0.size : Int)) = True := eq_true (of_decide_eq_true sqH)
   replace q4 := eq_true q4
   go_enter Try.func63, Try.ntmps63
   go_wp2
   go_ret
   exact ⟨sqI, sqD⟩
 rw [if_neg c6] at H
 have c6b0 : decide ((a0.size : Int) ≤ 256) = false := decide_eq_false c6
 have c6b1 : decide (a0.size ≤ 256) = false := decide_eq_false (by omega)
 clear c6
 by_cases c8 : (bt a0 0) = 104
 rotate_left
 · rw [if_neg c8] at H
   have c8b0 : ((bt a0 0) == 104) = false := beq_eq_false_iff_ne.mpr c8
   have c8b1 : ((bt a0 0) != 104) = true := bne_iff_ne.mpr c8
   obtain rfl := Option.some.inj H
   have p4 : 0 ≤ (0 : Int) := (by omega)
   have q4 : 0 < a0.size := (by have : (0 : Int) < (a0.size : Int) := of_decide_eq_true sqH; omega)
   have hx4 : ∀ h : 0 < a0.size, ((a0[0]'h).toNat : Int) = bt a0 0 := bt_at a0 0
   clear p4
   have qi4 : (0 < (a0.size : Int)) = True := eq_true (of_decide_eq_true sqH)
   replace q4 := eq_true q4
   have p7 : 0 ≤ (0 : Int) := (by omega)
   have q7 : 0 < a0.size := (by have : (0 : Int) < (a0.size : Int) := of_decide_eq_true sqH; omega)
   have hx7 : ∀ h : 0 < a0.size, ((a0[0]'h).toNat : Int) = bt a0 0 := bt_at a0 0
   clear p7
   have qi7 : (0 < (a0.size : Int)) = True := eq_true (of_decide_eq_true sqH)
   replace q7 := eq_true q7
   go_enter Try.func63, Try.ntmps63
   go_wp2
   go_ret
   exact ⟨sqI, sqD⟩
 rw [if_pos c8] at H
 have c8b0 : ((bt a0 0) == 104) = true := beq_iff_eq.mpr c8
 have c8b1 : ((bt a0 0) != 104) = false := bne_eq_false_iff_eq.mpr c8
 clear c8
 obtain rfl := Option.some.inj H
 have p4 : 0 ≤ (0 : Int) := (by omega)
 have q4 : 0 < a0.size := (by have : (0 : Int) < (a0.size : Int) := of_decide_eq_true sqH; omega)
 have hx4 : ∀ h : 0 < a0.size, ((a0[0]'h).toNat : Int) = bt a0 0 := bt_at a0 0
 clear p4
 have qi4 : (0 < (a0.size : Int)) = True := eq_true (of_decide_eq_true sqH)
 replace q4 := eq_true q4
 have p7 : 0 ≤ (0 : Int) := (by omega)
 have q7 : 0 < a0.size := (by have : (0 : Int) < (a0.size : Int) := of_decide_eq_true sqH; omega)
 have hx7 : ∀ h : 0 < a0.size, ((a0[0]'h).toNat : Int) = bt a0 0 := bt_at a0 0
 clear p7
 have qi7 : (0 < (a0.size : Int)) = True := eq_true (of_decide_eq_true sqH)
 replace q7 := eq_true q7
 go_enter Try.func63, Try.ntmps63
 go_wp2
 go_ret
 exact ⟨sqI, sqD⟩

/-! ### boarderref01_Size: function 78 -/
def boarderref01_Size.l0 : Nat → Int → Int → Option (Int)
  | 0, _, _ => none
  | k + 1, x3, x4 => if x4 < 32 then (boarderref01_Size.l0 k (wrap64 (x3 * 2)) (wrap64 (x4 + 1))) else (some x3)
def boarderref01_Size.f (k : Nat) (a0 : Int) : Option (Int) := boarderref01_Size.l0 k 1 a0
set_option maxHeartbeats 8000000 in
set_option maxRecDepth 100000 in
theorem boarderref01_Size.calls (k : Nat) (a0 : Int) (r : Int) (w : World) (h : boarderref01_Size.f k a0 = some r) :
    Calls Try.prog 78 #[.int .i64 a0] w fun e w' => e = .returned (.int .i64 r) ∧ Drawn0 w w' := by
 have H : (boarderref01_Size.l0 k 1 a0) = some r := h
 clear h
 have H' := Aside0.mk H
 clear H
 go_enter Try.func78, Try.ntmps78
 go_wp2
 go_loopg [3, 4] k (fun kq v3 v4 w' => ∃ (x3_1 : Int) (x4_1 : Int), v3 = .int .i64 x3_1 ∧ v4 = .int .i64 x4_1 ∧ Aside0 (boarderref01_Size.l0 kq x3_1 x4_1 = some r) ∧ Aside0 (kq ≤ k) ∧ Drawn0 w w')
 case atStart => exact ⟨(1), (a0), sqI, sqI, H', ⟨Nat.le_refl _⟩, sqD⟩
 clear H'
 obtain ⟨x3_1, x4_1, rfl, rfl, HA, HK1, ⟨m1, rfl⟩⟩ := hrel
 cases gk with
 | zero => exact absurd HA.out (by simp [boarderref01_Size.l0])
 | succ k1 => ?_
 have H := HA.out
 clear HA
 simp only [boarderref01_Size.l0] at H
 by_cases c2 : x4_1 < 32
 rotate_left
 · rw [if_neg c2] at H
   have c2b0 : decide (x4_1 < 32) = false := decide_eq_false c2
   clear c2
   obtain rfl := Option.some.inj H
   go_wp2
   go_ret
   exact ⟨sqI, sqD⟩
 rw [if_pos c2] at H
 have c2b0 : decide (x4_1 < 32) = true := decide_eq_true c2
 clear c2
 have H' := Aside0.mk H
 clear H
 go_wp2
 go_roundg k1
 case measure => have := HK1.out; omega
 case rel => exact ⟨(wrap64 (x3_1 * 2)), (wrap64 (x4_1 + 1)), sqI, sqI, H', ⟨by have := HK1.out; omega⟩, sqD⟩

/-! ### boarderref01_Fair: function 77 -/
def boarderref01_Fair.f (k : Nat) (a0 : Int) (a1 : Int) : Option (Bool) := if a1 ≥ 0 then (if a1 ≤ 32 then ((boarderref01_Right.f a0).bind fun t246 => (if t246 = true then ((boarderref01_Size.f k a1).bind fun t247 => (if t247 = 0 then (none) else (some ((Int.tmod a0 t247) == 0)))) else (some false))) else (some false)) else (some false)
set_option maxHeartbeats 8000000 in
set_option maxRecDepth 100000 in
theorem boarderref01_Fair.calls (k : Nat) (a0 : Int) (a1 : Int) (r : Bool) (w : World) (h : boarderref01_Fair.f k a0 a1 = some r) :
    Calls Try.prog 77 #[.int .i64 a0, .int .i64 a1] w fun e w' => e = .returned (.bool r) ∧ Drawn0 w w' := by
 have H : (if a1 ≥ 0 then (if a1 ≤ 32 then ((boarderref01_Right.f a0).bind fun t246 => (if t246 = true then ((boarderref01_Size.f k a1).bind fun t247 => (if t247 = 0 then (none) else (some ((Int.tmod a0 t247) == 0)))) else (some false))) else (some false)) else (some false)) = some r := h
 clear h
 by_cases c3 : a1 ≥ 0
 rotate_left
 · rw [if_neg c3] at H
   have c3b0 : decide (0 ≤ a1) = false := decide_eq_false c3
   clear c3
   obtain rfl := Option.some.inj H
   go_enter Try.func77, Try.ntmps77
   go_wp2
   go_ret
   exact ⟨sqI, sqD⟩
 rw [if_pos c3] at H
 have c3b0 : decide (0 ≤ a1) = true := decide_eq_true c3
 clear c3
 by_cases c4 : a1 ≤ 32
 rotate_left
 · rw [if_neg c4] at H
   have c4b0 : decide (a1 ≤ 32) = false := decide_eq_false c4
   clear c4
   obtain rfl := Option.some.inj H
   go_enter Try.func77, Try.ntmps77
   go_wp2
   go_ret
   exact ⟨sqI, sqD⟩
 rw [if_pos c4] at H
 have c4b0 : decide (a1 ≤ 32) = true := decide_eq_true c4
 clear c4
 replace H := Option.bind_eq_some_iff.mp H
 obtain ⟨t246, A50, H⟩ := H
 replace H : (if t246 = true then ((boarderref01_Size.f k a1).bind fun t247 => (if t247 = 0 then (none) else (some ((Int.tmod a0 t247) == 0)))) else (some false)) = some r := H
 have A5 := Aside0.mk A50
 clear A50
 by_cases c6 : t246 = true
 rotate_left
 · replace c6 := Bool.eq_false_iff.mpr c6
   subst c6
   have H1 : (some false) = some r := by rw [if_neg (show ¬ (false = true) by decide)] at H; exact H
   clear H
   have H := H1
   clear H1
   obtain rfl := Option.some.inj H
   go_enter Try.func77, Try.ntmps77
   go_wp2_with (first | (go_at_call 70; (with_reducible refine (boarderref01_Right.calls _ _ _ A5.out).mono ?_); rintro e w' ⟨rfl, ⟨nd, rfl⟩⟩))
   go_ret
   exact ⟨sqI, sqD⟩
 subst c6
 have H1 : ((boarderref01_Size.f k a1).bind fun t247 => (if t247 = 0 then (none) else (some ((Int.tmod a0 t247) == 0)))) = some r := by rw [if_pos rfl] at H; exact H
 clear H
 have H := H1
 clear H1
 replace H := Option.bind_eq_some_iff.mp H
 obtain ⟨t247, A70, H⟩ := H
 replace H : (if t247 = 0 then (none) else (some ((Int.tmod a0 t247) == 0))) = some r := H
 have A7 := Aside0.mk A70
 clear A70
 by_cases c8 : t247 = 0
 · rw [if_pos c8] at H
   exact absurd H (by simp)
 rw [if_neg c8] at H
 have c8b0 : (t247 == 0) = false := beq_eq_false_iff_ne.mpr c8
 have c8b1 : (t247 != 0) = true := bne_iff_ne.mpr c8
 obtain rfl := Option.some.inj H
 go_enter Try.func77, Try.ntmps77
 go_wp2_with (first | (go_at_call 70; (with_reducible refine (boarderref01_Right.calls _ _ _ A5.out).mono ?_); rintro e w' ⟨rfl, ⟨nd, rfl⟩⟩) | (go_at_call 78; (with_reducible refine (boarderref01_Size.calls _ _ _ _ A7.out).mono ?_); rintro e w' ⟨rfl, ⟨nd, rfl⟩⟩))
 go_ret
 exact ⟨sqI, sqD⟩

end Go.Proofs.Ytdcabfonjmeajaa.PConf
