/- Lean functions for Go functions of the given program, and proofs that the code computes them, each under its theorem's own conditions. Written by a program of this session. -/
import Derived.Test.YtdcabfonjmeajaaPConfx0
import Derived.Test.YtdcabfonjmeajaaPConfx1
import Derived.Test.YtdcabfonjmeajaaPConfx3
import Derived.Test.YtdcabfonjmeajaaPConfx4
import Derived.Test.YtdcabfonjmeajaaPConfx5
namespace Go.Proofs.Ytdcabfonjmeajaa.PConf
open Go.RowKit Go.Proofs.YtdcabfonjmeajaaW.PrintWords Go.Proofs.YtdcabfonjmeajaaW.PrintLast Go.Proofs.YtdcabfonjmeajaaW.PrintMore
attribute [local go_sem] max2_int min2_int max_two min_two max_three min_three max_four min_four   -- for this text's walks alone
set_option linter.unusedVariables false
set_option linter.unusedSimpArgs false

/-! ### conf_unlike: function 42 -/
mutual
def conf_unlike.l0 : Nat → List (S66) → List (S66) → Int → Int → Option (Bool)
  | 0, _, _, _, _ => none
  | k + 1, x3, x10, x11, x12 => if x12 < x11 then (if 0 ≤ x12 then (if x12 < (x10.length : Int) then (conf_unlike.l1 k x3 x12 x10 x11 x12 x3 (x3.length : Int) 0 ((rd_T66 x10 x12).f0) ((rd_T66 x10 x12).f1) ((rd_T66 x10 x12).f2.f0) ((rd_T66 x10 x12).f2.f1) ((rd_T66 x10 x12).f2.f2) ((rd_T66 x10 x12).f2.f3) ((rd_T66 x10 x12).f2.f4) ((rd_T66 x10 x12).f2.f5) ((rd_T66 x10 x12).f2.f6)) else (none)) else (none)) else (some true)
def conf_unlike.l1 : Nat → List (S66) → Int → List (S66) → Int → Int → List (S66) → Int → Int → Int → Int → Int → Int → List (S62) → List (S59) → Int → Int → Int → Option (Bool)
  | 0, _, _, _, _, _, _, _, _, _, _, _, _, _, _, _, _, _ => none
  | k + 1, x3, x4, x10, x11, x12, x17, x18, x19, x188000, x188001, x188002, x188003, x188004, x188005, x188006, x188007, x188008 => if x19 < x18 then (if 0 ≤ x19 then (if x19 < (x17.length : Int) then ((conf_once.f k x188000 x188001 x188002 x188003 x188004 x188005 x188006 x188007 x188008 ((rd_T66 x17 x19).f0) ((rd_T66 x17 x19).f1) ((rd_T66 x17 x19).f2.f0) ((rd_T66 x17 x19).f2.f1) ((rd_T66 x17 x19).f2.f2) ((rd_T66 x17 x19).f2.f3) ((rd_T66 x17 x19).f2.f4) ((rd_T66 x17 x19).f2.f5) ((rd_T66 x17 x19).f2.f6) (x4 == x19)).bind fun t190 => (if t190 = true then (conf_unlike.l1 k x3 x4 x10 x11 x12 x17 x18 (wrap64 (x19 + 1)) x188000 x188001 x188002 x188003 x188004 x188005 x188006 x188007 x188008) else (some false))) else (none)) else (none)) else (conf_unlike.l0 k x3 x10 x11 (wrap64 (x12 + 1)))
end
def conf_unlike.f (k : Nat) (a0_0 : Int) (a0_1 : Int) (l0_2 : List (S41)) : Option (Bool) := (conf_spots.f k a0_0 a0_1 l0_2).bind fun t183 => (conf_unlike.l0 k t183 t183 (t183.length : Int) 0)
theorem conf_unlike.mono_l : ∀ k, (∀ y0 y1 y2 y3, LeO (conf_unlike.l0 k y0 y1 y2 y3) (conf_unlike.l0 (k + 1) y0 y1 y2 y3)) ∧ (∀ y0 y1 y2 y3 y4 y5 y6 y7 y8 y9 y10 y11 y12 y13 y14 y15 y16, LeO (conf_unlike.l1 k y0 y1 y2 y3 y4 y5 y6 y7 y8 y9 y10 y11 y12 y13 y14 y15 y16) (conf_unlike.l1 (k + 1) y0 y1 y2 y3 y4 y5 y6 y7 y8 y9 y10 y11 y12 y13 y14 y15 y16))
  | 0 => ⟨fun _ _ _ _ r h => by simp [conf_unlike.l0] at h, fun _ _ _ _ _ _ _ _ _ _ _ _ _ _ _ _ _ r h => by simp [conf_unlike.l1] at h⟩
  | k + 1 => by
    obtain ⟨ih0, ih1⟩ := conf_unlike.mono_l k
    refine ⟨?_, ?_⟩
    · intro y0 y1 y2 y3
      unfold conf_unlike.l0
      repeat' first
      | (with_reducible exact ih0 _ _ _ _)
      | (with_reducible exact ih1 _ _ _ _ _ _ _ _ _ _ _ _ _ _ _ _ _)
      | (with_reducible exact conf_once.mono _ _ _ _ _ _ _ _ _ _ _ _ _ _ _ _ _ _ _ _)
      | (with_reducible exact conf_spots.mono _ _ _ _)
      | (with_reducible exact LeO.refl _)
      | (with_reducible exact LeO.none _)
      | (with_reducible refine LeO.ite ?_ ?_)
      | (with_reducible refine LeO.bind ?_ (fun _ => ?_))
    · intro y0 y1 y2 y3 y4 y5 y6 y7 y8 y9 y10 y11 y12 y13 y14 y15 y16
      unfold conf_unlike.l1
      repeat' first
      | (with_reducible exact ih0 _ _ _ _)
      | (with_reducible exact ih1 _ _ _ _ _ _ _ _ _ _ _ _ _ _ _ _ _)
      | (with_reducible exact conf_once.mono _ _ _ _ _ _ _ _ _ _ _ _ _ _ _ _ _ _ _ _)
      | (with_reducible exact conf_spots.mono _ _ _ _)
      | (with_reducible exact LeO.refl _)
      | (with_reducible exact LeO.none _)
      | (with_reducible refine LeO.ite ?_ ?_)
      | (with_reducible refine LeO.bind ?_ (fun _ => ?_))
theorem conf_unlike.mono : ∀ a0 a1 a2 k, LeO (conf_unlike.f k a0 a1 a2) (conf_unlike.f (k + 1) a0 a1 a2) := by
 intro a0 a1 a2 k
 obtain ⟨ih0, ih1⟩ := conf_unlike.mono_l k
 unfold conf_unlike.f
 repeat' first
  | (with_reducible exact ih0 _ _ _ _)
  | (with_reducible exact ih1 _ _ _ _ _ _ _ _ _ _ _ _ _ _ _ _ _)
  | (with_reducible exact conf_once.mono _ _ _ _ _ _ _ _ _ _ _ _ _ _ _ _ _ _ _ _)
  | (with_reducible exact conf_spots.mono _ _ _ _)
  | (with_reducible exact LeO.refl _)
  | (with_reducible exact LeO.none _)
  | (with_reducible refine LeO.ite ?_ ?_)
  | (with_reducible refine LeO.bind ?_ (fun _ => ?_))
set_option maxHeartbeats 8000000 in
set_option maxRecDepth 100000 in
theorem conf_unlike.calls (k : Nat) (a0_0 : Int) (a0_1 : Int) (A0_2 : Option Addr) (c0_2 : Nat) (l0_2 : List (S41)) (r : Bool) (w : World) (hr0_2 : Kd.C k41 w A0_2 l0_2.length l0_2) (hc0_2 : l0_2.length ≤ c0_2) (h : conf_unlike.f k a0_0 a0_1 l0_2 = some r) :
    Calls Try.prog 42 #[.agg #[.int .i64 a0_0, .int .i64 a0_1, .slice A0_2 l0_2.length c0_2]] w fun e w' => e = .returned (.bool r) ∧ Below w.heap.size w w' := by
 have hu24 := Try.underlying24
 have hu66 := Try.underlying66
 have HR0_2 := Aside0.mk hr0_2
 have HC0_2 := Aside0.mk hc0_2
 clear hr0_2 hc0_2
 have HB := Aside0.mk (Below.refl w.heap.size w)
 have H : ((conf_spots.f k a0_0 a0_1 l0_2).bind fun t183 => (conf_unlike.l0 k t183 t183 (t183.length : Int) 0)) = some r := h
 clear h
 replace H := Option.bind_eq_some_iff.mp H
 obtain ⟨t183, A20, H⟩ := H
 replace H : (conf_unlike.l0 k t183 t183 (t183.length : Int) 0) = some r := H
 have A2 := Aside0.mk A20
 clear A20
 have H' := Aside0.mk H
 clear H
 go_enter Try.func42, Try.ntmps42
 go_wp2_with (first | ((with_reducible refine gate_dst (N := 1) rfl ?_); refine box_event rfl (N := 1) rfl (cs := #[.int .i64 a0_0, .int .i64 a0_1, .slice A0_2 l0_2.length c0_2]) (t := 24) sqs ?_; intro gb182 hg w3 hbox hb; have BK182 := sqM (hbox); have GW182 := sqM (sqZ hg (sqB HB.out)); have GE182 := sqM (sqZ hg (sqB HB.out)); replace HB := sqM (below_step (sqB HB.out) hb); clear hb hbox hg; obtain ⟨hcz4_0, hcz4_1, hcz4_2, hfz4_0, hfz4_1, hfz4_2⟩ := sqF3 BK182.out) | ((with_reducible refine gate_callee (f := 66) rfl ?_); refine goesL_ (some 9) rfl rfl Try.func66 (by kernel_rfl) rfl #[.agg #[.int .i64 a0_0, .int .i64 a0_1, .slice A0_2 l0_2.length c0_2]] rfl sqA ?_; (with_reducible refine (conf_spots.calls _ _ _ (fun k_ => k_ < w.heap.size) _ _ _ _ _ ?side1 A2.out).mono ?_); (case side1 => exact Kd.V_mk HC0_2.out (Kd.F_below (Kd.C_F k41_heap HR0_2.out) (sqB1 HB.out GE182.out))); rintro e w5 ⟨v184, rfl, ho0, hb⟩; refine ⟨_, rfl, ?_⟩; have HO185 := sqM (Kd.N_lower (Kd.N_mono (ok' := fun k_ => k_ ≠ gb182) ho0 (fun k_ hk_ => Or.elim hk_ (fun hs_ => fun e_ => Nat.not_le.2 hs_ (by rw [e_]; exact GW182.out)) (fun hn_ => (Kd.freshB (g := gb182) (o := .cells #[.int .i64 a0_0, .int .i64 a0_1, .slice A0_2 l0_2.length c0_2] 24 (0, 0)) (sqK BK182.out) k_ hn_)))) (below_size (sqB1 HB.out GE182.out))); replace BK182 := sqM (blk_below (sqK BK182.out) hb); replace HB := sqM (below_step (sqB1 HB.out GE182.out) hb); (try clear hb); (try clear hb2); (try clear hk); (try clear hi); (try clear ho0); obtain ⟨Ao6, co6, eo6⟩ := Kd.N_slice HO185.out; subst eo6))
 go_loopg [12] k (fun kq v12 w' => ∃ (x12_1 : Int), v12 = .int .i64 x12_1 ∧ Aside0 (conf_unlike.l0 kq t183 t183 (t183.length : Int) x12_1 = some r) ∧ Aside0 (kq ≤ k) ∧ Aside0 (Kd.N k66 66 w' w.heap.size (fun k_ => k_ ≠ gb182) (.slice Ao6 t183.length co6) t183) ∧ Aside0 (Kd.N k66 66 w' w.heap.size (fun k_ => k_ ≠ gb182) (.slice Ao6 t183.length co6) t183) ∧ Aside0 (w'.heap[gb182]? = some (.cells #[.int .i64 a0_0, .int .i64 a0_1, (.slice A0_2 l0_2.length c0_2)] 24 (0, 0))) ∧ Aside0 (Below w.heap.size w w'))
 case atStart => exact ⟨(0), sqI, H', ⟨Nat.le_refl _⟩, ⟨sqN HO185.out⟩, ⟨sqN HO185.out⟩, ⟨sqK BK182.out⟩, ⟨sqB1 HB.out GE182.out⟩⟩
 clear H'
 try clear p2
 try clear c4
 try clear c6
 try clear hcz4_0 hcz4_1 hcz4_2 hfz4_0 hfz4_1 hfz4_2
 obtain ⟨x12_1, rfl, HA, HK1, HO_3, HO_10, BK182, HB⟩ := hrel
 cases gk with
 | zero => exact absurd HA.out (by simp [conf_unlike.l0])
 | succ k1 => ?_
 have H := HA.out
 clear HA
 simp only [conf_unlike.l0] at H
 by_cases c7 : x12_1 < (t183.length : Int)
 rotate_left
 · rw [if_neg c7] at H
   have c7b0 : decide (x12_1 < (t183.length : Int)) = false := decide_eq_false c7
   clear c7
   obtain rfl := Option.some.inj H
   go_wp2
   go_ret
   exact ⟨sqE, sqB1 HB.out GE182.out⟩
 rw [if_pos c7] at H
 have c7b0 : decide (x12_1 < (t183.length : Int)) = true := decide_eq_true c7
 clear c7
 by_cases c8 : 0 ≤ x12_1
 rotate_left
 · rw [if_neg c8] at H
   exact absurd H (by simp)
 rw [if_pos c8] at H
 have c8b0 : decide (0 ≤ x12_1) = true := decide_eq_true c8
 clear c8
 by_cases c9 : x12_1 < (t183.length : Int)
 rotate_left
 · rw [if_neg c9] at H
   exact absurd H (by simp)
 rw [if_pos c9] at H
 have c9b0 : decide (x12_1 < (t183.length : Int)) = true := decide_eq_true c9
 clear c9
 have H' := Aside0.mk H
 clear H
 have p186 : 0 ≤ (x12_1 : Int) := of_decide_eq_true sqH
 have q186 : x12_1 < (t183.length : Int) := of_decide_eq_true sqH
 obtain ⟨ad186, A186_4, c186_4, A186_5, c186_5, e186, hx186_0, hx186_1, hx186_2, hx186_3, hx186_4, hx186_5, hx186_6, hx186_7, hx186_8, hl186_4, hi186_4, hl186_5, hi186_5⟩ := at_T66 (Kd.N_reads' HO_10.out).2.2 x12_1 p186 q186
 cases e186
 obtain ⟨ce186, hce186, hMe186, hcc186⟩ := Kd.N_get HO_10.out z66 x12_1 p186 (by first | exact q186 | exact of_decide_eq_true sqH | (have e_ := (Kd.N_reads' HO_10.out).1; omega))
 obtain ⟨ua186_4, uc186_4, ua186_5, uc186_5, rfl, ul186_4, ge186_4, ul186_5, ge186_5⟩ := k66_openF hMe186
 have hv186_4 := hcc186 4 _ rfl
 rw [add_field _ _ 4 (by omega)] at hv186_4
 replace hv186_4 := Option.some.inj (hv186_4.symm.trans hx186_4)
 injection hv186_4 with hva_ hvn_ hvc_
 rw [hva_] at ge186_4
 rw [hvc_] at ul186_4
 have HL186_4 := sqM (show Kd.V k62 62 _ w.heap.size _ _ ((rd_T66 t183 x12_1).f2.f2) from Kd.V_mk ul186_4 ge186_4)
 clear hva_ hvn_ hvc_ ge186_4 ul186_4
 have hv186_5 := hcc186 5 _ rfl
 rw [add_field _ _ 5 (by omega)] at hv186_5
 replace hv186_5 := Option.some.inj (hv186_5.symm.trans hx186_5)
 injection hv186_5 with hva_ hvn_ hvc_
 rw [hva_] at ge186_5
 rw [hvc_] at ul186_5
 have HL186_5 := sqM (show Kd.V k59 59 _ w.heap.size _ _ ((rd_T66 t183 x12_1).f2.f3) from Kd.V_mk ul186_5 ge186_5)
 clear hva_ hvn_ hvc_ ge186_5 ul186_5
 clear hcc186 hce186
 have HR186_4 := Aside0.mk hi186_4
 have HC186_4 := Aside0.mk hl186_4
 clear hi186_4 hl186_4
 have HR186_5 := Aside0.mk hi186_5
 have HC186_5 := Aside0.mk hl186_5
 clear hi186_5 hl186_5
 replace p186 := eq_true p186
 replace q186 := eq_true q186
 go_wp2_with (first | ((with_reducible refine gate_dst (N := 5) rfl ?_); refine box_event rfl (N := 5) rfl (cs := #[.int .i64 0, .int .i64 0, .int .i64 0, .int .i64 0, .slice none 0 0, .slice none 0 0, .int .i64 0, .int .i64 0, .int .i64 0]) (t := 66) sqs ?_; intro gb187 hg w10 hbox hb; have BK187 := sqM (hbox); have GW187 := sqM (sqZ hg (sqB1 HB.out GE182.out)); have GE187 := sqM (sqZ hg (sqB1 HB.out GE182.out)); have NB182_187 := sqM (sqL hg (sqK BK182.out)); have NB187_182 := sqM (sqG hg (sqK BK182.out)); replace HO_3 := sqM (sqNe (sqN HO_3.out) hg hb); replace HO_10 := sqM (sqNe (sqN HO_10.out) hg hb); replace HL186_4 := sqM (sqVe (sqV HL186_4.out) hg hb); replace HL186_5 := sqM (sqVe (sqV HL186_5.out) hg hb); replace BK182 := sqM (blk_below (sqK BK182.out) hb); replace HR186_4 := sqM (Kd.C_below (sqC HR186_4.out) hb); replace HR186_5 := sqM (Kd.C_below (sqC HR186_5.out) hb); replace HB := sqM (below_step (sqB1 HB.out GE182.out) hb); clear hb hbox hg; have hnb11 := NB187_182.out; have hnc11 := NB182_187.out; obtain ⟨hcz12_0, hcz12_1, hcz12_2, hcz12_3, hcz12_4, hcz12_5, hcz12_6, hcz12_7, hcz12_8, hfz12_0, hfz12_1, hfz12_2, hfz12_3, hfz12_4, hfz12_5, hfz12_6, hfz12_7, hfz12_8⟩ := sqF9 BK187.out))
 go_loopg [19] k1 (fun kq v19 w' => ∃ (x19_2 : Int), v19 = .int .i64 x19_2 ∧ Aside0 (conf_unlike.l1 kq t183 x12_1 t183 (t183.length : Int) x12_1 t183 (t183.length : Int) x19_2 ((rd_T66 t183 x12_1).f0) ((rd_T66 t183 x12_1).f1) ((rd_T66 t183 x12_1).f2.f0) ((rd_T66 t183 x12_1).f2.f1) ((rd_T66 t183 x12_1).f2.f2) ((rd_T66 t183 x12_1).f2.f3) ((rd_T66 t183 x12_1).f2.f4) ((rd_T66 t183 x12_1).f2.f5) ((rd_T66 t183 x12_1).f2.f6) = some r) ∧ Aside0 (kq ≤ k1) ∧ Aside0 (Kd.N k66 66 w' w.heap.size (fun k_ => k_ ≠ gb182 ∧ k_ ≠ gb187) (.slice (some ad186) t183.length co6) t183) ∧ Aside0 (Kd.N k66 66 w' w.heap.size (fun k_ => k_ ≠ gb182 ∧ k_ ≠ gb187) (.slice (some ad186) t183.length co6) t183) ∧ Aside0 (Kd.N k66 66 w' w.heap.size (fun k_ => k_ ≠ gb182 ∧ k_ ≠ gb187) (.slice (some ad186) t183.length co6) t183) ∧ Aside0 (Kd.V k62 62 w' w.heap.size (fun k_ => some k_ ≠ ((.slice (some ad186) t183.length co6) : Value).ownBlock ∧ k_ ≠ gb182 ∧ k_ ≠ gb187) (.slice A186_4 ((rd_T66 t183 x12_1).f2.f2).length c186_4) ((rd_T66 t183 x12_1).f2.f2)) ∧ Aside0 (Kd.V k59 59 w' w.heap.size (fun k_ => some k_ ≠ ((.slice (some ad186) t183.length co6) : Value).ownBlock ∧ k_ ≠ gb182 ∧ k_ ≠ gb187) (.slice A186_5 ((rd_T66 t183 x12_1).f2.f3).length c186_5) ((rd_T66 t183 x12_1).f2.f3)) ∧ Aside0 (w'.heap[gb182]? = some (.cells #[.int .i64 a0_0, .int .i64 a0_1, (.slice A0_2 l0_2.length c0_2)] 24 (0, 0))) ∧ Aside0 (w'.heap[gb187]? = some (.cells #[.int .i64 ((rd_T66 t183 x12_1).f0), .int .i64 ((rd_T66 t183 x12_1).f1), .int .i64 ((rd_T66 t183 x12_1).f2.f0), .int .i64 ((rd_T66 t183 x12_1).f2.f1), (.slice A186_4 ((rd_T66 t183 x12_1).f2.f2).length c186_4), (.slice A186_5 ((rd_T66 t183 x12_1).f2.f3).length c186_5), .int .i64 ((rd_T66 t183 x12_1).f2.f4), .int .i64 ((rd_T66 t183 x12_1).f2.f5), .int .i64 ((rd_T66 t183 x12_1).f2.f6)] 66 (0, 0))) ∧ Aside0 (Below w.heap.size w w'))
 case atStart => exact ⟨(0), sqI, H', ⟨Nat.le_refl _⟩, ⟨by refine sqN ?_; exact Kd.N_mono (sqN9 (Kd.N_mono HO_3.out (fun k_ hk => (⟨hk, hk.2⟩ : _ ∧ k_ ≠ gb187))) (fun _ hk => hk.2)) (fun _ hk => ⟨hk.1.1, hk.1.2⟩)⟩, ⟨by refine sqN ?_; exact Kd.N_mono (sqN9 (Kd.N_mono HO_10.out (fun k_ hk => (⟨hk, hk.2⟩ : _ ∧ k_ ≠ gb187))) (fun _ hk => hk.2)) (fun _ hk => ⟨hk.1.1, hk.1.2⟩)⟩, ⟨by refine sqN ?_; exact Kd.N_mono (sqN9 (Kd.N_mono HO_3.out (fun k_ hk => (⟨hk, hk.2⟩ : _ ∧ k_ ≠ gb187))) (fun _ hk => hk.2)) (fun _ hk => ⟨hk.1.1, hk.1.2⟩)⟩, ⟨by refine sqV ?_; exact Kd.V_mono (sqV9 (Kd.V_mono HL186_4.out (fun k_ hk => (⟨hk, hk.2⟩ : _ ∧ k_ ≠ gb187))) (fun _ hk => hk.2)) (fun _ hk => ⟨hk.1.1.2, ⟨hk.1.1.1, hk.1.2⟩⟩)⟩, ⟨by refine sqV ?_; exact Kd.V_mono (sqV9 (Kd.V_mono HL186_5.out (fun k_ hk => (⟨hk, hk.2⟩ : _ ∧ k_ ≠ gb187))) (fun _ hk => hk.2)) (fun _ hk => ⟨hk.1.1.2, ⟨hk.1.1.1, hk.1.2⟩⟩)⟩, ⟨(sqK (sqX9 BK182.out NB182_187.out))⟩, ⟨(sqK (sqP9 BK187.out))⟩, ⟨sqB2 HB.out GE182.out GE187.out⟩⟩
 clear H'
 try clear c1
 try clear p1
 try clear q1
 try clear hx1
 try clear p2
 try clear c4
 try clear c6
 try clear c7
 try clear c7b0
 try clear c8
 try clear c8b0
 try clear c9
 try clear c9b0
 try clear c11
 try clear hcz12_0 hcz12_1 hcz12_2 hcz12_3 hcz12_4 hcz12_5 hcz12_6 hcz12_7 hcz12_8
 try clear hcz4_0 hcz4_1 hcz4_2
 try clear hfz12_0 hfz12_1 hfz12_2 hfz12_3 hfz12_4 hfz12_5 hfz12_6 hfz12_7 hfz12_8
 try clear hfz4_0 hfz4_1 hfz4_2
 try clear hx186_0 hx186_1 hx186_2 hx186_3 hx186_4 hx186_5 hx186_6 hx186_7 hx186_8
 try clear p186
 try clear p2
 try clear q186
 obtain ⟨x19_2, rfl, HA, HK2, HO_3, HO_10, HO_17, HO_188004, HO_188005, BK182, BK187, HB⟩ := hrel
 cases gk with
 | zero => exact absurd HA.out (by simp [conf_unlike.l1])
 | succ k2 => ?_
 have H := HA.out
 clear HA
 simp only [conf_unlike.l1] at H
 by_cases c13 : x19_2 < (t183.length : Int)
 rotate_left
 · rw [if_neg c13] at H
   have c13b0 : decide (x19_2 < (t183.length : Int)) = false := decide_eq_false c13
   clear c13
   have H' := Aside0.mk H
   clear H
   go_wp2
   go_roundg k2
   case measure => have := HK1.out; have := HK2.out; omega
   case rel => exact ⟨(wrap64 (x12_1 + 1)), sqI, H', ⟨by have := HK1.out; have := HK2.out; omega⟩, ⟨by refine sqN ?_; exact Kd.N_mono HO_3.out (fun _ hk => hk.1)⟩, ⟨by refine sqN ?_; exact Kd.N_mono HO_10.out (fun _ hk => hk.1)⟩, ⟨sqK BK182.out⟩, ⟨sqB2 HB.out GE182.out GE187.out⟩⟩
 rw [if_pos c13] at H
 have c13b0 : decide (x19_2 < (t183.length : Int)) = true := decide_eq_true c13
 clear c13
 by_cases c14 : 0 ≤ x19_2
 rotate_left
 · rw [if_neg c14] at H
   exact absurd H (by simp)
 rw [if_pos c14] at H
 have c14b0 : decide (0 ≤ x19_2) = true := decide_eq_true c14
 clear c14
 by_cases c15 : x19_2 < (t183.length : Int)
 rotate_left
 · rw [if_neg c15] at H
   exact absurd H (by simp)
 rw [if_pos c15] at H
 have c15b0 : decide (x19_2 < (t183.length : Int)) = true := decide_eq_true c15
 clear c15
 replace H := Option.bind_eq_some_iff.mp H
 obtain ⟨t190, A160, H⟩ := H
 replace H : (if t190 = true then (conf_unlike.l1 k2 t183 x12_1 t183 (t183.length : Int) x12_1 t183 (t183.length : Int) (wrap64 (x19_2 + 1)) ((rd_T66 t183 x12_1).f0) ((rd_T66 t183 x12_1).f1) ((rd_T66 t183 x12_1).f2.f0) ((rd_T66 t183 x12_1).f2.f1) ((rd_T66 t183 x12_1).f2.f2) ((rd_T66 t183 x12_1).f2.f3) ((rd_T66 t183 x12_1).f2.f4) ((rd_T66 t183 x12_1).f2.f5) ((rd_T66 t183 x12_1).f2.f6)) else (some false)) = some r := H
 have A16 := Aside0.mk A160
 clear A160
 by_cases c17 : t190 = true
 rotate_left
 · replace c17 := Bool.eq_false_iff.mpr c17
   subst c17
   have H1 : (some false) = some r := by rw [if_neg (show ¬ (false = true) by decide)] at H; exact H
   clear H
   have H := H1
   clear H1
   obtain rfl := Option.some.inj H
   have p188 : 0 ≤ (x19_2 : Int) := of_decide_eq_true sqH
   have q188 : x19_2 < (t183.length : Int) := of_decide_eq_true sqH
   obtain ⟨ad188, A188_4, c188_4, A188_5, c188_5, e188, hx188_0, hx188_1, hx188_2, hx188_3, hx188_4, hx188_5, hx188_6, hx188_7, hx188_8, hl188_4, hi188_4, hl188_5, hi188_5⟩ := at_T66 (Kd.N_reads' HO_17.out).2.2 x19_2 p188 q188
   obtain rfl : ad186 = ad188 := (by injection e188)
   obtain ⟨ce188, hce188, hMe188, hcc188⟩ := Kd.N_get HO_17.out z66 x19_2 p188 (by first | exact q188 | exact of_decide_eq_true sqH | (have e_ := (Kd.N_reads' HO_17.out).1; omega))
   obtain ⟨ua188_4, uc188_4, ua188_5, uc188_5, rfl, ul188_4, ge188_4, ul188_5, ge188_5⟩ := k66_openF hMe188
   have hv188_4 := hcc188 4 _ rfl
   rw [add_field _ _ 4 (by omega)] at hv188_4
   replace hv188_4 := Option.some.inj (hv188_4.symm.trans hx188_4)
   injection hv188_4 with hva_ hvn_ hvc_
   rw [hva_] at ge188_4
   rw [hvc_] at ul188_4
   have HL188_4 := sqM (show Kd.V k62 62 _ w.heap.size _ _ ((rd_T66 t183 x19_2).f2.f2) from Kd.V_mk ul188_4 ge188_4)
   clear hva_ hvn_ hvc_ ge188_4 ul188_4
   have hv188_5 := hcc188 5 _ rfl
   rw [add_field _ _ 5 (by omega)] at hv188_5
   replace hv188_5 := Option.some.inj (hv188_5.symm.trans hx188_5)
   injection hv188_5 with hva_ hvn_ hvc_
   rw [hva_] at ge188_5
   rw [hvc_] at ul188_5
   have HL188_5 := sqM (show Kd.V k59 59 _ w.heap.size _ _ ((rd_T66 t183 x19_2).f2.f3) from Kd.V_mk ul188_5 ge188_5)
   clear hva_ hvn_ hvc_ ge188_5 ul188_5
   clear hcc188 hce188
   have HR188_4 := Aside0.mk hi188_4
   have HC188_4 := Aside0.mk hl188_4
   clear hi188_4 hl188_4
   have HR188_5 := Aside0.mk hi188_5
   have HC188_5 := Aside0.mk hl188_5
   clear hi188_5 hl188_5
   replace p188 := eq_true p188
   replace q188 := eq_true q188
   go_wp2_with (first | ((with_reducible refine gate_dst (N := 7) rfl ?_); refine box_event rfl (N := 7) rfl (cs := #[.int .i64 0, .int .i64 0, .int .i64 0, .int .i64 0, .slice none 0 0, .slice none 0 0, .int .i64 0, .int .i64 0, .int .i64 0]) (t := 66) sqs ?_; intro gb189 hg w25 hbox hb; have BK189 := sqM (hbox); have GW189 := sqM (sqZ hg (sqB2 HB.out GE182.out GE187.out)); have GE189 := sqM (sqZ hg (sqB2 HB.out GE182.out GE187.out)); have NB182_189 := sqM (sqL hg (sqK BK182.out)); have NB189_182 := sqM (sqG hg (sqK BK182.out)); have NB187_189 := sqM (sqL hg (sqK BK187.out)); have NB189_187 := sqM (sqG hg (sqK BK187.out)); replace HO_3 := sqM (sqNe (sqN HO_3.out) hg hb); replace HO_10 := sqM (sqNe (sqN HO_10.out) hg hb); replace HO_17 := sqM (sqNe (sqN HO_17.out) hg hb); replace HO_188004 := sqM (sqVe (sqV HO_188004.out) hg hb); replace HO_188005 := sqM (sqVe (sqV HO_188005.out) hg hb); replace HL188_4 := sqM (sqVe (sqV HL188_4.out) hg hb); replace HL188_5 := sqM (sqVe (sqV HL188_5.out) hg hb); replace BK182 := sqM (blk_below (sqK BK182.out) hb); replace BK187 := sqM (blk_below (sqK BK187.out) hb); replace HR188_4 := sqM (Kd.C_below (sqC HR188_4.out) hb); replace HR188_5 := sqM (Kd.C_below (sqC HR188_5.out) hb); replace HB := sqM (below_step (sqB2 HB.out GE182.out GE187.out) hb); clear hb hbox hg; have hnb26 := NB189_182.out; have hnc26 := NB182_189.out; have hnb27 := NB189_187.out; have hnc27 := NB187_189.out; obtain ⟨hcz28_0, hcz28_1, hcz28_2, hcz28_3, hcz28_4, hcz28_5, hcz28_6, hcz28_7, hcz28_8, hfz28_0, hfz28_1, hfz28_2, hfz28_3, hfz28_4, hfz28_5, hfz28_6, hfz28_7, hfz28_8⟩ := sqF9 BK189.out; have hnb29 := NB187_182.out; have hnc29 := NB182_187.out; obtain ⟨hcz30_0, hcz30_1, hcz30_2, hcz30_3, hcz30_4, hcz30_5, hcz30_6, hcz30_7, hcz30_8, hfz30_0, hfz30_1, hfz30_2, hfz30_3, hfz30_4, hfz30_5, hfz30_6, hfz30_7, hfz30_8⟩ := sqF9 BK187.out) | ((with_reducible refine gate_callee (f := 69) rfl ?_); refine goesL_ (some 29) rfl rfl Try.func69 (by kernel_rfl) rfl #[.agg #[.int .i64 ((rd_T66 t183 x12_1).f0), .int .i64 ((rd_T66 t183 x12_1).f1), .int .i64 ((rd_T66 t183 x12_1).f2.f0), .int .i64 ((rd_T66 t183 x12_1).f2.f1), .slice A186_4 ((rd_T66 t183 x12_1).f2.f2).length c186_4, .slice A186_5 ((rd_T66 t183 x12_1).f2.f3).length c186_5, .int .i64 ((rd_T66 t183 x12_1).f2.f4), .int .i64 ((rd_T66 t183 x12_1).f2.f5), .int .i64 ((rd_T66 t183 x12_1).f2.f6)], .agg #[.int .i64 ((rd_T66 t183 x19_2).f0), .int .i64 ((rd_T66 t183 x19_2).f1), .int .i64 ((rd_T66 t183 x19_2).f2.f0), .int .i64 ((rd_T66 t183 x19_2).f2.f1), .slice A188_4 ((rd_T66 t183 x19_2).f2.f2).length c188_4, .slice A188_5 ((rd_T66 t183 x19_2).f2.f3).length c188_5, .int .i64 ((rd_T66 t183 x19_2).f2.f4), .int .i64 ((rd_T66 t183 x19_2).f2.f5), .int .i64 ((rd_T66 t183 x19_2).f2.f6)], .bool (x12_1 == x19_2)] rfl sqA ?_; (with_reducible refine (conf_once.calls _ _ _ _ _ _ _ _ _ _ _ _ _ _ _ _ _ _ _ _ _ _ _ _ _ _ _ _ _ _ ?side1 ?side2 ?side3 ?side4 ?side5 ?side6 ?side7 ?side8 A16.out).mono ?_); (case side1 => refine (Kd.V_reads' (e := 62) (base := w.heap.size) (ok := fun k_ => ((some k_ ≠ (.slice (some ad186) t183.length co6 : Value).ownBlock ∧ (k_ ≠ gb182 ∧ k_ ≠ gb187)) ∧ k_ ≠ gb189)) (n := ((rd_T66 t183 x12_1).f2.f2).length) (c := c186_4) ?_).2.2; exact (by refine sqV ?_; exact (sqV9 HO_188004.out (fun k_ hk => hk.2)))); (case side2 => exact (Kd.V_reads' HO_188004.out).2.1); (case side3 => refine (Kd.V_reads' (e := 59) (base := w.heap.size) (ok := fun k_ => ((some k_ ≠ (.slice (some ad186) t183.length co6 : Value).ownBlock ∧ (k_ ≠ gb182 ∧ k_ ≠ gb187)) ∧ k_ ≠ gb189)) (n := ((rd_T66 t183 x12_1).f2.f3).length) (c := c186_5) ?_).2.2; exact (by refine sqV ?_; exact (sqV9 HO_188005.out (fun k_ hk => hk.2)))); (case side4 => exact (Kd.V_reads' HO_188005.out).2.1); (case side5 => repeat (first | exact ((Kd.V_reads' (by refine sqV ?_; exact (sqV9 HL188_4.out (fun k_ hk => hk.2)))).2.2) | (with_reducible refine Kd.C_alloc ?_ _) | (with_reducible refine Kd.C_drewN ?_ _) | (with_reducible refine Kd.C_drew ?_))); (case side6 => exact HC188_4.out); (case side7 => repeat (first | exact ((Kd.V_reads' (by refine sqV ?_; exact (sqV9 HL188_5.out (fun k_ hk => hk.2)))).2.2) | (with_reducible refine Kd.C_alloc ?_ _) | (with_reducible refine Kd.C_drewN ?_ _) | (with_reducible refine Kd.C_drew ?_))); (case side8 => exact HC188_5.out); rintro e w31 ⟨rfl, hb⟩; refine ⟨_, rfl, ?_⟩; replace HO_3 := sqM (Kd.N_below (by refine sqN ?_; exact (sqN9 HO_3.out (fun k_ hk => hk.2))) hb); replace HO_10 := sqM (Kd.N_below (by refine sqN ?_; exact (sqN9 HO_10.out (fun k_ hk => hk.2))) hb); replace HO_17 := sqM (Kd.N_below (by refine sqN ?_; exact (sqN9 HO_17.out (fun k_ hk => hk.2))) hb); replace HO_188004 := sqM (Kd.V_below (by refine sqV ?_; exact (sqV9 HO_188004.out (fun k_ hk => hk.2))) hb); replace HO_188005 := sqM (Kd.V_below (by refine sqV ?_; exact (sqV9 HO_188005.out (fun k_ hk => hk.2))) hb); replace BK182 := sqM (blk_below (sqK (sqX9 BK182.out NB182_189.out)) hb); replace BK187 := sqM (blk_below (sqK (sqX9 BK187.out NB187_189.out)) hb); replace HR188_4 := sqM (Kd.C_below ((Kd.V_reads' (by refine sqV ?_; exact (sqV9 HL188_4.out (fun k_ hk => hk.2)))).2.2) hb); replace HL188_4 := sqM (Kd.V_below (by refine sqV ?_; exact (sqV9 HL188_4.out (fun k_ hk => hk.2))) hb); replace HR188_5 := sqM (Kd.C_below ((Kd.V_reads' (by refine sqV ?_; exact (sqV9 HL188_5.out (fun k_ hk => hk.2)))).2.2) hb); replace HL188_5 := sqM (Kd.V_below (by refine sqV ?_; exact (sqV9 HL188_5.out (fun k_ hk => hk.2))) hb); replace BK189 := sqM (blk_below (sqK (sqP9 BK189.out)) hb); replace HB := sqM (below_step (sqB3 HB.out GE182.out GE187.out GE189.out) hb); (try clear hb); (try clear hb2); (try clear hk); (try clear hi)))
   go_ret
   exact ⟨sqE, sqB3 HB.out GE182.out GE187.out GE189.out⟩
 subst c17
 have H1 : (conf_unlike.l1 k2 t183 x12_1 t183 (t183.length : Int) x12_1 t183 (t183.length : Int) (wrap64 (x19_2 + 1)) ((rd_T66 t183 x12_1).f0) ((rd_T66 t183 x12_1).f1) ((rd_T66 t183 x12_1).f2.f0) ((rd_T66 t183 x12_1).f2.f1) ((rd_T66 t183 x12_1).f2.f2) ((rd_T66 t183 x12_1).f2.f3) ((rd_T66 t183 x12_1).f2.f4) ((rd_T66 t183 x12_1).f2.f5) ((rd_T66 t183 x12_1).f2.f6)) = some r := by rw [if_pos rfl] at H; exact H
 clear H
 have H := H1
 clear H1
 have H' := Aside0.mk H
 clear H
 have p188 : 0 ≤ (x19_2 : Int) := of_decide_eq_true sqH
 have q188 : x19_2 < (t183.length : Int) := of_decide_eq_true sqH
 obtain ⟨ad188, A188_4, c188_4, A188_5, c188_5, e188, hx188_0, hx188_1, hx188_2, hx188_3, hx188_4, hx188_5, hx188_6, hx188_7, hx188_8, hl188_4, hi188_4, hl188_5, hi188_5⟩ := at_T66 (Kd.N_reads' HO_17.out).2.2 x19_2 p188 q188
 obtain rfl : ad186 = ad188 := (by injection e188)
 obtain ⟨ce188, hce188, hMe188, hcc188⟩ := Kd.N_get HO_17.out z66 x19_2 p188 (by first | exact q188 | exact of_decide_eq_true sqH | (have e_ := (Kd.N_reads' HO_17.out).1; omega))
 obtain ⟨ua188_4, uc188_4, ua188_5, uc188_5, rfl, ul188_4, ge188_4, ul188_5, ge188_5⟩ := k66_openF hMe188
 have hv188_4 := hcc188 4 _ rfl
 rw [add_field _ _ 4 (by omega)] at hv188_4
 replace hv188_4 := Option.some.inj (hv188_4.symm.trans hx188_4)
 injection hv188_4 with hva_ hvn_ hvc_
 rw [hva_] at ge188_4
 rw [hvc_] at ul188_4
 have HL188_4 := sqM (show Kd.V k62 62 _ w.heap.size _ _ ((rd_T66 t183 x19_2).f2.f2) from Kd.V_mk ul188_4 ge188_4)
 clear hva_ hvn_ hvc_ ge188_4 ul188_4
 have hv188_5 := hcc188 5 _ rfl
 rw [add_field _ _ 5 (by omega)] at hv188_5
 replace hv188_5 := Option.some.inj (hv188_5.symm.trans hx188_5)
 injection hv188_5 with hva_ hvn_ hvc_
 rw [hva_] at ge188_5
 rw [hvc_] at ul188_5
 have HL188_5 := sqM (show Kd.V k59 59 _ w.heap.size _ _ ((rd_T66 t183 x19_2).f2.f3) from Kd.V_mk ul188_5 ge188_5)
 clear hva_ hvn_ hvc_ ge188_5 ul188_5
 clear hcc188 hce188
 have HR188_4 := Aside0.mk hi188_4
 have HC188_4 := Aside0.mk hl188_4
 clear hi188_4 hl188_4
 have HR188_5 := Aside0.mk hi188_5
 have HC188_5 := Aside0.mk hl188_5
 clear hi188_5 hl188_5
 replace p188 := eq_true p188
 replace q188 := eq_true q188
 go_wp2_with (first | ((with_reducible refine gate_dst (N := 7) rfl ?_); refine box_event rfl (N := 7) rfl (cs := #[.int .i64 0, .int .i64 0, .int .i64 0, .int .i64 0, .slice none 0 0, .slice none 0 0, .int .i64 0, .int .i64 0, .int .i64 0]) (t := 66) sqs ?_; intro gb189 hg w18 hbox hb; have BK189 := sqM (hbox); have GW189 := sqM (sqZ hg (sqB2 HB.out GE182.out GE187.out)); have GE189 := sqM (sqZ hg (sqB2 HB.out GE182.out GE187.out)); have NB182_189 := sqM (sqL hg (sqK BK182.out)); have NB189_182 := sqM (sqG hg (sqK BK182.out)); have NB187_189 := sqM (sqL hg (sqK BK187.out)); have NB189_187 := sqM (sqG hg (sqK BK187.out)); replace HO_3 := sqM (sqNe (sqN HO_3.out) hg hb); replace HO_10 := sqM (sqNe (sqN HO_10.out) hg hb); replace HO_17 := sqM (sqNe (sqN HO_17.out) hg hb); replace HO_188004 := sqM (sqVe (sqV HO_188004.out) hg hb); replace HO_188005 := sqM (sqVe (sqV HO_188005.out) hg hb); replace HL188_4 := sqM (sqVe (sqV HL188_4.out) hg hb); replace HL188_5 := sqM (sqVe (sqV HL188_5.out) hg hb); replace BK182 := sqM (blk_below (sqK BK182.out) hb); replace BK187 := sqM (blk_below (sqK BK187.out) hb); replace HR188_4 := sqM (Kd.C_below (sqC HR188_4.out) hb); replace HR188_5 := sqM (Kd.C_below (sqC HR188_5.out) hb); replace HB := sqM (below_step (sqB2 HB.out GE182.out GE187.out) hb); clear hb hbox hg; have hnb19 := NB189_182.out; have hnc19 := NB182_189.out; have hnb20 := NB189_187.out; have hnc20 := NB187_189.out; obtain ⟨hcz21_0, hcz21_1, hcz21_2, hcz21_3, hcz21_4, hcz21_5, hcz21_6, hcz21_7, hcz21_8, hfz21_0, hfz21_1, hfz21_2, hfz21_3, hfz21_4, hfz21_5, hfz21_6, hfz21_7, hfz21_8⟩ := sqF9 BK189.out; have hnb22 := NB187_182.out; have hnc22 := NB182_187.out; obtain ⟨hcz23_0, hcz23_1, hcz23_2, hcz23_3, hcz23_4, hcz23_5, hcz23_6, hcz23_7, hcz23_8, hfz23_0, hfz23_1, hfz23_2, hfz23_3, hfz23_4, hfz23_5, hfz23_6, hfz23_7, hfz23_8⟩ := sqF9 BK187.out) | ((with_reducible refine gate_callee (f := 69) rfl ?_); refine goesL_ (some 29) rfl rfl Try.func69 (by kernel_rfl) rfl #[.agg #[.int .i64 ((rd_T66 t183 x12_1).f0), .int .i64 ((rd_T66 t183 x12_1).f1), .int .i64 ((rd_T66 t183 x12_1).f2.f0), .int .i64 ((rd_T66 t183 x12_1).f2.f1), .slice A186_4 ((rd_T66 t183 x12_1).f2.f2).length c186_4, .slice A186_5 ((rd_T66 t183 x12_1).f2.f3).length c186_5, .int .i64 ((rd_T66 t183 x12_1).f2.f4), .int .i64 ((rd_T66 t183 x12_1).f2.f5), .int .i64 ((rd_T66 t183 x12_1).f2.f6)], .agg #[.int .i64 ((rd_T66 t183 x19_2).f0), .int .i64 ((rd_T66 t183 x19_2).f1), .int .i64 ((rd_T66 t183 x19_2).f2.f0), .int .i64 ((rd_T66 t183 x19_2).f2.f1), .slice A188_4 ((rd_T66 t183 x19_2).f2.f2).length c188_4, .slice A188_5 ((rd_T66 t183 x19_2).f2.f3).length c188_5, .int .i64 ((rd_T66 t183 x19_2).f2.f4), .int .i64 ((rd_T66 t183 x19_2).f2.f5), .int .i64 ((rd_T66 t183 x19_2).f2.f6)], .bool (x12_1 == x19_2)] rfl sqA ?_; (with_reducible refine (conf_once.calls _ _ _ _ _ _ _ _ _ _ _ _ _ _ _ _ _ _ _ _ _ _ _ _ _ _ _ _ _ _ ?side1 ?side2 ?side3 ?side4 ?side5 ?side6 ?side7 ?side8 A16.out).mono ?_); (case side1 => refine (Kd.V_reads' (e := 62) (base := w.heap.size) (ok := fun k_ => ((some k_ ≠ (.slice (some ad186) t183.length co6 : Value).ownBlock ∧ (k_ ≠ gb182 ∧ k_ ≠ gb187)) ∧ k_ ≠ gb189)) (n := ((rd_T66 t183 x12_1).f2.f2).length) (c := c186_4) ?_).2.2; exact (by refine sqV ?_; exact (sqV9 HO_188004.out (fun k_ hk => hk.2)))); (case side2 => exact (Kd.V_reads' HO_188004.out).2.1); (case side3 => refine (Kd.V_reads' (e := 59) (base := w.heap.size) (ok := fun k_ => ((some k_ ≠ (.slice (some ad186) t183.length co6 : Value).ownBlock ∧ (k_ ≠ gb182 ∧ k_ ≠ gb187)) ∧ k_ ≠ gb189)) (n := ((rd_T66 t183 x12_1).f2.f3).length) (c := c186_5) ?_).2.2; exact (by refine sqV ?_; exact (sqV9 HO_188005.out (fun k_ hk => hk.2)))); (case side4 => exact (Kd.V_reads' HO_188005.out).2.1); (case side5 => repeat (first | exact ((Kd.V_reads' (by refine sqV ?_; exact (sqV9 HL188_4.out (fun k_ hk => hk.2)))).2.2) | (with_reducible refine Kd.C_alloc ?_ _) | (with_reducible refine Kd.C_drewN ?_ _) | (with_reducible refine Kd.C_drew ?_))); (case side6 => exact HC188_4.out); (case side7 => repeat (first | exact ((Kd.V_reads' (by refine sqV ?_; exact (sqV9 HL188_5.out (fun k_ hk => hk.2)))).2.2) | (with_reducible refine Kd.C_alloc ?_ _) | (with_reducible refine Kd.C_drewN ?_ _) | (with_reducible refine Kd.C_drew ?_))); (case side8 => exact HC188_5.out); rintro e w24 ⟨rfl, hb⟩; refine ⟨_, rfl, ?_⟩; replace HO_3 := sqM (Kd.N_below (by refine sqN ?_; exact (sqN9 HO_3.out (fun k_ hk => hk.2))) hb); replace HO_10 := sqM (Kd.N_below (by refine sqN ?_; exact (sqN9 HO_10.out (fun k_ hk => hk.2))) hb); replace HO_17 := sqM (Kd.N_below (by refine sqN ?_; exact (sqN9 HO_17.out (fun k_ hk => hk.2))) hb); replace HO_188004 := sqM (Kd.V_below (by refine sqV ?_; exact (sqV9 HO_188004.out (fun k_ hk => hk.2))) hb); replace HO_188005 := sqM (Kd.V_below (by refine sqV ?_; exact (sqV9 HO_188005.out (fun k_ hk => hk.2))) hb); replace BK182 := sqM (blk_below (sqK (sqX9 BK182.out NB182_189.out)) hb); replace BK187 := sqM (blk_below (sqK (sqX9 BK187.out NB187_189.out)) hb); replace HR188_4 := sqM (Kd.C_below ((Kd.V_reads' (by refine sqV ?_; exact (sqV9 HL188_4.out (fun k_ hk => hk.2)))).2.2) hb); replace HL188_4 := sqM (Kd.V_below (by refine sqV ?_; exact (sqV9 HL188_4.out (fun k_ hk => hk.2))) hb); replace HR188_5 := sqM (Kd.C_below ((Kd.V_reads' (by refine sqV ?_; exact (sqV9 HL188_5.out (fun k_ hk => hk.2)))).2.2) hb); replace HL188_5 := sqM (Kd.V_below (by refine sqV ?_; exact (sqV9 HL188_5.out (fun k_ hk => hk.2))) hb); replace BK189 := sqM (blk_below (sqK (sqP9 BK189.out)) hb); replace HB := sqM (below_step (sqB3 HB.out GE182.out GE187.out GE189.out) hb); (try clear hb); (try clear hb2); (try clear hk); (try clear hi)))
 go_roundg k2
 case measure => have := HK1.out; have := HK2.out; omega
 case rel => exact ⟨(wrap64 (x19_2 + 1)), sqI, H', ⟨by have := HK1.out; have := HK2.out; omega⟩, ⟨by refine sqN ?_; exact Kd.N_mono HO_3.out (fun _ hk => ⟨hk.1.1, hk.1.2⟩)⟩, ⟨by refine sqN ?_; exact Kd.N_mono HO_10.out (fun _ hk => ⟨hk.1.1, hk.1.2⟩)⟩, ⟨by refine sqN ?_; exact Kd.N_mono HO_17.out (fun _ hk => ⟨hk.1.1, hk.1.2⟩)⟩, ⟨by refine sqV ?_; exact Kd.V_mono HO_188004.out (fun _ hk => ⟨hk.1.1, ⟨hk.1.2.1, hk.1.2.2⟩⟩)⟩, ⟨by refine sqV ?_; exact Kd.V_mono HO_188005.out (fun _ hk => ⟨hk.1.1, ⟨hk.1.2.1, hk.1.2.2⟩⟩)⟩, ⟨sqK BK182.out⟩, ⟨sqK BK187.out⟩, ⟨sqB3 HB.out GE182.out GE187.out GE189.out⟩⟩

/-! ### conf_Check: function 16 -/
def conf_Check.f (k : Nat) (a0_0 : Int) (a0_1 : Int) (l0_2 : List (S41)) : Option (Int) := (conf_form.f k a0_0 a0_1 l0_2).bind fun t192 => (if t192 = true then ((conf_placed.f k a0_0 a0_1 l0_2).bind fun t193 => (if t193 = true then ((conf_unlike.f k a0_0 a0_1 l0_2).bind fun t194 => (if t194 = true then (some 0) else (some 8))) else (some 9))) else (some 1))
theorem conf_Check.mono : ∀ a0 a1 a2 k, LeO (conf_Check.f k a0 a1 a2) (conf_Check.f (k + 1) a0 a1 a2) := by
 intro a0 a1 a2 k
 unfold conf_Check.f
 repeat' first
  | (with_reducible exact conf_form.mono _ _ _ _)
  | (with_reducible exact conf_placed.mono _ _ _ _)
  | (with_reducible exact conf_unlike.mono _ _ _ _)
  | (with_reducible exact LeO.refl _)
  | (with_reducible exact LeO.none _)
  | (with_reducible refine LeO.ite ?_ ?_)
  | (with_reducible refine LeO.bind ?_ (fun _ => ?_))
set_option maxHeartbeats 8000000 in
set_option maxRecDepth 100000 in
theorem conf_Check.calls (k : Nat) (a0_0 : Int) (a0_1 : Int) (A0_2 : Option Addr) (c0_2 : Nat) (l0_2 : List (S41)) (r : Int) (w : World) (hr0_2 : Kd.C k41 w A0_2 l0_2.length l0_2) (hc0_2 : l0_2.length ≤ c0_2) (h : conf_Check.f k a0_0 a0_1 l0_2 = some r) :
    Calls Try.prog 16 #[.agg #[.int .i64 a0_0, .int .i64 a0_1, .slice A0_2 l0_2.length c0_2]] w fun e w' => e = .returned (.int .i64 r) ∧ Below w.heap.size w w' := by
 have hu24 := Try.underlying24
 have HR0_2 := Aside0.mk hr0_2
 have HC0_2 := Aside0.mk hc0_2
 clear hr0_2 hc0_2
 have HB := Aside0.mk (Below.refl w.heap.size w)
 have H : ((conf_form.f k a0_0 a0_1 l0_2).bind fun t192 => (if t192 = true then ((conf_placed.f k a0_0 a0_1 l0_2).bind fun t193 => (if t193 = true then ((conf_unlike.f k a0_0 a0_1 l0_2).bind fun t194 => (if t194 = true then (some 0) else (some 8))) else (some 9))) else (some 1))) = some r := h
 clear h
 replace H := Option.bind_eq_some_iff.mp H
 obtain ⟨t192, A20, H⟩ := H
 replace H : (if t192 = true then ((conf_placed.f k a0_0 a0_1 l0_2).bind fun t193 => (if t193 = true then ((conf_unlike.f k a0_0 a0_1 l0_2).bind fun t194 => (if t194 = true then (some 0) else (some 8))) else (some 9))) else (some 1)) = some r := H
 have A2 := Aside0.mk A20
 clear A20
 by_cases c3 : t192 = true
 rotate_left
 · replace c3 := Bool.eq_false_iff.mpr c3
   subst c3
   have H1 : (some 1) = some r := by rw [if_neg (show ¬ (false = true) by decide)] at H; exact H
   clear H
   have H := H1
   clear H1
   obtain rfl := Option.some.inj H
   go_enter Try.func16, Try.ntmps16
   go_wp2_with (first | ((with_reducible refine gate_dst (N := 1) rfl ?_); refine box_event rfl (N := 1) rfl (cs := #[.int .i64 a0_0, .int .i64 a0_1, .slice A0_2 l0_2.length c0_2]) (t := 24) sqs ?_; intro gb191 hg w27 hbox hb; have BK191 := sqM (hbox); have GW191 := sqM (sqZ hg (sqB HB.out)); have GE191 := sqM (sqZ hg (sqB HB.out)); replace HB := sqM (below_step (sqB HB.out) hb); clear hb hbox hg; obtain ⟨hcz28_0, hcz28_1, hcz28_2, hfz28_0, hfz28_1, hfz28_2⟩ := sqF3 BK191.out) | ((with_reducible refine gate_callee (f := 40) rfl ?_); refine goesL_ (some 5) rfl rfl Try.func40 (by kernel_rfl) rfl #[.agg #[.int .i64 a0_0, .int .i64 a0_1, .slice A0_2 l0_2.length c0_2]] rfl sqA ?_; (with_reducible refine (conf_form.calls _ _ _ _ _ _ _ _ ?side1 ?side2 A2.out).mono ?_); (case side1 => repeat (first | exact (Kd.C_below HR0_2.out HB.out) | (with_reducible refine Kd.C_alloc ?_ _) | (with_reducible refine Kd.C_drewN ?_ _) | (with_reducible refine Kd.C_drew ?_))); (case side2 => exact HC0_2.out); rintro e w29 ⟨rfl, hb⟩; refine ⟨_, rfl, ?_⟩; replace BK191 := sqM (blk_below (sqK BK191.out) hb); replace HB := sqM (below_step (sqB1 HB.out GE191.out) hb); (try clear hb); (try clear hb2); (try clear hk); (try clear hi)))
   go_ret
   exact ⟨sqE, sqB1 HB.out GE191.out⟩
 subst c3
 have H1 : ((conf_placed.f k a0_0 a0_1 l0_2).bind fun t193 => (if t193 = true then ((conf_unlike.f k a0_0 a0_1 l0_2).bind fun t194 => (if t194 = true then (some 0) else (some 8))) else (some 9))) = some r := by rw [if_pos rfl] at H; exact H
 clear H
 have H := H1
 clear H1
 replace H := Option.bind_eq_some_iff.mp H
 obtain ⟨t193, A40, H⟩ := H
 replace H : (if t193 = true then ((conf_unlike.f k a0_0 a0_1 l0_2).bind fun t194 => (if t194 = true then (some 0) else (some 8))) else (some 9)) = some r := H
 have A4 := Aside0.mk A40
 clear A40
 by_cases c5 : t193 = true
 rotate_left
 · replace c5 := Bool.eq_false_iff.mpr c5
   subst c5
   have H1 : (some 9) = some r := by rw [if_neg (show ¬ (false = true) by decide)] at H; exact H
   clear H
   have H := H1
   clear H1
   obtain rfl := Option.some.inj H
   go_enter Try.func16, Try.ntmps16
   go_wp2_with (first | ((with_reducible refine gate_dst (N := 1) rfl ?_); refine box_event rfl (N := 1) rfl (cs := #[.int .i64 a0_0, .int .i64 a0_1, .slice A0_2 l0_2.length c0_2]) (t := 24) sqs ?_; intro gb191 hg w22 hbox hb; have BK191 := sqM (hbox); have GW191 := sqM (sqZ hg (sqB HB.out)); have GE191 := sqM (sqZ hg (sqB HB.out)); replace HB := sqM (below_step (sqB HB.out) hb); clear hb hbox hg; obtain ⟨hcz23_0, hcz23_1, hcz23_2, hfz23_0, hfz23_1, hfz23_2⟩ := sqF3 BK191.out) | ((with_reducible refine gate_callee (f := 40) rfl ?_); refine goesL_ (some 5) rfl rfl Try.func40 (by kernel_rfl) rfl #[.agg #[.int .i64 a0_0, .int .i64 a0_1, .slice A0_2 l0_2.length c0_2]] rfl sqA ?_; (with_reducible refine (conf_form.calls _ _ _ _ _ _ _ _ ?side1 ?side2 A2.out).mono ?_); (case side1 => repeat (first | exact (Kd.C_below HR0_2.out HB.out) | (with_reducible refine Kd.C_alloc ?_ _) | (with_reducible refine Kd.C_drewN ?_ _) | (with_reducible refine Kd.C_drew ?_))); (case side2 => exact HC0_2.out); rintro e w24 ⟨rfl, hb⟩; refine ⟨_, rfl, ?_⟩; replace BK191 := sqM (blk_below (sqK BK191.out) hb); replace HB := sqM (below_step (sqB1 HB.out GE191.out) hb); (try clear hb); (try clear hb2); (try clear hk); (try clear hi); obtain ⟨hcz25_0, hcz25_1, hcz25_2, hfz25_0, hfz25_1, hfz25_2⟩ := sqF3 BK191.out) | ((with_reducible refine gate_callee (f := 41) rfl ?_); refine goesL_ (some 9) rfl rfl Try.func41 (by kernel_rfl) rfl #[.agg #[.int .i64 a0_0, .int .i64 a0_1, .slice A0_2 l0_2.length c0_2]] rfl sqA ?_; (with_reducible refine (conf_placed.calls _ _ _ _ _ _ _ _ ?side1 ?side2 A4.out).mono ?_); (case side1 => repeat (first | exact (Kd.C_below HR0_2.out HB.out) | (with_reducible refine Kd.C_alloc ?_ _) | (with_reducible refine Kd.C_drewN ?_ _) | (with_reducible refine Kd.C_drew ?_))); (case side2 => exact HC0_2.out); rintro e w26 ⟨rfl, hb⟩; refine ⟨_, rfl, ?_⟩; replace BK191 := sqM (blk_below (sqK BK191.out) hb); replace HB := sqM (below_step (sqB1 HB.out GE191.out) hb); (try clear hb); (try clear hb2); (try clear hk); (try clear hi)))
   go_ret
   exact ⟨sqE, sqB1 HB.out GE191.out⟩
 subst c5
 have H1 : ((conf_unlike.f k a0_0 a0_1 l0_2).bind fun t194 => (if t194 = true then (some 0) else (some 8))) = some r := by rw [if_pos rfl] at H; exact H
 clear H
 have H := H1
 clear H1
 replace H := Option.bind_eq_some_iff.mp H
 obtain ⟨t194, A60, H⟩ := H
 replace H : (if t194 = true then (some 0) else (some 8)) = some r := H
 have A6 := Aside0.mk A60
 clear A60
 by_cases c7 : t194 = true
 · subst c7
   have H1 : (some 0) = some r := by rw [if_pos rfl] at H; exact H
   clear H
   have H := H1
   clear H1
   obtain rfl := Option.some.inj H
   go_enter Try.func16, Try.ntmps16
   go_wp2_with (first | ((with_reducible refine gate_dst (N := 1) rfl ?_); refine box_event rfl (N := 1) rfl (cs := #[.int .i64 a0_0, .int .i64 a0_1, .slice A0_2 l0_2.length c0_2]) (t := 24) sqs ?_; intro gb191 hg w8 hbox hb; have BK191 := sqM (hbox); have GW191 := sqM (sqZ hg (sqB HB.out)); have GE191 := sqM (sqZ hg (sqB HB.out)); replace HB := sqM (below_step (sqB HB.out) hb); clear hb hbox hg; obtain ⟨hcz9_0, hcz9_1, hcz9_2, hfz9_0, hfz9_1, hfz9_2⟩ := sqF3 BK191.out) | ((with_reducible refine gate_callee (f := 40) rfl ?_); refine goesL_ (some 5) rfl rfl Try.func40 (by kernel_rfl) rfl #[.agg #[.int .i64 a0_0, .int .i64 a0_1, .slice A0_2 l0_2.length c0_2]] rfl sqA ?_; (with_reducible refine (conf_form.calls _ _ _ _ _ _ _ _ ?side1 ?side2 A2.out).mono ?_); (case side1 => repeat (first | exact (Kd.C_below HR0_2.out HB.out) | (with_reducible refine Kd.C_alloc ?_ _) | (with_reducible refine Kd.C_drewN ?_ _) | (with_reducible refine Kd.C_drew ?_))); (case side2 => exact HC0_2.out); rintro e w10 ⟨rfl, hb⟩; refine ⟨_, rfl, ?_⟩; replace BK191 := sqM (blk_below (sqK BK191.out) hb); replace HB := sqM (below_step (sqB1 HB.out GE191.out) hb); (try clear hb); (try clear hb2); (try clear hk); (try clear hi); obtain ⟨hcz11_0, hcz11_1, hcz11_2, hfz11_0, hfz11_1, hfz11_2⟩ := sqF3 BK191.out) | ((with_reducible refine gate_callee (f := 41) rfl ?_); refine goesL_ (some 9) rfl rfl Try.func41 (by kernel_rfl) rfl #[.agg #[.int .i64 a0_0, .int .i64 a0_1, .slice A0_2 l0_2.length c0_2]] rfl sqA ?_; (with_reducible refine (conf_placed.calls _ _ _ _ _ _ _ _ ?side1 ?side2 A4.out).mono ?_); (case side1 => repeat (first | exact (Kd.C_below HR0_2.out HB.out) | (with_reducible refine Kd.C_alloc ?_ _) | (with_reducible refine Kd.C_drewN ?_ _) | (with_reducible refine Kd.C_drew ?_))); (case side2 => exact HC0_2.out); rintro e w12 ⟨rfl, hb⟩; refine ⟨_, rfl, ?_⟩; replace BK191 := sqM (blk_below (sqK BK191.out) hb); replace HB := sqM (below_step (sqB1 HB.out GE191.out) hb); (try clear hb); (try clear hb2); (try clear hk); (try clear hi); obtain ⟨hcz13_0, hcz13_1, hcz13_2, hfz13_0, hfz13_1, hfz13_2⟩ := sqF3 BK191.out) | ((with_reducible refine gate_callee (f := 42) rfl ?_); refine goesL_ (some 13) rfl rfl Try.func42 (by kernel_rfl) rfl #[.agg #[.int .i64 a0_0, .int .i64 a0_1, .slice A0_2 l0_2.length c0_2]] rfl sqA ?_; (with_reducible refine (conf_unlike.calls _ _ _ _ _ _ _ _ ?side1 ?side2 A6.out).mono ?_); (case side1 => repeat (first | exact (Kd.C_below HR0_2.out HB.out) | (with_reducible refine Kd.C_alloc ?_ _) | (with_reducible refine Kd.C_drewN ?_ _) | (with_reducible refine Kd.C_drew ?_))); (case side2 => exact HC0_2.out); rintro e w14 ⟨rfl, hb⟩; refine ⟨_, rfl, ?_⟩; replace BK191 := sqM (blk_below (sqK BK191.out) hb); replace HB := sqM (below_step (sqB1 HB.out GE191.out) hb); (try clear hb); (try clear hb2); (try clear hk); (try clear hi)))
   go_ret
   exact ⟨sqE, sqB1 HB.out GE191.out⟩
 replace c7 := Bool.eq_false_iff.mpr c7
 subst c7
 have H1 : (some 8) = some r := by rw [if_neg (show ¬ (false = true) by decide)] at H; exact H
 clear H
 have H := H1
 clear H1
 obtain rfl := Option.some.inj H
 go_enter Try.func16, Try.ntmps16
 go_wp2_with (first | ((with_reducible refine gate_dst (N := 1) rfl ?_); refine box_event rfl (N := 1) rfl (cs := #[.int .i64 a0_0, .int .i64 a0_1, .slice A0_2 l0_2.length c0_2]) (t := 24) sqs ?_; intro gb191 hg w15 hbox hb; have BK191 := sqM (hbox); have GW191 := sqM (sqZ hg (sqB HB.out)); have GE191 := sqM (sqZ hg (sqB HB.out)); replace HB := sqM (below_step (sqB HB.out) hb); clear hb hbox hg; obtain ⟨hcz16_0, hcz16_1, hcz16_2, hfz16_0, hfz16_1, hfz16_2⟩ := sqF3 BK191.out) | ((with_reducible refine gate_callee (f := 40) rfl ?_); refine goesL_ (some 5) rfl rfl Try.func40 (by kernel_rfl) rfl #[.agg #[.int .i64 a0_0, .int .i64 a0_1, .slice A0_2 l0_2.length c0_2]] rfl sqA ?_; (with_reducible refine (conf_form.calls _ _ _ _ _ _ _ _ ?side1 ?side2 A2.out).mono ?_); (case side1 => repeat (first | exact (Kd.C_below HR0_2.out HB.out) | (with_reducible refine Kd.C_alloc ?_ _) | (with_reducible refine Kd.C_drewN ?_ _) | (with_reducible refine Kd.C_drew ?_))); (case side2 => exact HC0_2.out); rintro e w17 ⟨rfl, hb⟩; refine ⟨_, rfl, ?_⟩; replace BK191 := sqM (blk_below (sqK BK191.out) hb); replace HB := sqM (below_step (sqB1 HB.out GE191.out) hb); (try clear hb); (try clear hb2); (try clear hk); (try clear hi); obtain ⟨hcz18_0, hcz18_1, hcz18_2, hfz18_0, hfz18_1, hfz18_2⟩ := sqF3 BK191.out) | ((with_reducible refine gate_callee (f := 41) rfl ?_); refine goesL_ (some 9) rfl rfl Try.func41 (by kernel_rfl) rfl #[.agg #[.int .i64 a0_0, .int .i64 a0_1, .slice A0_2 l0_2.length c0_2]] rfl sqA ?_; (with_reducible refine (conf_placed.calls _ _ _ _ _ _ _ _ ?side1 ?side2 A4.out).mono ?_); (case side1 => repeat (first | exact (Kd.C_below HR0_2.out HB.out) | (with_reducible refine Kd.C_alloc ?_ _) | (with_reducible refine Kd.C_drewN ?_ _) | (with_reducible refine Kd.C_drew ?_))); (case side2 => exact HC0_2.out); rintro e w19 ⟨rfl, hb⟩; refine ⟨_, rfl, ?_⟩; replace BK191 := sqM (blk_below (sqK BK191.out) hb); replace HB := sqM (below_step (sqB1 HB.out GE191.out) hb); (try clear hb); (try clear hb2); (try clear hk); (try clear hi); obtain ⟨hcz20_0, hcz20_1, hcz20_2, hfz20_0, hfz20_1, hfz20_2⟩ := sqF3 BK191.out) | ((with_reducible refine gate_callee (f := 42) rfl ?_); refine goesL_ (some 13) rfl rfl Try.func42 (by kernel_rfl) rfl #[.agg #[.int .i64 a0_0, .int .i64 a0_1, .slice A0_2 l0_2.length c0_2]] rfl sqA ?_; (with_reducible refine (conf_unlike.calls _ _ _ _ _ _ _ _ ?side1 ?side2 A6.out).mono ?_); (case side1 => repeat (first | exact (Kd.C_below HR0_2.out HB.out) | (with_reducible refine Kd.C_alloc ?_ _) | (with_reducible refine Kd.C_drewN ?_ _) | (with_reducible refine Kd.C_drew ?_))); (case side2 => exact HC0_2.out); rintro e w21 ⟨rfl, hb⟩; refine ⟨_, rfl, ?_⟩; replace BK191 := sqM (blk_below (sqK BK191.out) hb); replace HB := sqM (below_step (sqB1 HB.out GE191.out) hb); (try clear hb); (try clear hb2); (try clear hk); (try clear hi)))
 go_ret
 exact ⟨sqE, sqB1 HB.out GE191.out⟩

/-! ### conf_right: function 46 -/
def conf_right.f (k : Nat) (a0_0 : Int) (a0_1 : Int) (l0_2 : List (S41)) : Option ((List (S66))) := (conf_Check.f k a0_0 a0_1 l0_2).bind fun t196 => (if t196 = 0 then ((conf_spots.f k a0_0 a0_1 l0_2).bind fun t197 => (some t197)) else (some ([] : List (S66))))
theorem conf_right.mono : ∀ a0 a1 a2 k, LeO (conf_right.f k a0 a1 a2) (conf_right.f (k + 1) a0 a1 a2) := by
 intro a0 a1 a2 k
 unfold conf_right.f
 repeat' first
  | (with_reducible exact conf_Check.mono _ _ _ _)
  | (with_reducible exact conf_spots.mono _ _ _ _)
  | (with_reducible exact LeO.refl _)
  | (with_reducible exact LeO.none _)
  | (with_reducible refine LeO.ite ?_ ?_)
  | (with_reducible refine LeO.bind ?_ (fun _ => ?_))
set_option maxHeartbeats 8000000 in
set_option maxRecDepth 100000 in
theorem conf_right.calls (k : Nat) (a0_0 : Int) (a0_1 : Int) (P0_2_ : Nat → Prop) (A0_2 : Option Addr) (c0_2 : Nat) (l0_2 : List (S41)) (r : List (S66)) (w : World) (hs0_2 : Kd.V k41 41 w w.heap.size (fun k_ => P0_2_ k_) (.slice A0_2 l0_2.length c0_2) l0_2) (h : conf_right.f k a0_0 a0_1 l0_2 = some r) :
    Calls Try.prog 46 #[.agg #[.int .i64 a0_0, .int .i64 a0_1, .slice A0_2 l0_2.length c0_2]] w fun e w' => ∃ v0_ : Value, e = .returned (v0_) ∧ Kd.N k66 66 w' w.heap.size (fun k_ => (P0_2_ k_ ∨ w.heap.size ≤ k_)) v0_ r ∧ Below w.heap.size w w' := by
 have hu24 := Try.underlying24
 have HO0_2 := sqM (show Kd.V k41 41 w w.heap.size (fun k_ => (P0_2_ k_ ∨ w.heap.size ≤ k_)) (.slice A0_2 l0_2.length c0_2) l0_2 from Kd.V_mono hs0_2 (fun k_ hk => .inl hk))
 have HB := Aside0.mk (Below.refl w.heap.size w)
 have H : ((conf_Check.f k a0_0 a0_1 l0_2).bind fun t196 => (if t196 = 0 then ((conf_spots.f k a0_0 a0_1 l0_2).bind fun t197 => (some t197)) else (some ([] : List (S66))))) = some r := h
 clear h
 replace H := Option.bind_eq_some_iff.mp H
 obtain ⟨t196, A20, H⟩ := H
 replace H : (if t196 = 0 then ((conf_spots.f k a0_0 a0_1 l0_2).bind fun t197 => (some t197)) else (some ([] : List (S66)))) = some r := H
 have A2 := Aside0.mk A20
 clear A20
 by_cases c3 : t196 = 0
 rotate_left
 · rw [if_neg c3] at H
   have c3b0 : (t196 == 0) = false := beq_eq_false_iff_ne.mpr c3
   have c3b1 : (t196 != 0) = true := bne_iff_ne.mpr c3
   obtain rfl := Option.some.inj H
   go_enter Try.func46, Try.ntmps46
   go_wp2_with (first | ((with_reducible refine gate_dst (N := 1) rfl ?_); refine box_event rfl (N := 1) rfl (cs := #[.int .i64 a0_0, .int .i64 a0_1, .slice A0_2 l0_2.length c0_2]) (t := 24) sqs ?_; intro gb195 hg w10 hbox hb; have BK195 := sqM (hbox); have GW195 := sqM (sqZ hg (sqB HB.out)); have GE195 := sqM (sqZ hg (sqB HB.out)); replace HO0_2 := sqM (sqVe (sqV HO0_2.out) hg hb); replace HB := sqM (below_step (sqB HB.out) hb); clear hb hbox hg; obtain ⟨hcz11_0, hcz11_1, hcz11_2, hfz11_0, hfz11_1, hfz11_2⟩ := sqF3 BK195.out) | ((with_reducible refine gate_callee (f := 16) rfl ?_); refine goesL_ (some 4) rfl rfl Try.func16 (by kernel_rfl) rfl #[.agg #[.int .i64 a0_0, .int .i64 a0_1, .slice A0_2 l0_2.length c0_2]] rfl sqA ?_; (with_reducible refine (conf_Check.calls _ _ _ _ _ _ _ _ ?side1 ?side2 A2.out).mono ?_); (case side1 => repeat (first | exact (Kd.V_reads' HO0_2.out).2.2 | (with_reducible refine Kd.C_alloc ?_ _) | (with_reducible refine Kd.C_drewN ?_ _) | (with_reducible refine Kd.C_drew ?_))); (case side2 => exact (Kd.V_reads' HO0_2.out).2.1); rintro e w12 ⟨rfl, hb⟩; refine ⟨_, rfl, ?_⟩; replace HO0_2 := sqM (Kd.V_below (sqV HO0_2.out) hb); replace BK195 := sqM (blk_below (sqK BK195.out) hb); replace HB := sqM (below_step (sqB1 HB.out GE195.out) hb); (try clear hb); (try clear hb2); (try clear hk); (try clear hi)))
   go_ret
   exact ⟨_, sqE, by first | exact Kd.S_nil _ _ _ _ _ | exact Kd.N_nil _ _ _ _ _ | exact Kd.V_nil _ _ _ _ _ | exact Kd.Q_nil _ _ _ _ _ | exact Kd.R_nil _ _ _ _ _, sqB1 HB.out GE195.out⟩
 rw [if_pos c3] at H
 have c3b0 : (t196 == 0) = true := beq_iff_eq.mpr c3
 have c3b1 : (t196 != 0) = false := bne_eq_false_iff_eq.mpr c3
 clear c3
 replace H := Option.bind_eq_some_iff.mp H
 obtain ⟨t197, A40, H⟩ := H
 replace H : (some t197) = some r := H
 have A4 := Aside0.mk A40
 clear A40
 obtain rfl := Option.some.inj H
 go_enter Try.func46, Try.ntmps46
 go_wp2_with (first | ((with_reducible refine gate_dst (N := 1) rfl ?_); refine box_event rfl (N := 1) rfl (cs := #[.int .i64 a0_0, .int .i64 a0_1, .slice A0_2 l0_2.length c0_2]) (t := 24) sqs ?_; intro gb195 hg w5 hbox hb; have BK195 := sqM (hbox); have GW195 := sqM (sqZ hg (sqB HB.out)); have GE195 := sqM (sqZ hg (sqB HB.out)); replace HO0_2 := sqM (sqVe (sqV HO0_2.out) hg hb); replace HB := sqM (below_step (sqB HB.out) hb); clear hb hbox hg; obtain ⟨hcz6_0, hcz6_1, hcz6_2, hfz6_0, hfz6_1, hfz6_2⟩ := sqF3 BK195.out) | ((with_reducible refine gate_callee (f := 16) rfl ?_); refine goesL_ (some 4) rfl rfl Try.func16 (by kernel_rfl) rfl #[.agg #[.int .i64 a0_0, .int .i64 a0_1, .slice A0_2 l0_2.length c0_2]] rfl sqA ?_; (with_reducible refine (conf_Check.calls _ _ _ _ _ _ _ _ ?side1 ?side2 A2.out).mono ?_); (case side1 => repeat (first | exact (Kd.V_reads' HO0_2.out).2.2 | (with_reducible refine Kd.C_alloc ?_ _) | (with_reducible refine Kd.C_drewN ?_ _) | (with_reducible refine Kd.C_drew ?_))); (case side2 => exact (Kd.V_reads' HO0_2.out).2.1); rintro e w7 ⟨rfl, hb⟩; refine ⟨_, rfl, ?_⟩; replace HO0_2 := sqM (Kd.V_below (sqV HO0_2.out) hb); replace BK195 := sqM (blk_below (sqK BK195.out) hb); replace HB := sqM (below_step (sqB1 HB.out GE195.out) hb); (try clear hb); (try clear hb2); (try clear hk); (try clear hi); obtain ⟨hcz8_0, hcz8_1, hcz8_2, hfz8_0, hfz8_1, hfz8_2⟩ := sqF3 BK195.out) | ((with_reducible refine gate_callee (f := 66) rfl ?_); refine goesL_ (some 7) rfl rfl Try.func66 (by kernel_rfl) rfl #[.agg #[.int .i64 a0_0, .int .i64 a0_1, .slice A0_2 l0_2.length c0_2]] rfl sqA ?_; (with_reducible refine (conf_spots.calls _ _ _ (fun k_ => ((P0_2_ k_ ∨ w.heap.size ≤ k_) ∧ k_ ≠ gb195)) _ _ _ _ _ ?side1 A4.out).mono ?_); (case side1 => exact HO0_2.out); rintro e w9 ⟨v198, rfl, ho0, hb⟩; refine ⟨_, rfl, ?_⟩; have HO199 := sqM (Kd.N_lower (Kd.N_mono (ok' := fun k_ => (P0_2_ k_ ∨ w.heap.size ≤ k_) ∧ k_ ≠ gb195) ho0 (fun k_ hk_ => ⟨Or.elim hk_ (fun hs_ => hs_.1) (fun hn_ => (.inr (Nat.le_trans (below_size (sqB1 HB.out GE195.out)) hn_))), Or.elim hk_ (fun hs_ => hs_.2) (fun hn_ => (Kd.freshB (g := gb195) (o := .cells #[.int .i64 a0_0, .int .i64 a0_1, .slice A0_2 l0_2.length c0_2] 24 (0, 0)) (sqK BK195.out) k_ hn_))⟩)) (below_size (sqB1 HB.out GE195.out))); replace HO0_2 := sqM (Kd.V_elder' (sqV HO0_2.out) (Kd.N_base ho0) hb); replace BK195 := sqM (blk_below (sqK BK195.out) hb); replace HB := sqM (below_step (sqB1 HB.out GE195.out) hb); (try clear hb); (try clear hb2); (try clear hk); (try clear hi); (try clear ho0)))
 go_ret
 exact ⟨_, sqE, by refine sqN ?_; exact Kd.N_mono HO199.out (fun _ hk => hk.1), sqB1 HB.out GE195.out⟩

/-! ### conf_KeptFor: function 18 -/
mutual
def conf_KeptFor.l0 : Nat → Int → ByteArray → List (S66) → Int → Int → Option (Int × Bool)
  | 0, _, _, _, _, _ => none
  | k + 1, x1, x2, x13, x14, x15 => if x15 < x14 then (if 0 ≤ x15 then (if x15 < (x13.length : Int) then (conf_KeptFor.l1 k x1 x2 x13 x14 x15 ((rd_T66 x13 x15).f2.f3) (((rd_T66 x13 x15).f2.f3).length : Int) 0 ((rd_T66 x13 x15).f0) ((rd_T66 x13 x15).f1) ((rd_T66 x13 x15).f2.f0) ((rd_T66 x13 x15).f2.f1) ((rd_T66 x13 x15).f2.f2) ((rd_T66 x13 x15).f2.f3) ((rd_T66 x13 x15).f2.f4) ((rd_T66 x13 x15).f2.f5) ((rd_T66 x13 x15).f2.f6)) else (none)) else (none)) else (some (0, false))
def conf_KeptFor.l1 : Nat → Int → ByteArray → List (S66) → Int → Int → List (S59) → Int → Int → Int → Int → Int → Int → List (S62) → List (S59) → Int → Int → Int → Option (Int × Bool)
  | 0, _, _, _, _, _, _, _, _, _, _, _, _, _, _, _, _, _ => none
  | k + 1, x1, x2, x13, x14, x15, x21, x22, x23, x206000, x206001, x206002, x206003, x206004, x206005, x206006, x206007, x206008 => if x23 < x22 then (if 0 ≤ x23 then (if x23 < (x21.length : Int) then (if x206000 = x1 then (if ((rd_T59 x21 x23).f0).toList = x2.toList then (some ((rd_T59 x21 x23).f1, true)) else (conf_KeptFor.l1 k x1 x2 x13 x14 x15 x21 x22 (wrap64 (x23 + 1)) x206000 x206001 x206002 x206003 x206004 x206005 x206006 x206007 x206008)) else (conf_KeptFor.l1 k x1 x2 x13 x14 x15 x21 x22 (wrap64 (x23 + 1)) x206000 x206001 x206002 x206003 x206004 x206005 x206006 x206007 x206008)) else (none)) else (none)) else (conf_KeptFor.l0 k x1 x2 x13 x14 (wrap64 (x15 + 1)))
end
def conf_KeptFor.f (k : Nat) (a0_0 : Int) (a0_1 : Int) (l0_2 : List (S41)) (a1 : Int) (a2 : ByteArray) : Option (Int × Bool) := (conf_right.f k a0_0 a0_1 l0_2).bind fun t201 => (conf_KeptFor.l0 k a1 a2 t201 (t201.length : Int) 0)
theorem conf_KeptFor.mono_l : ∀ k, (∀ y0 y1 y2 y3 y4, LeO (conf_KeptFor.l0 k y0 y1 y2 y3 y4) (conf_KeptFor.l0 (k + 1) y0 y1 y2 y3 y4)) ∧ (∀ y0 y1 y2 y3 y4 y5 y6 y7 y8 y9 y10 y11 y12 y13 y14 y15 y16, LeO (conf_KeptFor.l1 k y0 y1 y2 y3 y4 y5 y6 y7 y8 y9 y10 y11 y12 y13 y14 y15 y16) (conf_KeptFor.l1 (k + 1) y0 y1 y2 y3 y4 y5 y6 y7 y8 y9 y10 y11 y12 y13 y14 y15 y16))
  | 0 => ⟨fun _ _ _ _ _ r h => by simp [conf_KeptFor.l0] at h, fun _ _ _ _ _ _ _ _ _ _ _ _ _ _ _ _ _ r h => by simp [conf_KeptFor.l1] at h⟩
  | k + 1 => by
    obtain ⟨ih0, ih1⟩ := conf_KeptFor.mono_l k
    refine ⟨?_, ?_⟩
    · intro y0 y1 y2 y3 y4
      unfold conf_KeptFor.l0
      repeat' first
      | (with_reducible exact ih0 _ _ _ _ _)
      | (with_reducible exact ih1 _ _ _ _ _ _ _ _ _ _ _ _ _ _ _ _ _)
      | (with_reducible exact conf_right.mono _ _ _ _)
      | (with_reducible exact LeO.refl _)
      | (with_reducible exact LeO.none _)
      | (with_reducible refine LeO.ite ?_ ?_)
      | (with_reducible refine LeO.bind ?_ (fun _ => ?_))
    · intro y0 y1 y2 y3 y4 y5 y6 y7 y8 y9 y10 y11 y12 y13 y14 y15 y16
      unfold conf_KeptFor.l1
      repeat' first
      | (with_reducible exact ih0 _ _ _ _ _)
      | (with_reducible exact ih1 _ _ _ _ _ _ _ _ _ _ _ _ _ _ _ _ _)
      | (with_reducible exact conf_right.mono _ _ _ _)
      | (with_reducible exact LeO.refl _)
      | (with_reducible exact LeO.none _)
      | (with_reducible refine LeO.ite ?_ ?_)
      | (with_reducible refine LeO.bind ?_ (fun _ => ?_))
theorem conf_KeptFor.mono : ∀ a0 a1 a2 a3 a4 k, LeO (conf_KeptFor.f k a0 a1 a2 a3 a4) (conf_KeptFor.f (k + 1) a0 a1 a2 a3 a4) := by
 intro a0 a1 a2 a3 a4 k
 obtain ⟨ih0, ih1⟩ := conf_KeptFor.mono_l k
 unfold conf_KeptFor.f
 repeat' first
  | (with_reducible exact ih0 _ _ _ _ _)
  | (with_reducible exact ih1 _ _ _ _ _ _ _ _ _ _ _ _ _ _ _ _ _)
  | (with_reducible exact conf_right.mono _ _ _ _)
  | (with_reducible exact LeO.refl _)
  | (with_reducible exact LeO.none _)
  | (with_reducible refine LeO.ite ?_ ?_)
  | (with_reducible refine LeO.bind ?_ (fun _ => ?_))
set_option maxHeartbeats 8000000 in
set_option maxRecDepth 100000 in
theorem conf_KeptFor.calls (k : Nat) (a0_0 : Int) (a0_1 : Int) (A0_2 : Option Addr) (c0_2 : Nat) (l0_2 : List (S41)) (a1 : Int) (a2 : ByteArray) (r1 : Int) (r2 : Bool) (w : World) (hr0_2 : Kd.C k41 w A0_2 l0_2.length l0_2) (hc0_2 : l0_2.length ≤ c0_2) (h : conf_KeptFor.f k a0_0 a0_1 l0_2 a1 a2 = some (r1, r2)) :
    Calls Try.prog 18 #[.agg #[.int .i64 a0_0, .int .i64 a0_1, .slice A0_2 l0_2.length c0_2], .int .i64 a1, .string a2] w fun e w' => e = .returned (.tuple #[.int .i64 r1, .bool r2]) ∧ Below w.heap.size w w' := by
 have hu24 := Try.underlying24
 have hu66 := Try.underlying66
 have hu59 := Try.underlying59
 have HR0_2 := Aside0.mk hr0_2
 have HC0_2 := Aside0.mk hc0_2
 clear hr0_2 hc0_2
 have HB := Aside0.mk (Below.refl w.heap.size w)
 have H : ((conf_right.f k a0_0 a0_1 l0_2).bind fun t201 => (conf_KeptFor.l0 k a1 a2 t201 (t201.length : Int) 0)) = some (r1, r2) := h
 clear h
 replace H := Option.bind_eq_some_iff.mp H
 obtain ⟨t201, A40, H⟩ := H
 replace H : (conf_KeptFor.l0 k a1 a2 t201 (t201.length : Int) 0) = some (r1, r2) := H
 have A4 := Aside0.mk A40
 clear A40
 have H' := Aside0.mk H
 clear H
 go_enter Try.func18, Try.ntmps18
 go_wp2_with (first | ((with_reducible refine gate_dst (N := 3) rfl ?_); refine box_event rfl (N := 3) rfl (cs := #[.int .i64 a0_0, .int .i64 a0_1, .slice A0_2 l0_2.length c0_2]) (t := 24) sqs ?_; intro gb200 hg w5 hbox hb; have BK200 := sqM (hbox); have GW200 := sqM (sqZ hg (sqB HB.out)); have GE200 := sqM (sqZ hg (sqB HB.out)); replace HB := sqM (below_step (sqB HB.out) hb); clear hb hbox hg; obtain ⟨hcz6_0, hcz6_1, hcz6_2, hfz6_0, hfz6_1, hfz6_2⟩ := sqF3 BK200.out) | ((with_reducible refine gate_callee (f := 46) rfl ?_); refine goesL_ (some 13) rfl rfl Try.func46 (by kernel_rfl) rfl #[.agg #[.int .i64 a0_0, .int .i64 a0_1, .slice A0_2 l0_2.length c0_2]] rfl sqA ?_; (with_reducible refine (conf_right.calls _ _ _ (fun k_ => k_ < w.heap.size) _ _ _ _ _ ?side1 A4.out).mono ?_); (case side1 => exact Kd.V_mk HC0_2.out (Kd.F_below (Kd.C_F k41_heap HR0_2.out) (sqB1 HB.out GE200.out))); rintro e w7 ⟨v202, rfl, ho0, hb⟩; refine ⟨_, rfl, ?_⟩; have HO203 := sqM (Kd.N_lower (Kd.N_mono (ok' := fun k_ => k_ ≠ gb200) ho0 (fun k_ hk_ => Or.elim hk_ (fun hs_ => fun e_ => Nat.not_le.2 hs_ (by rw [e_]; exact GW200.out)) (fun hn_ => (Kd.freshB (g := gb200) (o := .cells #[.int .i64 a0_0, .int .i64 a0_1, .slice A0_2 l0_2.length c0_2] 24 (0, 0)) (sqK BK200.out) k_ hn_)))) (below_size (sqB1 HB.out GE200.out))); replace BK200 := sqM (blk_below (sqK BK200.out) hb); replace HB := sqM (below_step (sqB1 HB.out GE200.out) hb); (try clear hb); (try clear hb2); (try clear hk); (try clear hi); (try clear ho0); obtain ⟨Ao8, co8, eo8⟩ := Kd.N_slice HO203.out; subst eo8))
 go_loopg [15] k (fun kq v15 w' => ∃ (x15_1 : Int), v15 = .int .i64 x15_1 ∧ Aside0 (conf_KeptFor.l0 kq a1 a2 t201 (t201.length : Int) x15_1 = some (r1, r2)) ∧ Aside0 (kq ≤ k) ∧ Aside0 (Kd.N k66 66 w' w.heap.size (fun k_ => k_ ≠ gb200) (.slice Ao8 t201.length co8) t201) ∧ Aside0 (w'.heap[gb200]? = some (.cells #[.int .i64 a0_0, .int .i64 a0_1, (.slice A0_2 l0_2.length c0_2)] 24 (0, 0))) ∧ Aside0 (Below w.heap.size w w'))
 case atStart => exact ⟨(0), sqI, H', ⟨Nat.le_refl _⟩, ⟨sqN HO203.out⟩, ⟨sqK BK200.out⟩, ⟨sqB1 HB.out GE200.out⟩⟩
 clear H'
 try clear c1
 try clear p2
 try clear c4
 try clear hcz6_0 hcz6_1 hcz6_2 hfz6_0 hfz6_1 hfz6_2
 obtain ⟨x15_1, rfl, HA, HK1, HO_13, BK200, HB⟩ := hrel
 cases gk with
 | zero => exact absurd HA.out (by simp [conf_KeptFor.l0])
 | succ k1 => ?_
 have H := HA.out
 clear HA
 simp only [conf_KeptFor.l0] at H
 by_cases c9 : x15_1 < (t201.length : Int)
 rotate_left
 · rw [if_neg c9] at H
   have c9b0 : decide (x15_1 < (t201.length : Int)) = false := decide_eq_false c9
   clear c9
   simp only [Option.some.injEq, Prod.mk.injEq] at H
   obtain ⟨rfl, rfl⟩ := H
   go_wp2
   go_ret2
   exact ⟨sqE, sqB1 HB.out GE200.out⟩
 rw [if_pos c9] at H
 have c9b0 : decide (x15_1 < (t201.length : Int)) = true := decide_eq_true c9
 clear c9
 by_cases c10 : 0 ≤ x15_1
 rotate_left
 · rw [if_neg c10] at H
   exact absurd H (by simp)
 rw [if_pos c10] at H
 have c10b0 : decide (0 ≤ x15_1) = true := decide_eq_true c10
 clear c10
 by_cases c11 : x15_1 < (t201.length : Int)
 rotate_left
 · rw [if_neg c11] at H
   exact absurd H (by simp)
 rw [if_pos c11] at H
 have c11b0 : decide (x15_1 < (t201.length : Int)) = true := decide_eq_true c11
 clear c11
 have H' := Aside0.mk H
 clear H
 have p204 : 0 ≤ (x15_1 : Int) := of_decide_eq_true sqH
 have q204 : x15_1 < (t201.length : Int) := of_decide_eq_true sqH
 obtain ⟨ad204, A204_4, c204_4, A204_5, c204_5, e204, hx204_0, hx204_1, hx204_2, hx204_3, hx204_4, hx204_5, hx204_6, hx204_7, hx204_8, hl204_4, hi204_4, hl204_5, hi204_5⟩ := at_T66 (Kd.N_reads' HO_13.out).2.2 x15_1 p204 q204
 cases e204
 obtain ⟨ce204, hce204, hMe204, hcc204⟩ := Kd.N_get HO_13.out z66 x15_1 p204 (by first | exact q204 | exact of_decide_eq_true sqH | (have e_ := (Kd.N_reads' HO_13.out).1; omega))
 obtain ⟨ua204_4, uc204_4, ua204_5, uc204_5, rfl, ul204_4, ge204_4, ul204_5, ge204_5⟩ := k66_openF hMe204
 have hv204_4 := hcc204 4 _ rfl
 rw [add_field _ _ 4 (by omega)] at hv204_4
 replace hv204_4 := Option.some.inj (hv204_4.symm.trans hx204_4)
 injection hv204_4 with hva_ hvn_ hvc_
 rw [hva_] at ge204_4
 rw [hvc_] at ul204_4
 have HL204_4 := sqM (show Kd.V k62 62 _ w.heap.size _ _ ((rd_T66 t201 x15_1).f2.f2) from Kd.V_mk ul204_4 ge204_4)
 clear hva_ hvn_ hvc_ ge204_4 ul204_4
 have hv204_5 := hcc204 5 _ rfl
 rw [add_field _ _ 5 (by omega)] at hv204_5
 replace hv204_5 := Option.some.inj (hv204_5.symm.trans hx204_5)
 injection hv204_5 with hva_ hvn_ hvc_
 rw [hva_] at ge204_5
 rw [hvc_] at ul204_5
 have HL204_5 := sqM (show Kd.V k59 59 _ w.heap.size _ _ ((rd_T66 t201 x15_1).f2.f3) from Kd.V_mk ul204_5 ge204_5)
 clear hva_ hvn_ hvc_ ge204_5 ul204_5
 clear hcc204 hce204
 have HR204_4 := Aside0.mk hi204_4
 have HC204_4 := Aside0.mk hl204_4
 clear hi204_4 hl204_4
 have HR204_5 := Aside0.mk hi204_5
 have HC204_5 := Aside0.mk hl204_5
 clear hi204_5 hl204_5
 replace p204 := eq_true p204
 replace q204 := eq_true q204
 go_wp2_with (first | ((with_reducible refine gate_dst (N := 9) rfl ?_); refine box_event rfl (N := 9) rfl (cs := #[.int .i64 0, .int .i64 0, .int .i64 0, .int .i64 0, .slice none 0 0, .slice none 0 0, .int .i64 0, .int .i64 0, .int .i64 0]) (t := 66) sqs ?_; intro gb205 hg w12 hbox hb; have BK205 := sqM (hbox); have GW205 := sqM (sqZ hg (sqB1 HB.out GE200.out)); have GE205 := sqM (sqZ hg (sqB1 HB.out GE200.out)); have NB200_205 := sqM (sqL hg (sqK BK200.out)); have NB205_200 := sqM (sqG hg (sqK BK200.out)); replace HO_13 := sqM (sqNe (sqN HO_13.out) hg hb); replace HL204_4 := sqM (sqVe (sqV HL204_4.out) hg hb); replace HL204_5 := sqM (sqVe (sqV HL204_5.out) hg hb); replace BK200 := sqM (blk_below (sqK BK200.out) hb); replace HR204_4 := sqM (Kd.C_below (sqC HR204_4.out) hb); replace HR204_5 := sqM (Kd.C_below (sqC HR204_5.out) hb); replace HB := sqM (below_step (sqB1 HB.out GE200.out) hb); clear hb hbox hg; have hnb13 := NB205_200.out; have hnc13 := NB200_205.out; obtain ⟨hcz14_0, hcz14_1, hcz14_2, hcz14_3, hcz14_4, hcz14_5, hcz14_6, hcz14_7, hcz14_8, hfz14_0, hfz14_1, hfz14_2, hfz14_3, hfz14_4, hfz14_5, hfz14_6, hfz14_7, hfz14_8⟩ := sqF9 BK205.out))
 go_loopg [23] k1 (fun kq v23 w' => ∃ (x23_2 : Int), v23 = .int .i64 x23_2 ∧ Aside0 (conf_KeptFor.l1 kq a1 a2 t201 (t201.length : Int) x15_1 ((rd_T66 t201 x15_1).f2.f3) (((rd_T66 t201 x15_1).f2.f3).length : Int) x23_2 ((rd_T66 t201 x15_1).f0) ((rd_T66 t201 x15_1).f1) ((rd_T66 t201 x15_1).f2.f0) ((rd_T66 t201 x15_1).f2.f1) ((rd_T66 t201 x15_1).f2.f2) ((rd_T66 t201 x15_1).f2.f3) ((rd_T66 t201 x15_1).f2.f4) ((rd_T66 t201 x15_1).f2.f5) ((rd_T66 t201 x15_1).f2.f6) = some (r1, r2)) ∧ Aside0 (kq ≤ k1) ∧ Aside0 (Kd.N k66 66 w' w.heap.size (fun k_ => k_ ≠ gb200 ∧ k_ ≠ gb205) (.slice (some ad204) t201.length co8) t201) ∧ Aside0 (Kd.V k59 59 w' w.heap.size (fun k_ => some k_ ≠ ((.slice (some ad204) t201.length co8) : Value).ownBlock ∧ k_ ≠ gb200 ∧ k_ ≠ gb205) (.slice A204_5 ((rd_T66 t201 x15_1).f2.f3).length c204_5) ((rd_T66 t201 x15_1).f2.f3)) ∧ Aside0 (Kd.V k62 62 w' w.heap.size (fun k_ => some k_ ≠ ((.slice (some ad204) t201.length co8) : Value).ownBlock ∧ k_ ≠ gb200 ∧ k_ ≠ gb205) (.slice A204_4 ((rd_T66 t201 x15_1).f2.f2).length c204_4) ((rd_T66 t201 x15_1).f2.f2)) ∧ Aside0 (Kd.V k59 59 w' w.heap.size (fun k_ => some k_ ≠ ((.slice (some ad204) t201.length co8) : Value).ownBlock ∧ k_ ≠ gb200 ∧ k_ ≠ gb205) (.slice A204_5 ((rd_T66 t201 x15_1).f2.f3).length c204_5) ((rd_T66 t201 x15_1).f2.f3)) ∧ Aside0 (w'.heap[gb200]? = some (.cells #[.int .i64 a0_0, .int .i64 a0_1, (.slice A0_2 l0_2.length c0_2)] 24 (0, 0))) ∧ Aside0 (w'.heap[gb205]? = some (.cells #[.int .i64 ((rd_T66 t201 x15_1).f0), .int .i64 ((rd_T66 t201 x15_1).f1), .int .i64 ((rd_T66 t201 x15_1).f2.f0), .int .i64 ((rd_T66 t201 x15_1).f2.f1), (.slice A204_4 ((rd_T66 t201 x15_1).f2.f2).length c204_4), (.slice A204_5 ((rd_T66 t201 x15_1).f2.f3).length c204_5), .int .i64 ((rd_T66 t201 x15_1).f2.f4), .int .i64 ((rd_T66 t201 x15_1).f2.f5), .int .i64 ((rd_T66 t201 x15_1).f2.f6)] 66 (0, 0))) ∧ Aside0 (Below w.heap.size w w'))
 case atStart => exact ⟨(0), sqI, H', ⟨Nat.le_refl _⟩, ⟨by refine sqN ?_; exact Kd.N_mono (sqN9 (Kd.N_mono HO_13.out (fun k_ hk => (⟨hk, hk.2⟩ : _ ∧ k_ ≠ gb205))) (fun _ hk => hk.2)) (fun _ hk => ⟨hk.1.1, hk.1.2⟩)⟩, ⟨by refine sqV ?_; exact Kd.V_mono (sqV9 (Kd.V_mono HL204_5.out (fun k_ hk => (⟨hk, hk.2⟩ : _ ∧ k_ ≠ gb205))) (fun _ hk => hk.2)) (fun _ hk => ⟨hk.1.1.2, ⟨hk.1.1.1, hk.1.2⟩⟩)⟩, ⟨by refine sqV ?_; exact Kd.V_mono (sqV9 (Kd.V_mono HL204_4.out (fun k_ hk => (⟨hk, hk.2⟩ : _ ∧ k_ ≠ gb205))) (fun _ hk => hk.2)) (fun _ hk => ⟨hk.1.1.2, ⟨hk.1.1.1, hk.1.2⟩⟩)⟩, ⟨by refine sqV ?_; exact Kd.V_mono (sqV9 (Kd.V_mono HL204_5.out (fun k_ hk => (⟨hk, hk.2⟩ : _ ∧ k_ ≠ gb205))) (fun _ hk => hk.2)) (fun _ hk => ⟨hk.1.1.2, ⟨hk.1.1.1, hk.1.2⟩⟩)⟩, ⟨(sqK (sqX9 BK200.out NB200_205.out))⟩, ⟨(sqK (sqP9 BK205.out))⟩, ⟨sqB2 HB.out GE200.out GE205.out⟩⟩
 clear H'
 try clear c1
 try clear c2
 try clear p2
 try clear q2
 try clear hx2
 try clear c4
 try clear c9
 try clear c9b0
 try clear c10
 try clear c10b0
 try clear c11
 try clear c11b0
 try clear c13
 try clear hcz14_0 hcz14_1 hcz14_2 hcz14_3 hcz14_4 hcz14_5 hcz14_6 hcz14_7 hcz14_8
 try clear hcz6_0 hcz6_1 hcz6_2
 try clear hfz14_0 hfz14_1 hfz14_2 hfz14_3 hfz14_4 hfz14_5 hfz14_6 hfz14_7 hfz14_8
 try clear hfz6_0 hfz6_1 hfz6_2
 try clear hx204_0 hx204_1 hx204_2 hx204_3 hx204_4 hx204_5 hx204_6 hx204_7 hx204_8
 try clear p2
 try clear p204
 try clear q204
 obtain ⟨x23_2, rfl, HA, HK2, HO_13, HO_21, HO_206004, HO_206005, BK200, BK205, HB⟩ := hrel
 cases gk with
 | zero => exact absurd HA.out (by simp [conf_KeptFor.l1])
 | succ k2 => ?_
 have H := HA.out
 clear HA
 simp only [conf_KeptFor.l1] at H
 by_cases c15 : x23_2 < (((rd_T66 t201 x15_1).f2.f3).length : Int)
 rotate_left
 · rw [if_neg c15] at H
   have c15b0 : decide (x23_2 < (((rd_T66 t201 x15_1).f2.f3).length : Int)) = false := decide_eq_false c15
   clear c15
   have H' := Aside0.mk H
   clear H
   go_wp2
   go_roundg k2
   case measure => have := HK1.out; have := HK2.out; omega
   case rel => exact ⟨(wrap64 (x15_1 + 1)), sqI, H', ⟨by have := HK1.out; have := HK2.out; omega⟩, ⟨by refine sqN ?_; exact Kd.N_mono HO_13.out (fun _ hk => hk.1)⟩, ⟨sqK BK200.out⟩, ⟨sqB2 HB.out GE200.out GE205.out⟩⟩
 rw [if_pos c15] at H
 have c15b0 : decide (x23_2 < (((rd_T66 t201 x15_1).f2.f3).length : Int)) = true := decide_eq_true c15
 clear c15
 by_cases c16 : 0 ≤ x23_2
 rotate_left
 · rw [if_neg c16] at H
   exact absurd H (by simp)
 rw [if_pos c16] at H
 have c16b0 : decide (0 ≤ x23_2) = true := decide_eq_true c16
 clear c16
 by_cases c17 : x23_2 < (((rd_T66 t201 x15_1).f2.f3).length : Int)
 rotate_left
 · rw [if_neg c17] at H
   exact absurd H (by simp)
 rw [if_pos c17] at H
 have c17b0 : decide (x23_2 < (((rd_T66 t201 x15_1).f2.f3).length : Int)) = true := decide_eq_true c17
 clear c17
 by_cases c18 : ((rd_T66 t201 x15_1).f0) = a1
 rotate_left
 · rw [if_neg c18] at H
   have c18b0 : (((rd_T66 t201 x15_1).f0) == a1) = false := beq_eq_false_iff_ne.mpr c18
   have c18b1 : (((rd_T66 t201 x15_1).f0) != a1) = true := bne_iff_ne.mpr c18
   have H' := Aside0.mk H
   clear H
   have p206 : 0 ≤ (x23_2 : Int) := of_decide_eq_true sqH
   have q206 : x23_2 < (((rd_T66 t201 x15_1).f2.f3).length : Int) := of_decide_eq_true sqH
   obtain ⟨ad206, e206, hx206_0, hx206_1⟩ := at_T59 (Kd.V_reads' HO_21.out).2.2 x23_2 p206 q206
   cases e206
   replace p206 := eq_true p206
   replace q206 := eq_true q206
   go_wp2_with (first | ((with_reducible refine gate_dst (N := 11) rfl ?_); refine box_event rfl (N := 11) rfl (cs := #[.string (⟨#[]⟩ : ByteArray), .int .i64 0]) (t := 59) sqs ?_; intro gb207 hg w32 hbox hb; have BK207 := sqM (hbox); have GW207 := sqM (sqZ hg (sqB2 HB.out GE200.out GE205.out)); have GE207 := sqM (sqZ hg (sqB2 HB.out GE200.out GE205.out)); have NB200_207 := sqM (sqL hg (sqK BK200.out)); have NB207_200 := sqM (sqG hg (sqK BK200.out)); have NB205_207 := sqM (sqL hg (sqK BK205.out)); have NB207_205 := sqM (sqG hg (sqK BK205.out)); replace HO_13 := sqM (sqNe (sqN HO_13.out) hg hb); replace HO_21 := sqM (sqVe (sqV HO_21.out) hg hb); replace HO_206004 := sqM (sqVe (sqV HO_206004.out) hg hb); replace HO_206005 := sqM (sqVe (sqV HO_206005.out) hg hb); replace BK200 := sqM (blk_below (sqK BK200.out) hb); replace BK205 := sqM (blk_below (sqK BK205.out) hb); replace HB := sqM (below_step (sqB2 HB.out GE200.out GE205.out) hb); clear hb hbox hg; have hnb33 := NB207_200.out; have hnc33 := NB200_207.out; have hnb34 := NB207_205.out; have hnc34 := NB205_207.out; obtain ⟨hcz35_0, hcz35_1, hfz35_0, hfz35_1⟩ := sqF2 BK207.out; have hnb36 := NB205_200.out; have hnc36 := NB200_205.out; obtain ⟨hcz37_0, hcz37_1, hcz37_2, hcz37_3, hcz37_4, hcz37_5, hcz37_6, hcz37_7, hcz37_8, hfz37_0, hfz37_1, hfz37_2, hfz37_3, hfz37_4, hfz37_5, hfz37_6, hfz37_7, hfz37_8⟩ := sqF9 BK205.out))
   go_roundg k2
   case measure => have := HK1.out; have := HK2.out; omega
   case rel => exact ⟨(wrap64 (x23_2 + 1)), sqI, H', ⟨by have := HK1.out; have := HK2.out; omega⟩, ⟨by refine sqN ?_; exact Kd.N_mono (sqN2 (Kd.N_mono HO_13.out (fun k_ hk => (⟨hk, hk.2⟩ : _ ∧ k_ ≠ gb207))) (fun _ hk => hk.2)) (fun _ hk => ⟨hk.1.1.1, hk.1.1.2⟩)⟩, ⟨by refine sqV ?_; exact Kd.V_mono (sqV2 (Kd.V_mono HO_21.out (fun k_ hk => (⟨hk, hk.2⟩ : _ ∧ k_ ≠ gb207))) (fun _ hk => hk.2)) (fun _ hk => ⟨hk.1.1.1, ⟨hk.1.1.2.1, hk.1.1.2.2⟩⟩)⟩, ⟨by refine sqV ?_; exact Kd.V_mono (sqV2 (Kd.V_mono HO_206004.out (fun k_ hk => (⟨hk, hk.2⟩ : _ ∧ k_ ≠ gb207))) (fun _ hk => hk.2)) (fun _ hk => ⟨hk.1.1.1, ⟨hk.1.1.2.1, hk.1.1.2.2⟩⟩)⟩, ⟨by refine sqV ?_; exact Kd.V_mono (sqV2 (Kd.V_mono HO_206005.out (fun k_ hk => (⟨hk, hk.2⟩ : _ ∧ k_ ≠ gb207))) (fun _ hk => hk.2)) (fun _ hk => ⟨hk.1.1.1, ⟨hk.1.1.2.1, hk.1.1.2.2⟩⟩)⟩, ⟨(sqK (sqX2 BK200.out NB200_207.out))⟩, ⟨(sqK (sqX2 BK205.out NB205_207.out))⟩, ⟨sqB3 HB.out GE200.out GE205.out GE207.out⟩⟩
 rw [if_pos c18] at H
 have c18b0 : (((rd_T66 t201 x15_1).f0) == a1) = true := beq_iff_eq.mpr c18
 have c18b1 : (((rd_T66 t201 x15_1).f0) != a1) = false := bne_eq_false_iff_eq.mpr c18
 clear c18
 by_cases c19 : ((rd_T59 ((rd_T66 t201 x15_1).f2.f3) x23_2).f0).toList = a2.toList
 · rw [if_pos c19] at H
   have c19b0 : (((rd_T59 ((rd_T66 t201 x15_1).f2.f3) x23_2).f0).toList == a2.toList) = true := beq_iff_eq.mpr c19
   have c19b1 : (((rd_T59 ((rd_T66 t201 x15_1).f2.f3) x23_2).f0).toList != a2.toList) = false := bne_eq_false_iff_eq.mpr c19
   clear c19
   simp only [Option.some.injEq, Prod.mk.injEq] at H
   obtain ⟨rfl, rfl⟩ := H
   have p206 : 0 ≤ (x23_2 : Int) := of_decide_eq_true sqH
   have q206 : x23_2 < (((rd_T66 t201 x15_1).f2.f3).length : Int) := of_decide_eq_true sqH
   obtain ⟨ad206, e206, hx206_0, hx206_1⟩ := at_T59 (Kd.V_reads' HO_21.out).2.2 x23_2 p206 q206
   cases e206
   replace p206 := eq_true p206
   replace q206 := eq_true q206
   go_wp2_with (first | ((with_reducible refine gate_dst (N := 11) rfl ?_); refine box_event rfl (N := 11) rfl (cs := #[.string (⟨#[]⟩ : ByteArray), .int .i64 0]) (t := 59) sqs ?_; intro gb207 hg w20 hbox hb; have BK207 := sqM (hbox); have GW207 := sqM (sqZ hg (sqB2 HB.out GE200.out GE205.out)); have GE207 := sqM (sqZ hg (sqB2 HB.out GE200.out GE205.out)); have NB200_207 := sqM (sqL hg (sqK BK200.out)); have NB207_200 := sqM (sqG hg (sqK BK200.out)); have NB205_207 := sqM (sqL hg (sqK BK205.out)); have NB207_205 := sqM (sqG hg (sqK BK205.out)); replace HO_13 := sqM (sqNe (sqN HO_13.out) hg hb); replace HO_21 := sqM (sqVe (sqV HO_21.out) hg hb); replace HO_206004 := sqM (sqVe (sqV HO_206004.out) hg hb); replace HO_206005 := sqM (sqVe (sqV HO_206005.out) hg hb); replace BK200 := sqM (blk_below (sqK BK200.out) hb); replace BK205 := sqM (blk_below (sqK BK205.out) hb); replace HB := sqM (below_step (sqB2 HB.out GE200.out GE205.out) hb); clear hb hbox hg; have hnb21 := NB207_200.out; have hnc21 := NB200_207.out; have hnb22 := NB207_205.out; have hnc22 := NB205_207.out; obtain ⟨hcz23_0, hcz23_1, hfz23_0, hfz23_1⟩ := sqF2 BK207.out; have hnb24 := NB205_200.out; have hnc24 := NB200_205.out; obtain ⟨hcz25_0, hcz25_1, hcz25_2, hcz25_3, hcz25_4, hcz25_5, hcz25_6, hcz25_7, hcz25_8, hfz25_0, hfz25_1, hfz25_2, hfz25_3, hfz25_4, hfz25_5, hfz25_6, hfz25_7, hfz25_8⟩ := sqF9 BK205.out))
   go_ret2
   exact ⟨sqE, sqB3 HB.out GE200.out GE205.out GE207.out⟩
 rw [if_neg c19] at H
 have c19b0 : (((rd_T59 ((rd_T66 t201 x15_1).f2.f3) x23_2).f0).toList == a2.toList) = false := beq_eq_false_iff_ne.mpr c19
 have c19b1 : (((rd_T59 ((rd_T66 t201 x15_1).f2.f3) x23_2).f0).toList != a2.toList) = true := bne_iff_ne.mpr c19
 have H' := Aside0.mk H
 clear H
 have p206 : 0 ≤ (x23_2 : Int) := of_decide_eq_true sqH
 have q206 : x23_2 < (((rd_T66 t201 x15_1).f2.f3).length : Int) := of_decide_eq_true sqH
 obtain ⟨ad206, e206, hx206_0, hx206_1⟩ := at_T59 (Kd.V_reads' HO_21.out).2.2 x23_2 p206 q206
 cases e206
 replace p206 := eq_true p206
 replace q206 := eq_true q206
 go_wp2_with (first | ((with_reducible refine gate_dst (N := 11) rfl ?_); refine box_event rfl (N := 11) rfl (cs := #[.string (⟨#[]⟩ : ByteArray), .int .i64 0]) (t := 59) sqs ?_; intro gb207 hg w26 hbox hb; have BK207 := sqM (hbox); have GW207 := sqM (sqZ hg (sqB2 HB.out GE200.out GE205.out)); have GE207 := sqM (sqZ hg (sqB2 HB.out GE200.out GE205.out)); have NB200_207 := sqM (sqL hg (sqK BK200.out)); have NB207_200 := sqM (sqG hg (sqK BK200.out)); have NB205_207 := sqM (sqL hg (sqK BK205.out)); have NB207_205 := sqM (sqG hg (sqK BK205.out)); replace HO_13 := sqM (sqNe (sqN HO_13.out) hg hb); replace HO_21 := sqM (sqVe (sqV HO_21.out) hg hb); replace HO_206004 := sqM (sqVe (sqV HO_206004.out) hg hb); replace HO_206005 := sqM (sqVe (sqV HO_206005.out) hg hb); replace BK200 := sqM (blk_below (sqK BK200.out) hb); replace BK205 := sqM (blk_below (sqK BK205.out) hb); replace HB := sqM (below_step (sqB2 HB.out GE200.out GE205.out) hb); clear hb hbox hg; have hnb27 := NB207_200.out; have hnc27 := NB200_207.out; have hnb28 := NB207_205.out; have hnc28 := NB205_207.out; obtain ⟨hcz29_0, hcz29_1, hfz29_0, hfz29_1⟩ := sqF2 BK207.out; have hnb30 := NB205_200.out; have hnc30 := NB200_205.out; obtain ⟨hcz31_0, hcz31_1, hcz31_2, hcz31_3, hcz31_4, hcz31_5, hcz31_6, hcz31_7, hcz31_8, hfz31_0, hfz31_1, hfz31_2, hfz31_3, hfz31_4, hfz31_5, hfz31_6, hfz31_7, hfz31_8⟩ := sqF9 BK205.out))
 go_roundg k2
 case measure => have := HK1.out; have := HK2.out; omega
 case rel => exact ⟨(wrap64 (x23_2 + 1)), sqI, H', ⟨by have := HK1.out; have := HK2.out; omega⟩, ⟨by refine sqN ?_; exact Kd.N_mono (sqN2 (Kd.N_mono HO_13.out (fun k_ hk => (⟨hk, hk.2⟩ : _ ∧ k_ ≠ gb207))) (fun _ hk => hk.2)) (fun _ hk => ⟨hk.1.1.1, hk.1.1.2⟩)⟩, ⟨by refine sqV ?_; exact Kd.V_mono (sqV2 (Kd.V_mono HO_21.out (fun k_ hk => (⟨hk, hk.2⟩ : _ ∧ k_ ≠ gb207))) (fun _ hk => hk.2)) (fun _ hk => ⟨hk.1.1.1, ⟨hk.1.1.2.1, hk.1.1.2.2⟩⟩)⟩, ⟨by refine sqV ?_; exact Kd.V_mono (sqV2 (Kd.V_mono HO_206004.out (fun k_ hk => (⟨hk, hk.2⟩ : _ ∧ k_ ≠ gb207))) (fun _ hk => hk.2)) (fun _ hk => ⟨hk.1.1.1, ⟨hk.1.1.2.1, hk.1.1.2.2⟩⟩)⟩, ⟨by refine sqV ?_; exact Kd.V_mono (sqV2 (Kd.V_mono HO_206005.out (fun k_ hk => (⟨hk, hk.2⟩ : _ ∧ k_ ≠ gb207))) (fun _ hk => hk.2)) (fun _ hk => ⟨hk.1.1.1, ⟨hk.1.1.2.1, hk.1.1.2.2⟩⟩)⟩, ⟨(sqK (sqX2 BK200.out NB200_207.out))⟩, ⟨(sqK (sqX2 BK205.out NB205_207.out))⟩, ⟨sqB3 HB.out GE200.out GE205.out GE207.out⟩⟩

/-! ### conf_Keeper: function 20 -/
mutual
def conf_Keeper.l0 : Nat → Int → List (S66) → Int → Int → Option (ByteArray × Bool)
  | 0, _, _, _, _ => none
  | k + 1, x1, x11, x12, x13 => if x13 < x12 then (if 0 ≤ x13 then (if x13 < (x11.length : Int) then (conf_Keeper.l1 k x1 x11 x12 x13 ((rd_T66 x11 x13).f2.f3) (((rd_T66 x11 x13).f2.f3).length : Int) 0) else (none)) else (none)) else (some ((⟨#[]⟩ : ByteArray), false))
def conf_Keeper.l1 : Nat → Int → List (S66) → Int → Int → List (S59) → Int → Int → Option (ByteArray × Bool)
  | 0, _, _, _, _, _, _, _ => none
  | k + 1, x1, x11, x12, x13, x19, x20, x21 => if x21 < x20 then (if 0 ≤ x21 then (if x21 < (x19.length : Int) then (if ((rd_T59 x19 x21).f1) = x1 then (some ((rd_T59 x19 x21).f0, true)) else (conf_Keeper.l1 k x1 x11 x12 x13 x19 x20 (wrap64 (x21 + 1)))) else (none)) else (none)) else (conf_Keeper.l0 k x1 x11 x12 (wrap64 (x13 + 1)))
end
def conf_Keeper.f (k : Nat) (a0_0 : Int) (a0_1 : Int) (l0_2 : List (S41)) (a1 : Int) : Option (ByteArray × Bool) := (conf_right.f k a0_0 a0_1 l0_2).bind fun t209 => (conf_Keeper.l0 k a1 t209 (t209.length : Int) 0)
theorem conf_Keeper.mono_l : ∀ k, (∀ y0 y1 y2 y3, LeO (conf_Keeper.l0 k y0 y1 y2 y3) (conf_Keeper.l0 (k + 1) y0 y1 y2 y3)) ∧ (∀ y0 y1 y2 y3 y4 y5 y6, LeO (conf_Keeper.l1 k y0 y1 y2 y3 y4 y5 y6) (conf_Keeper.l1 (k + 1) y0 y1 y2 y3 y4 y5 y6))
  | 0 => ⟨fun _ _ _ _ r h => by simp [conf_Keeper.l0] at h, fun _ _ _ _ _ _ _ r h => by simp [conf_Keeper.l1] at h⟩
  | k + 1 => by
    obtain ⟨ih0, ih1⟩ := conf_Keeper.mono_l k
    refine ⟨?_, ?_⟩
    · intro y0 y1 y2 y3
      unfold conf_Keeper.l0
      repeat' first
      | (with_reducible exact ih0 _ _ _ _)
      | (with_reducible exact ih1 _ _ _ _ _ _ _)
      | (with_reducible exact conf_right.mono _ _ _ _)
      | (with_reducible exact LeO.refl _)
      | (with_reducible exact LeO.none _)
      | (with_reducible refine LeO.ite ?_ ?_)
      | (with_reducible refine LeO.bind ?_ (fun _ => ?_))
    · intro y0 y1 y2 y3 y4 y5 y6
      unfold conf_Keeper.l1
      repeat' first
      | (with_reducible exact ih0 _ _ _ _)
      | (with_reducible exact ih1 _ _ _ _ _ _ _)
      | (with_reducible exact conf_right.mono _ _ _ _)
      | (with_reducible exact LeO.refl _)
      | (with_reducible exact LeO.none _)
      | (with_reducible refine LeO.ite ?_ ?_)
      | (with_reducible refine LeO.bind ?_ (fun _ => ?_))
theorem conf_Keeper.mono : ∀ a0 a1 a2 a3 k, LeO (conf_Keeper.f k a0 a1 a2 a3) (conf_Keeper.f (k + 1) a0 a1 a2 a3) := by
 intro a0 a1 a2 a3 k
 obtain ⟨ih0, ih1⟩ := conf_Keeper.mono_l k
 unfold conf_Keeper.f
 repeat' first
  | (with_reducible exact ih0 _ _ _ _)
  | (with_reducible exact ih1 _ _ _ _ _ _ _)
  | (with_reducible exact conf_right.mono _ _ _ _)
  | (with_reducible exact LeO.refl _)
  | (with_reducible exact LeO.none _)
  | (with_reducible refine LeO.ite ?_ ?_)
  | (with_reducible refine LeO.bind ?_ (fun _ => ?_))
set_option maxHeartbeats 8000000 in
set_option maxRecDepth 100000 in
theorem conf_Keeper.calls (k : Nat) (a0_0 : Int) (a0_1 : Int) (A0_2 : Option Addr) (c0_2 : Nat) (l0_2 : List (S41)) (a1 : Int) (r1 : ByteArray) (r2 : Bool) (w : World) (hr0_2 : Kd.C k41 w A0_2 l0_2.length l0_2) (hc0_2 : l0_2.length ≤ c0_2) (h : conf_Keeper.f k a0_0 a0_1 l0_2 a1 = some (r1, r2)) :
    Calls Try.prog 20 #[.agg #[.int .i64 a0_0, .int .i64 a0_1, .slice A0_2 l0_2.length c0_2], .int .i64 a1] w fun e w' => e = .returned (.tuple #[.string r1, .bool r2]) ∧ Below w.heap.size w w' := by
 have hu24 := Try.underlying24
 have hu66 := Try.underlying66
 have hu59 := Try.underlying59
 have HR0_2 := Aside0.mk hr0_2
 have HC0_2 := Aside0.mk hc0_2
 clear hr0_2 hc0_2
 have HB := Aside0.mk (Below.refl w.heap.size w)
 have H : ((conf_right.f k a0_0 a0_1 l0_2).bind fun t209 => (conf_Keeper.l0 k a1 t209 (t209.length : Int) 0)) = some (r1, r2) := h
 clear h
 replace H := Option.bind_eq_some_iff.mp H
 obtain ⟨t209, A30, H⟩ := H
 replace H : (conf_Keeper.l0 k a1 t209 (t209.length : Int) 0) = some (r1, r2) := H
 have A3 := Aside0.mk A30
 clear A30
 have H' := Aside0.mk H
 clear H
 go_enter Try.func20, Try.ntmps20
 go_wp2_with (first | ((with_reducible refine gate_dst (N := 2) rfl ?_); refine box_event rfl (N := 2) rfl (cs := #[.int .i64 a0_0, .int .i64 a0_1, .slice A0_2 l0_2.length c0_2]) (t := 24) sqs ?_; intro gb208 hg w4 hbox hb; have BK208 := sqM (hbox); have GW208 := sqM (sqZ hg (sqB HB.out)); have GE208 := sqM (sqZ hg (sqB HB.out)); replace HB := sqM (below_step (sqB HB.out) hb); clear hb hbox hg; obtain ⟨hcz5_0, hcz5_1, hcz5_2, hfz5_0, hfz5_1, hfz5_2⟩ := sqF3 BK208.out) | ((with_reducible refine gate_callee (f := 46) rfl ?_); refine goesL_ (some 11) rfl rfl Try.func46 (by kernel_rfl) rfl #[.agg #[.int .i64 a0_0, .int .i64 a0_1, .slice A0_2 l0_2.length c0_2]] rfl sqA ?_; (with_reducible refine (conf_right.calls _ _ _ (fun k_ => k_ < w.heap.size) _ _ _ _ _ ?side1 A3.out).mono ?_); (case side1 => exact Kd.V_mk HC0_2.out (Kd.F_below (Kd.C_F k41_heap HR0_2.out) (sqB1 HB.out GE208.out))); rintro e w6 ⟨v210, rfl, ho0, hb⟩; refine ⟨_, rfl, ?_⟩; have HO211 := sqM (Kd.N_lower (Kd.N_mono (ok' := fun k_ => k_ ≠ gb208) ho0 (fun k_ hk_ => Or.elim hk_ (fun hs_ => fun e_ => Nat.not_le.2 hs_ (by rw [e_]; exact GW208.out)) (fun hn_ => (Kd.freshB (g := gb208) (o := .cells #[.int .i64 a0_0, .int .i64 a0_1, .slice A0_2 l0_2.length c0_2] 24 (0, 0)) (sqK BK208.out) k_ hn_)))) (below_size (sqB1 HB.out GE208.out))); replace BK208 := sqM (blk_below (sqK BK208.out) hb); replace HB := sqM (below_step (sqB1 HB.out GE208.out) hb); (try clear hb); (try clear hb2); (try clear hk); (try clear hi); (try clear ho0); obtain ⟨Ao7, co7, eo7⟩ := Kd.N_slice HO211.out; subst eo7))
 go_loopg [13] k (fun kq v13 w' => ∃ (x13_1 : Int), v13 = .int .i64 x13_1 ∧ Aside0 (conf_Keeper.l0 kq a1 t209 (t209.length : Int) x13_1 = some (r1, r2)) ∧ Aside0 (kq ≤ k) ∧ Aside0 (Kd.N k66 66 w' w.heap.size (fun k_ => k_ ≠ gb208) (.slice Ao7 t209.length co7) t209) ∧ Aside0 (w'.heap[gb208]? = some (.cells #[.int .i64 a0_0, .int .i64 a0_1, (.slice A0_2 l0_2.length c0_2)] 24 (0, 0))) ∧ Aside0 (Below w.heap.size w w'))
 case atStart => exact ⟨(0), sqI, H', ⟨Nat.le_refl _⟩, ⟨sqN HO211.out⟩, ⟨sqK BK208.out⟩, ⟨sqB1 HB.out GE208.out⟩⟩
 clear H'
 try clear c2
 try clear p2
 try clear c4
 try clear hcz5_0 hcz5_1 hcz5_2 hfz5_0 hfz5_1 hfz5_2
 obtain ⟨x13_1, rfl, HA, HK1, HO_11, BK208, HB⟩ := hrel
 cases gk with
 | zero => exact absurd HA.out (by simp [conf_Keeper.l0])
 | succ k1 => ?_
 have H := HA.out
 clear HA
 simp only [conf_Keeper.l0] at H
 by_cases c8 : x13_1 < (t209.length : Int)
 rotate_left
 · rw [if_neg c8] at H
   have c8b0 : decide (x13_1 < (t209.length : Int)) = false := decide_eq_false c8
   clear c8
   simp only [Option.some.injEq, Prod.mk.injEq] at H
   obtain ⟨rfl, rfl⟩ := H
   go_wp2
   go_ret2
   exact ⟨sqE, sqB1 HB.out GE208.out⟩
 rw [if_pos c8] at H
 have c8b0 : decide (x13_1 < (t209.length : Int)) = true := decide_eq_true c8
 clear c8
 by_cases c9 : 0 ≤ x13_1
 rotate_left
 · rw [if_neg c9] at H
   exact absurd H (by simp)
 rw [if_pos c9] at H
 have c9b0 : decide (0 ≤ x13_1) = true := decide_eq_true c9
 clear c9
 by_cases c10 : x13_1 < (t209.length : Int)
 rotate_left
 · rw [if_neg c10] at H
   exact absurd H (by simp)
 rw [if_pos c10] at H
 have c10b0 : decide (x13_1 < (t209.length : Int)) = true := decide_eq_true c10
 clear c10
 have H' := Aside0.mk H
 clear H
 have p212 : 0 ≤ (x13_1 : Int) := of_decide_eq_true sqH
 have q212 : x13_1 < (t209.length : Int) := of_decide_eq_true sqH
 obtain ⟨ad212, A212_4, c212_4, A212_5, c212_5, e212, hx212_0, hx212_1, hx212_2, hx212_3, hx212_4, hx212_5, hx212_6, hx212_7, hx212_8, hl212_4, hi212_4, hl212_5, hi212_5⟩ := at_T66 (Kd.N_reads' HO_11.out).2.2 x13_1 p212 q212
 cases e212
 obtain ⟨ce212, hce212, hMe212, hcc212⟩ := Kd.N_get HO_11.out z66 x13_1 p212 (by first | exact q212 | exact of_decide_eq_true sqH | (have e_ := (Kd.N_reads' HO_11.out).1; omega))
 obtain ⟨ua212_4, uc212_4, ua212_5, uc212_5, rfl, ul212_4, ge212_4, ul212_5, ge212_5⟩ := k66_openF hMe212
 have hv212_4 := hcc212 4 _ rfl
 rw [add_field _ _ 4 (by omega)] at hv212_4
 replace hv212_4 := Option.some.inj (hv212_4.symm.trans hx212_4)
 injection hv212_4 with hva_ hvn_ hvc_
 rw [hva_] at ge212_4
 rw [hvc_] at ul212_4
 have HL212_4 := sqM (show Kd.V k62 62 _ w.heap.size _ _ ((rd_T66 t209 x13_1).f2.f2) from Kd.V_mk ul212_4 ge212_4)
 clear hva_ hvn_ hvc_ ge212_4 ul212_4
 have hv212_5 := hcc212 5 _ rfl
 rw [add_field _ _ 5 (by omega)] at hv212_5
 replace hv212_5 := Option.some.inj (hv212_5.symm.trans hx212_5)
 injection hv212_5 with hva_ hvn_ hvc_
 rw [hva_] at ge212_5
 rw [hvc_] at ul212_5
 have HL212_5 := sqM (show Kd.V k59 59 _ w.heap.size _ _ ((rd_T66 t209 x13_1).f2.f3) from Kd.V_mk ul212_5 ge212_5)
 clear hva_ hvn_ hvc_ ge212_5 ul212_5
 clear hcc212 hce212
 have HR212_4 := Aside0.mk hi212_4
 have HC212_4 := Aside0.mk hl212_4
 clear hi212_4 hl212_4
 have HR212_5 := Aside0.mk hi212_5
 have HC212_5 := Aside0.mk hl212_5
 clear hi212_5 hl212_5
 replace p212 := eq_true p212
 replace q212 := eq_true q212
 go_wp2_with (first | ((with_reducible refine gate_dst (N := 7) rfl ?_); refine box_event rfl (N := 7) rfl (cs := #[.int .i64 0, .int .i64 0, .int .i64 0, .int .i64 0, .slice none 0 0, .slice none 0 0, .int .i64 0, .int .i64 0, .int .i64 0]) (t := 66) sqs ?_; intro gb213 hg w11 hbox hb; have BK213 := sqM (hbox); have GW213 := sqM (sqZ hg (sqB1 HB.out GE208.out)); have GE213 := sqM (sqZ hg (sqB1 HB.out GE208.out)); have NB208_213 := sqM (sqL hg (sqK BK208.out)); have NB213_208 := sqM (sqG hg (sqK BK208.out)); replace HO_11 := sqM (sqNe (sqN HO_11.out) hg hb); replace HL212_4 := sqM (sqVe (sqV HL212_4.out) hg hb); replace HL212_5 := sqM (sqVe (sqV HL212_5.out) hg hb); replace BK208 := sqM (blk_below (sqK BK208.out) hb); replace HR212_4 := sqM (Kd.C_below (sqC HR212_4.out) hb); replace HR212_5 := sqM (Kd.C_below (sqC HR212_5.out) hb); replace HB := sqM (below_step (sqB1 HB.out GE208.out) hb); clear hb hbox hg; have hnb12 := NB213_208.out; have hnc12 := NB208_213.out; obtain ⟨hcz13_0, hcz13_1, hcz13_2, hcz13_3, hcz13_4, hcz13_5, hcz13_6, hcz13_7, hcz13_8, hfz13_0, hfz13_1, hfz13_2, hfz13_3, hfz13_4, hfz13_5, hfz13_6, hfz13_7, hfz13_8⟩ := sqF9 BK213.out))
 go_loopg [21] k1 (fun kq v21 w' => ∃ (x21_2 : Int), v21 = .int .i64 x21_2 ∧ Aside0 (conf_Keeper.l1 kq a1 t209 (t209.length : Int) x13_1 ((rd_T66 t209 x13_1).f2.f3) (((rd_T66 t209 x13_1).f2.f3).length : Int) x21_2 = some (r1, r2)) ∧ Aside0 (kq ≤ k1) ∧ Aside0 (Kd.N k66 66 w' w.heap.size (fun k_ => k_ ≠ gb208 ∧ k_ ≠ gb213) (.slice (some ad212) t209.length co7) t209) ∧ Aside0 (Kd.V k59 59 w' w.heap.size (fun k_ => some k_ ≠ ((.slice (some ad212) t209.length co7) : Value).ownBlock ∧ k_ ≠ gb208 ∧ k_ ≠ gb213) (.slice A212_5 ((rd_T66 t209 x13_1).f2.f3).length c212_5) ((rd_T66 t209 x13_1).f2.f3)) ∧ Aside0 (Kd.V k62 62 w' w.heap.size (fun k_ => some k_ ≠ ((.slice (some ad212) t209.length co7) : Value).ownBlock ∧ k_ ≠ gb208 ∧ k_ ≠ gb213) (.slice A212_4 ((rd_T66 t209 x13_1).f2.f2).length c212_4) ((rd_T66 t209 x13_1).f2.f2)) ∧ Aside0 (Kd.V k59 59 w' w.heap.size (fun k_ => some k_ ≠ ((.slice (some ad212) t209.length co7) : Value).ownBlock ∧ k_ ≠ gb208 ∧ k_ ≠ gb213) (.slice A212_5 ((rd_T66 t209 x13_1).f2.f3).length c212_5) ((rd_T66 t209 x13_1).f2.f3)) ∧ Aside0 (w'.heap[gb208]? = some (.cells #[.int .i64 a0_0, .int .i64 a0_1, (.slice A0_2 l0_2.length c0_2)] 24 (0, 0))) ∧ Aside0 (w'.heap[gb213]? = some (.cells #[.int .i64 ((rd_T66 t209 x13_1).f0), .int .i64 ((rd_T66 t209 x13_1).f1), .int .i64 ((rd_T66 t209 x13_1).f2.f0), .int .i64 ((rd_T66 t209 x13_1).f2.f1), (.slice A212_4 ((rd_T66 t209 x13_1).f2.f2).length c212_4), (.slice A212_5 ((rd_T66 t209 x13_1).f2.f3).length c212_5), .int .i64 ((rd_T66 t209 x13_1).f2.f4), .int .i64 ((rd_T66 t209 x13_1).f2.f5), .int .i64 ((rd_T66 t209 x13_1).f2.f6)] 66 (0, 0))) ∧ Aside0 (Below w.heap.size w w'))
 case atStart => exact ⟨(0), sqI, H', ⟨Nat.le_refl _⟩, ⟨by refine sqN ?_; exact Kd.N_mono (sqN9 (Kd.N_mono HO_11.out (fun k_ hk => (⟨hk, hk.2⟩ : _ ∧ k_ ≠ gb213))) (fun _ hk => hk.2)) (fun _ hk => ⟨hk.1.1, hk.1.2⟩)⟩, ⟨by refine sqV ?_; exact Kd.V_mono (sqV9 (Kd.V_mono HL212_5.out (fun k_ hk => (⟨hk, hk.2⟩ : _ ∧ k_ ≠ gb213))) (fun _ hk => hk.2)) (fun _ hk => ⟨hk.1.1.2, ⟨hk.1.1.1, hk.1.2⟩⟩)⟩, ⟨by refine sqV ?_; exact Kd.V_mono (sqV9 (Kd.V_mono HL212_4.out (fun k_ hk => (⟨hk, hk.2⟩ : _ ∧ k_ ≠ gb213))) (fun _ hk => hk.2)) (fun _ hk => ⟨hk.1.1.2, ⟨hk.1.1.1, hk.1.2⟩⟩)⟩, ⟨by refine sqV ?_; exact Kd.V_mono (sqV9 (Kd.V_mono HL212_5.out (fun k_ hk => (⟨hk, hk.2⟩ : _ ∧ k_ ≠ gb213))) (fun _ hk => hk.2)) (fun _ hk => ⟨hk.1.1.2, ⟨hk.1.1.1, hk.1.2⟩⟩)⟩, ⟨(sqK (sqX9 BK208.out NB208_213.out))⟩, ⟨(sqK (sqP9 BK213.out))⟩, ⟨sqB2 HB.out GE208.out GE213.out⟩⟩
 clear H'
 try clear c1
 try clear c2
 try clear p2
 try clear q2
 try clear hx2
 try clear c4
 try clear c8
 try clear c8b0
 try clear c9
 try clear c9b0
 try clear c10
 try clear c10b0
 try clear c12
 try clear hcz13_0 hcz13_1 hcz13_2 hcz13_3 hcz13_4 hcz13_5 hcz13_6 hcz13_7 hcz13_8
 try clear hcz5_0 hcz5_1 hcz5_2
 try clear hfz13_0 hfz13_1 hfz13_2 hfz13_3 hfz13_4 hfz13_5 hfz13_6 hfz13_7 hfz13_8
 try clear hfz5_0 hfz5_1 hfz5_2
 try clear hx212_0 hx212_1 hx212_2 hx212_3 hx212_4 hx212_5 hx212_6 hx212_7 hx212_8
 try clear p2
 try clear p212
 try clear q212
 obtain ⟨x21_2, rfl, HA, HK2, HO_11, HO_19, HO_214004, HO_214005, BK208, BK213, HB⟩ := hrel
 cases gk with
 | zero => exact absurd HA.out (by simp [conf_Keeper.l1])
 | succ k2 => ?_
 have H := HA.out
 clear HA
 simp only [conf_Keeper.l1] at H
 by_cases c14 : x21_2 < (((rd_T66 t209 x13_1).f2.f3).length : Int)
 rotate_left
 · rw [if_neg c14] at H
   have c14b0 : decide (x21_2 < (((rd_T66 t209 x13_1).f2.f3).length : Int)) = false := decide_eq_false c14
   clear c14
   have H' := Aside0.mk H
   clear H
   go_wp2
   go_roundg k2
   case measure => have := HK1.out; have := HK2.out; omega
   case rel => exact ⟨(wrap64 (x13_1 + 1)), sqI, H', ⟨by have := HK1.out; have := HK2.out; omega⟩, ⟨by refine sqN ?_; exact Kd.N_mono HO_11.out (fun _ hk => hk.1)⟩, ⟨sqK BK208.out⟩, ⟨sqB2 HB.out GE208.out GE213.out⟩⟩
 rw [if_pos c14] at H
 have c14b0 : decide (x21_2 < (((rd_T66 t209 x13_1).f2.f3).length : Int)) = true := decide_eq_true c14
 clear c14
 by_cases c15 : 0 ≤ x21_2
 rotate_left
 · rw [if_neg c15] at H
   exact absurd H (by simp)
 rw [if_pos c15] at H
 have c15b0 : decide (0 ≤ x21_2) = true := decide_eq_true c15
 clear c15
 by_cases c16 : x21_2 < (((rd_T66 t209 x13_1).f2.f3).length : Int)
 rotate_left
 · rw [if_neg c16] at H
   exact absurd H (by simp)
 rw [if_pos c16] at H
 have c16b0 : decide (x21_2 < (((rd_T66 t209 x13_1).f2.f3).length : Int)) = true := decide_eq_true c16
 clear c16
 by_cases c17 : ((rd_T59 ((rd_T66 t209 x13_1).f2.f3) x21_2).f1) = a1
 · rw [if_pos c17] at H
   have c17b0 : (((rd_T59 ((rd_T66 t209 x13_1).f2.f3) x21_2).f1) == a1) = true := beq_iff_eq.mpr c17
   have c17b1 : (((rd_T59 ((rd_T66 t209 x13_1).f2.f3) x21_2).f1) != a1) = false := bne_eq_false_iff_eq.mpr c17
   clear c17
   simp only [Option.some.injEq, Prod.mk.injEq] at H
   obtain ⟨rfl, rfl⟩ := H
   have p214 : 0 ≤ (x21_2 : Int) := of_decide_eq_true sqH
   have q214 : x21_2 < (((rd_T66 t209 x13_1).f2.f3).length : Int) := of_decide_eq_true sqH
   obtain ⟨ad214, e214, hx214_0, hx214_1⟩ := at_T59 (Kd.V_reads' HO_19.out).2.2 x21_2 p214 q214
   cases e214
   replace p214 := eq_true p214
   replace q214 := eq_true q214
   go_wp2_with (first | ((with_reducible refine gate_dst (N := 9) rfl ?_); refine box_event rfl (N := 9) rfl (cs := #[.string (⟨#[]⟩ : ByteArray), .int .i64 0]) (t := 59) sqs ?_; intro gb215 hg w18 hbox hb; have BK215 := sqM (hbox); have GW215 := sqM (sqZ hg (sqB2 HB.out GE208.out GE213.out)); have GE215 := sqM (sqZ hg (sqB2 HB.out GE208.out GE213.out)); have NB208_215 := sqM (sqL hg (sqK BK208.out)); have NB215_208 := sqM (sqG hg (sqK BK208.out)); have NB213_215 := sqM (sqL hg (sqK BK213.out)); have NB215_213 := sqM (sqG hg (sqK BK213.out)); replace HO_11 := sqM (sqNe (sqN HO_11.out) hg hb); replace HO_19 := sqM (sqVe (sqV HO_19.out) hg hb); replace HO_214004 := sqM (sqVe (sqV HO_214004.out) hg hb); replace HO_214005 := sqM (sqVe (sqV HO_214005.out) hg hb); replace BK208 := sqM (blk_below (sqK BK208.out) hb); replace BK213 := sqM (blk_below (sqK BK213.out) hb); replace HB := sqM (below_step (sqB2 HB.out GE208.out GE213.out) hb); clear hb hbox hg; have hnb19 := NB215_208.out; have hnc19 := NB208_215.out; have hnb20 := NB215_213.out; have hnc20 := NB213_215.out; obtain ⟨hcz21_0, hcz21_1, hfz21_0, hfz21_1⟩ := sqF2 BK215.out))
   go_ret2
   exact ⟨sqE, sqB3 HB.out GE208.out GE213.out GE215.out⟩
 rw [if_neg c17] at H
 have c17b0 : (((rd_T59 ((rd_T66 t209 x13_1).f2.f3) x21_2).f1) == a1) = false := beq_eq_false_iff_ne.mpr c17
 have c17b1 : (((rd_T59 ((rd_T66 t209 x13_1).f2.f3) x21_2).f1) != a1) = true := bne_iff_ne.mpr c17
 have H' := Aside0.mk H
 clear H
 have p214 : 0 ≤ (x21_2 : Int) := of_decide_eq_true sqH
 have q214 : x21_2 < (((rd_T66 t209 x13_1).f2.f3).length : Int) := of_decide_eq_true sqH
 obtain ⟨ad214, e214, hx214_0, hx214_1⟩ := at_T59 (Kd.V_reads' HO_19.out).2.2 x21_2 p214 q214
 cases e214
 replace p214 := eq_true p214
 replace q214 := eq_true q214
 go_wp2_with (first | ((with_reducible refine gate_dst (N := 9) rfl ?_); refine box_event rfl (N := 9) rfl (cs := #[.string (⟨#[]⟩ : ByteArray), .int .i64 0]) (t := 59) sqs ?_; intro gb215 hg w22 hbox hb; have BK215 := sqM (hbox); have GW215 := sqM (sqZ hg (sqB2 HB.out GE208.out GE213.out)); have GE215 := sqM (sqZ hg (sqB2 HB.out GE208.out GE213.out)); have NB208_215 := sqM (sqL hg (sqK BK208.out)); have NB215_208 := sqM (sqG hg (sqK BK208.out)); have NB213_215 := sqM (sqL hg (sqK BK213.out)); have NB215_213 := sqM (sqG hg (sqK BK213.out)); replace HO_11 := sqM (sqNe (sqN HO_11.out) hg hb); replace HO_19 := sqM (sqVe (sqV HO_19.out) hg hb); replace HO_214004 := sqM (sqVe (sqV HO_214004.out) hg hb); replace HO_214005 := sqM (sqVe (sqV HO_214005.out) hg hb); replace BK208 := sqM (blk_below (sqK BK208.out) hb); replace BK213 := sqM (blk_below (sqK BK213.out) hb); replace HB := sqM (below_step (sqB2 HB.out GE208.out GE213.out) hb); clear hb hbox hg; have hnb23 := NB215_208.out; have hnc23 := NB208_215.out; have hnb24 := NB215_213.out; have hnc24 := NB213_215.out; obtain ⟨hcz25_0, hcz25_1, hfz25_0, hfz25_1⟩ := sqF2 BK215.out))
 go_roundg k2
 case measure => have := HK1.out; have := HK2.out; omega
 case rel => exact ⟨(wrap64 (x21_2 + 1)), sqI, H', ⟨by have := HK1.out; have := HK2.out; omega⟩, ⟨by refine sqN ?_; exact Kd.N_mono (sqN2 (Kd.N_mono HO_11.out (fun k_ hk => (⟨hk, hk.2⟩ : _ ∧ k_ ≠ gb215))) (fun _ hk => hk.2)) (fun _ hk => ⟨hk.1.1.1, hk.1.1.2⟩)⟩, ⟨by refine sqV ?_; exact Kd.V_mono (sqV2 (Kd.V_mono HO_19.out (fun k_ hk => (⟨hk, hk.2⟩ : _ ∧ k_ ≠ gb215))) (fun _ hk => hk.2)) (fun _ hk => ⟨hk.1.1.1, ⟨hk.1.1.2.1, hk.1.1.2.2⟩⟩)⟩, ⟨by refine sqV ?_; exact Kd.V_mono (sqV2 (Kd.V_mono HO_214004.out (fun k_ hk => (⟨hk, hk.2⟩ : _ ∧ k_ ≠ gb215))) (fun _ hk => hk.2)) (fun _ hk => ⟨hk.1.1.1, ⟨hk.1.1.2.1, hk.1.1.2.2⟩⟩)⟩, ⟨by refine sqV ?_; exact Kd.V_mono (sqV2 (Kd.V_mono HO_214005.out (fun k_ hk => (⟨hk, hk.2⟩ : _ ∧ k_ ≠ gb215))) (fun _ hk => hk.2)) (fun _ hk => ⟨hk.1.1.1, ⟨hk.1.1.2.1, hk.1.1.2.2⟩⟩)⟩, ⟨(sqK (sqX2 BK208.out NB208_215.out))⟩, ⟨(sqK (sqX2 BK213.out NB213_215.out))⟩, ⟨sqB3 HB.out GE208.out GE213.out GE215.out⟩⟩

end Go.Proofs.Ytdcabfonjmeajaa.PConf
