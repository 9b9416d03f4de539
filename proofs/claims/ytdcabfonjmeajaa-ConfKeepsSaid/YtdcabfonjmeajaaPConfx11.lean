/- Lean functions for Go functions of the given program, and proofs that the code computes them, each under its theorem's own conditions. Written by a program of this session. -/
import Derived.Test.YtdcabfonjmeajaaPConfx0
import Derived.Test.YtdcabfonjmeajaaPConfx7
import Derived.Test.YtdcabfonjmeajaaPConfx9
namespace Go.Proofs.Ytdcabfonjmeajaa.PConf
open Go.RowKit Go.Proofs.YtdcabfonjmeajaaW.PrintWords Go.Proofs.YtdcabfonjmeajaaW.PrintLast Go.Proofs.YtdcabfonjmeajaaW.PrintMore
attribute [local go_sem] max2_int min2_int max_two min_two max_three min_three max_four min_four   -- for this text's walks alone
set_option linter.unusedVariables false
set_option linter.unusedSimpArgs false

/-! ### boarderref13_Flat: function 47 -/
mutual
def boarderref13_Flat.l0 : Nat → List (S57) → List Int → Int → Int → Int → List (S41) → Option ((List (S57)) × List Int)
  | 0, _, _, _, _, _, _ => none
  | k + 1, x4, x5, x6, x282000, x282001, x282002 => if x6 < (x282002.length : Int) then (boarderref13_Flat.l1 k x4 x5 x6 0 x282000 x282001 x282002) else (some (x4, x5))
def boarderref13_Flat.l1 : Nat → List (S57) → List Int → Int → Int → Int → Int → List (S41) → Option ((List (S57)) × List Int)
  | 0, _, _, _, _, _, _, _ => none
  | k + 1, x4, x5, x6, x7, x282000, x282001, x282002 => if 0 ≤ x6 then (if x6 < (x282002.length : Int) then (if x7 < (((rd_T41 x282002 x6).f0).length : Int) then (if 0 ≤ x7 then (if x4.length < 1599289640401 then (if x5.length < 17592186044416 then (boarderref13_Flat.l1 k (x4 ++ [(⟨(rd_T57 ((rd_T41 x282002 x6).f0) x7).f0, (rd_T57 ((rd_T41 x282002 x6).f0) x7).f1, (rd_T57 ((rd_T41 x282002 x6).f0) x7).f2, (rd_T57 ((rd_T41 x282002 x6).f0) x7).f3, (rd_T57 ((rd_T41 x282002 x6).f0) x7).f4, (rd_T57 ((rd_T41 x282002 x6).f0) x7).f5, (rd_T57 ((rd_T41 x282002 x6).f0) x7).f6⟩ : S57)]) (x5 ++ [x6]) x6 (wrap64 (x7 + 1)) x282000 x282001 x282002) else (none)) else (none)) else (none)) else (boarderref13_Flat.l0 k x4 x5 (wrap64 (x6 + 1)) x282000 x282001 x282002)) else (none)) else (none)
end
def boarderref13_Flat.f (k : Nat) (a0_0 : Int) (a0_1 : Int) (l0_2 : List (S41)) : Option ((List (S57)) × List Int) := boarderref13_Flat.l0 k ([] : List (S57)) ([] : List Int) 0 a0_0 a0_1 l0_2
set_option maxHeartbeats 8000000 in
set_option maxRecDepth 100000 in
theorem boarderref13_Flat.calls (k : Nat) (a0_0 : Int) (a0_1 : Int) (P0_2_ : Nat → Prop) (A0_2 : Option Addr) (c0_2 : Nat) (l0_2 : List (S41)) (r1 : List (S57)) (r2 : List Int) (w : World) (hs0_2 : Kd.V k41 41 w w.heap.size (fun k_ => P0_2_ k_) (.slice A0_2 l0_2.length c0_2) l0_2) (h : boarderref13_Flat.f k a0_0 a0_1 l0_2 = some (r1, r2)) :
    Calls Try.prog 47 #[.agg #[.int .i64 a0_0, .int .i64 a0_1, .slice A0_2 l0_2.length c0_2]] w fun e w' => ∃ v0_ v1_ : Value, e = .returned (.tuple #[v0_, v1_]) ∧ Kd.N k57 57 w' w.heap.size (fun k_ => (P0_2_ k_ ∨ w.heap.size ≤ k_) ∧ some k_ ≠ (v1_ : Value).ownBlock) v0_ r1 ∧ Kd.R (Kd.int .i64) 3 w' w.heap.size (fun k_ => (w.heap.size ≤ k_)) v1_ r2 ∧ Below w.heap.size w w' := by
 have hu24 := Try.underlying24
 have hu57 := Try.underlying57
 have HO0_2 := sqM (show Kd.V k41 41 w w.heap.size (fun k_ => (P0_2_ k_ ∨ w.heap.size ≤ k_)) (.slice A0_2 l0_2.length c0_2) l0_2 from Kd.V_mono hs0_2 (fun k_ hk => .inl hk))
 have HB := Aside0.mk (Below.refl w.heap.size w)
 have H : (boarderref13_Flat.l0 k ([] : List (S57)) ([] : List Int) 0 a0_0 a0_1 l0_2) = some (r1, r2) := h
 clear h
 have H' := Aside0.mk H
 clear H
 go_enter Try.func47, Try.ntmps47
 go_wp2_with (first | ((with_reducible refine gate_dst (N := 1) rfl ?_); refine box_event rfl (N := 1) rfl (cs := #[.int .i64 a0_0, .int .i64 a0_1, .slice A0_2 l0_2.length c0_2]) (t := 24) sqs ?_; intro gb281 hg w2 hbox hb; have BK281 := sqM (hbox); have GW281 := sqM (sqZ hg (sqB HB.out)); have GE281 := sqM (sqZ hg (sqB HB.out)); replace HO0_2 := sqM (sqVe (sqV HO0_2.out) hg hb); replace HB := sqM (below_step (sqB HB.out) hb); clear hb hbox hg))
 go_loopg [4, 5, 6] k (fun kq v4 v5 v6 w' => ∃ (x4_1 : List (S57)) (x5_1 : List Int) (x6_1 : Int), v6 = .int .i64 x6_1 ∧ Aside0 (boarderref13_Flat.l0 kq x4_1 x5_1 x6_1 a0_0 a0_1 l0_2 = some (r1, r2)) ∧ Aside0 (kq ≤ k) ∧ Aside0 (Kd.N k57 57 w' w.heap.size (fun k_ => (P0_2_ k_ ∨ w.heap.size ≤ k_) ∧ some k_ ≠ (v5 : Value).ownBlock ∧ k_ ≠ gb281) v4 x4_1) ∧ Aside0 (Kd.R (Kd.int .i64) 3 w' w.heap.size (fun k_ => (w.heap.size ≤ k_)) v5 x5_1) ∧ Aside0 (Kd.V k41 41 w' w.heap.size (fun k_ => (P0_2_ k_ ∨ w.heap.size ≤ k_) ∧ some k_ ≠ (v4 : Value).ownBlock ∧ some k_ ≠ (v5 : Value).ownBlock ∧ k_ ≠ gb281) (.slice A0_2 l0_2.length c0_2) l0_2) ∧ Aside0 (w'.heap[gb281]? = some (.cells #[.int .i64 a0_0, .int .i64 a0_1, (.slice A0_2 l0_2.length c0_2)] 24 (0, 0))) ∧ Aside0 (Below w.heap.size w w'))
 case atStart => exact ⟨(([] : List (S57))), (([] : List Int)), (0), sqI, H', ⟨Nat.le_refl _⟩, ⟨by first | exact Kd.S_nil _ _ _ _ _ | exact Kd.N_nil _ _ _ _ _ | exact Kd.V_nil _ _ _ _ _ | exact Kd.Q_nil _ _ _ _ _ | exact Kd.R_nil _ _ _ _ _⟩, ⟨by first | exact Kd.R_nil _ _ _ _ _ | exact Kd.N_nil _ _ _ _ _ | exact Kd.V_nil _ _ _ _ _ | exact Kd.Q_nil _ _ _ _ _ | exact Kd.S_nil _ _ _ _ _⟩, ⟨by refine sqV ?_; exact Kd.V_mono HO0_2.out (fun _ hk => ⟨hk.1, ⟨(by simp [Value.ownBlock]), ⟨(by simp [Value.ownBlock]), hk.2⟩⟩⟩)⟩, ⟨sqK BK281.out⟩, ⟨sqB1 HB.out GE281.out⟩⟩
 clear H'
 try clear p2
 obtain ⟨x4_1, x5_1, x6_1, rfl, HA, HK1, HO_4, HO_5, HO_282002, BK281, HB⟩ := hrel
 cases gk with
 | zero => exact absurd HA.out (by simp [boarderref13_Flat.l0])
 | succ k1 => ?_
 have H := HA.out
 clear HA
 simp only [boarderref13_Flat.l0] at H
 by_cases c3 : x6_1 < (l0_2.length : Int)
 rotate_left
 · rw [if_neg c3] at H
   have c3b0 : decide (x6_1 < (l0_2.length : Int)) = false := decide_eq_false c3
   clear c3
   simp only [Option.some.injEq, Prod.mk.injEq] at H
   obtain ⟨rfl, rfl⟩ := H
   obtain ⟨hcz15_0, hcz15_1, hcz15_2, hfz15_0, hfz15_1, hfz15_2⟩ := sqF3 BK281.out
   go_wp2
   go_ret2
   exact ⟨_, _, sqE, by refine sqN ?_; exact Kd.N_mono HO_4.out (fun _ hk => ⟨hk.1, hk.2.1⟩), by refine sqR ?_; exact HO_5.out, sqB1 HB.out GE281.out⟩
 rw [if_pos c3] at H
 have c3b0 : decide (x6_1 < (l0_2.length : Int)) = true := decide_eq_true c3
 clear c3
 have H' := Aside0.mk H
 clear H
 obtain ⟨hcz4_0, hcz4_1, hcz4_2, hfz4_0, hfz4_1, hfz4_2⟩ := sqF3 BK281.out
 go_wp2
 go_loopg [4, 5, 7] k1 (fun kq v4 v5 v7 w' => ∃ (x4_2 : List (S57)) (x5_2 : List Int) (x7_2 : Int), v7 = .int .i64 x7_2 ∧ Aside0 (boarderref13_Flat.l1 kq x4_2 x5_2 x6_1 x7_2 a0_0 a0_1 l0_2 = some (r1, r2)) ∧ Aside0 (kq ≤ k1) ∧ Aside0 (Kd.N k57 57 w' w.heap.size (fun k_ => (P0_2_ k_ ∨ w.heap.size ≤ k_) ∧ some k_ ≠ (v5 : Value).ownBlock ∧ k_ ≠ gb281) v4 x4_2) ∧ Aside0 (Kd.R (Kd.int .i64) 3 w' w.heap.size (fun k_ => (w.heap.size ≤ k_)) v5 x5_2) ∧ Aside0 (Kd.V k41 41 w' w.heap.size (fun k_ => (P0_2_ k_ ∨ w.heap.size ≤ k_) ∧ some k_ ≠ (v4 : Value).ownBlock ∧ some k_ ≠ (v5 : Value).ownBlock ∧ k_ ≠ gb281) (.slice A0_2 l0_2.length c0_2) l0_2) ∧ Aside0 (w'.heap[gb281]? = some (.cells #[.int .i64 a0_0, .int .i64 a0_1, (.slice A0_2 l0_2.length c0_2)] 24 (0, 0))) ∧ Aside0 (Below w.heap.size w w'))
 case atStart => exact ⟨(x4_1), (x5_1), (0), sqI, H', ⟨Nat.le_refl _⟩, ⟨sqN HO_4.out⟩, ⟨sqR HO_5.out⟩, ⟨sqV HO_282002.out⟩, ⟨sqK BK281.out⟩, ⟨sqB1 HB.out GE281.out⟩⟩
 clear H'
 try clear p2
 try clear c3
 try clear c3b0
 try clear c4
 try clear hcz4_0 hcz4_1 hcz4_2 hfz4_0 hfz4_1 hfz4_2
 try clear p2
 obtain ⟨x4_2, x5_2, x7_2, rfl, HA, HK2, HO_4, HO_5, HO_282002, BK281, HB⟩ := hrel
 cases gk with
 | zero => exact absurd HA.out (by simp [boarderref13_Flat.l1])
 | succ k2 => ?_
 have H := HA.out
 clear HA
 simp only [boarderref13_Flat.l1] at H
 by_cases c5 : 0 ≤ x6_1
 rotate_left
 · rw [if_neg c5] at H
   exact absurd H (by simp)
 rw [if_pos c5] at H
 have c5b0 : decide (0 ≤ x6_1) = true := decide_eq_true c5
 clear c5
 by_cases c6 : x6_1 < (l0_2.length : Int)
 rotate_left
 · rw [if_neg c6] at H
   exact absurd H (by simp)
 rw [if_pos c6] at H
 have c6b0 : decide (x6_1 < (l0_2.length : Int)) = true := decide_eq_true c6
 clear c6
 by_cases c7 : x7_2 < (((rd_T41 l0_2 x6_1).f0).length : Int)
 rotate_left
 · rw [if_neg c7] at H
   have c7b0 : decide (x7_2 < (((rd_T41 l0_2 x6_1).f0).length : Int)) = false := decide_eq_false c7
   clear c7
   have H' := Aside0.mk H
   clear H
   obtain ⟨hcz14_0, hcz14_1, hcz14_2, hfz14_0, hfz14_1, hfz14_2⟩ := sqF3 BK281.out
   have p282 : 0 ≤ (x6_1 : Int) := of_decide_eq_true sqH
   have q282 : x6_1 < (l0_2.length : Int) := of_decide_eq_true sqH
   obtain ⟨ad282, A282_0, c282_0, e282, hx282_0, hl282_0, hi282_0⟩ := at_T41 (Kd.V_reads' HO_282002.out).2.2 x6_1 p282 q282
   cases e282
   obtain ⟨ce282, hce282, hMe282, hcc282⟩ := Kd.V_get HO_282002.out z41 x6_1 p282 (by first | exact q282 | exact of_decide_eq_true sqH | (have e_ := (Kd.V_reads' HO_282002.out).1; omega))
   obtain ⟨ua282_0, uc282_0, rfl, ul282_0, ge282_0⟩ := k41_openF hMe282
   have hv282_0 := hcc282 0 _ rfl
   rw [Nat.add_zero, show (k41).sz = 1 from rfl, Nat.mul_one] at hv282_0
   replace hv282_0 := Option.some.inj (hv282_0.symm.trans hx282_0)
   injection hv282_0 with hva_ hvn_ hvc_
   rw [hva_] at ge282_0
   rw [hvc_] at ul282_0
   have HL282_0 := sqM (show Kd.V k57 57 _ w.heap.size _ _ ((rd_T41 l0_2 x6_1).f0) from Kd.V_mk ul282_0 ge282_0)
   clear hva_ hvn_ hvc_ ge282_0 ul282_0
   clear hcc282 hce282
   have HR282_0 := Aside0.mk hi282_0
   have HC282_0 := Aside0.mk hl282_0
   clear hi282_0 hl282_0
   replace p282 := eq_true p282
   replace q282 := eq_true q282
   go_wp2
   go_roundg k2
   case measure => have := HK1.out; have := HK2.out; omega
   case rel => exact ⟨(x4_2), (x5_2), (wrap64 (x6_1 + 1)), sqI, H', ⟨by have := HK1.out; have := HK2.out; omega⟩, ⟨sqN HO_4.out⟩, ⟨sqR HO_5.out⟩, ⟨sqV HO_282002.out⟩, ⟨sqK BK281.out⟩, ⟨sqB1 HB.out GE281.out⟩⟩
 rw [if_pos c7] at H
 have c7b0 : decide (x7_2 < (((rd_T41 l0_2 x6_1).f0).length : Int)) = true := decide_eq_true c7
 clear c7
 by_cases c8 : 0 ≤ x7_2
 rotate_left
 · rw [if_neg c8] at H
   exact absurd H (by simp)
 rw [if_pos c8] at H
 have c8b0 : decide (0 ≤ x7_2) = true := decide_eq_true c8
 clear c8
 by_cases c9 : x4_2.length < 1599289640401
 rotate_left
 · rw [if_neg c9] at H
   exact absurd H (by simp)
 rw [if_pos c9] at H
 have LMc9 := Aside0.mk c9
 clear c9
 obtain ⟨y285, hy285⟩ : ∃ y_ : List (S57), y_ = (x4_2 ++ [(⟨(rd_T57 ((rd_T41 l0_2 x6_1).f0) x7_2).f0, (rd_T57 ((rd_T41 l0_2 x6_1).f0) x7_2).f1, (rd_T57 ((rd_T41 l0_2 x6_1).f0) x7_2).f2, (rd_T57 ((rd_T41 l0_2 x6_1).f0) x7_2).f3, (rd_T57 ((rd_T41 l0_2 x6_1).f0) x7_2).f4, (rd_T57 ((rd_T41 l0_2 x6_1).f0) x7_2).f5, (rd_T57 ((rd_T41 l0_2 x6_1).f0) x7_2).f6⟩ : S57)]) := ⟨_, rfl⟩
 replace H : (if x5_2.length < 17592186044416 then (boarderref13_Flat.l1 k2 y285 (x5_2 ++ [x6_1]) x6_1 (wrap64 (x7_2 + 1)) a0_0 a0_1 l0_2) else (none)) = some (r1, r2) := by first | (rw [hy285]; with_reducible exact H) | (have H2_ := (Option.bind_some _ _).symm.trans H; rw [hy285]; with_reducible exact H2_) | (have H2_ := (Option.bind_some _ _).symm.trans H; with_reducible exact H2_) | with_reducible exact H | (rw [hy285]; exact H) | exact H
 have Ny285 := Aside0.mk hy285
 clear hy285
 by_cases c10 : x5_2.length < 17592186044416
 rotate_left
 · rw [if_neg c10] at H
   exact absurd H (by simp)
 rw [if_pos c10] at H
 have LMc10 := Aside0.mk c10
 clear c10
 obtain ⟨y288, hy288⟩ : ∃ y_ : List Int, y_ = (x5_2 ++ [x6_1]) := ⟨_, rfl⟩
 replace H : (boarderref13_Flat.l1 k2 y285 y288 x6_1 (wrap64 (x7_2 + 1)) a0_0 a0_1 l0_2) = some (r1, r2) := by first | (rw [hy288]; with_reducible exact H) | (have H2_ := (Option.bind_some _ _).symm.trans H; rw [hy288]; with_reducible exact H2_) | (have H2_ := (Option.bind_some _ _).symm.trans H; with_reducible exact H2_) | with_reducible exact H | (rw [hy288]; exact H) | exact H
 have Ny288 := Aside0.mk hy288
 clear hy288
 have H' := Aside0.mk H
 clear H
 obtain ⟨hcz11_0, hcz11_1, hcz11_2, hfz11_0, hfz11_1, hfz11_2⟩ := sqF3 BK281.out
 have p282 : 0 ≤ (x6_1 : Int) := of_decide_eq_true sqH
 have q282 : x6_1 < (l0_2.length : Int) := of_decide_eq_true sqH
 obtain ⟨ad282, A282_0, c282_0, e282, hx282_0, hl282_0, hi282_0⟩ := at_T41 (Kd.V_reads' HO_282002.out).2.2 x6_1 p282 q282
 cases e282
 obtain ⟨ce282, hce282, hMe282, hcc282⟩ := Kd.V_get HO_282002.out z41 x6_1 p282 (by first | exact q282 | exact of_decide_eq_true sqH | (have e_ := (Kd.V_reads' HO_282002.out).1; omega))
 obtain ⟨ua282_0, uc282_0, rfl, ul282_0, ge282_0⟩ := k41_openF hMe282
 have hv282_0 := hcc282 0 _ rfl
 rw [Nat.add_zero, show (k41).sz = 1 from rfl, Nat.mul_one] at hv282_0
 replace hv282_0 := Option.some.inj (hv282_0.symm.trans hx282_0)
 injection hv282_0 with hva_ hvn_ hvc_
 rw [hva_] at ge282_0
 rw [hvc_] at ul282_0
 have HL282_0 := sqM (show Kd.V k57 57 _ w.heap.size _ _ ((rd_T41 l0_2 x6_1).f0) from Kd.V_mk ul282_0 ge282_0)
 clear hva_ hvn_ hvc_ ge282_0 ul282_0
 clear hcc282 hce282
 have HR282_0 := Aside0.mk hi282_0
 have HC282_0 := Aside0.mk hl282_0
 clear hi282_0 hl282_0
 replace p282 := eq_true p282
 replace q282 := eq_true q282
 have p283 : 0 ≤ (x6_1 : Int) := of_decide_eq_true sqH
 have q283 : x6_1 < (l0_2.length : Int) := of_decide_eq_true sqH
 obtain ⟨ad283, A283_0, c283_0, e283, hx283_0, hl283_0, hi283_0⟩ := at_T41 (Kd.V_reads' HO_282002.out).2.2 x6_1 p283 q283
 obtain rfl : ad282 = ad283 := (by injection e283)
 obtain ⟨ce283, hce283, hMe283, hcc283⟩ := Kd.V_get HO_282002.out z41 x6_1 p283 (by first | exact q283 | exact of_decide_eq_true sqH | (have e_ := (Kd.V_reads' HO_282002.out).1; omega))
 obtain ⟨ua283_0, uc283_0, rfl, ul283_0, ge283_0⟩ := k41_openF hMe283
 have hv283_0 := hcc283 0 _ rfl
 rw [Nat.add_zero, show (k41).sz = 1 from rfl, Nat.mul_one] at hv283_0
 replace hv283_0 := Option.some.inj (hv283_0.symm.trans hx283_0)
 injection hv283_0 with hva_ hvn_ hvc_
 rw [hva_] at ge283_0
 rw [hvc_] at ul283_0
 have HL283_0 := sqM (show Kd.V k57 57 _ w.heap.size _ _ ((rd_T41 l0_2 x6_1).f0) from Kd.V_mk ul283_0 ge283_0)
 clear hva_ hvn_ hvc_ ge283_0 ul283_0
 clear hcc283 hce283
 have HR283_0 := Aside0.mk hi283_0
 have HC283_0 := Aside0.mk hl283_0
 clear hi283_0 hl283_0
 replace p283 := eq_true p283
 replace q283 := eq_true q283
 have ea_ := Option.some.inj (hx282_0.symm.trans hx283_0)
 injection ea_ with ea_ en_ ec_
 subst ea_
 subst ec_
 clear en_
 have p284 : 0 ≤ (x7_2 : Int) := of_decide_eq_true sqH
 have q284 : x7_2 < (((rd_T41 l0_2 x6_1).f0).length : Int) := of_decide_eq_true sqH
 obtain ⟨ad284, A284_2, c284_2, A284_3, c284_3, e284, hx284_0, hx284_1, hx284_2, hx284_3, hx284_4, hx284_5, hx284_6, hl284_2, hi284_2, hl284_3, hi284_3⟩ := at_T57 (sqC HR283_0.out) x7_2 p284 q284
 cases e284
 obtain ⟨ce284, hce284, hMe284, hcc284⟩ := Kd.V_get HL283_0.out z57 x7_2 p284 (by first | exact q284 | exact of_decide_eq_true sqH | (have e_ := (Kd.V_reads' HL283_0.out).1; omega))
 obtain ⟨ua284_2, uc284_2, ua284_3, uc284_3, rfl, ul284_2, ge284_2, ul284_3, ge284_3⟩ := k57_openF hMe284
 have hv284_2 := hcc284 2 _ rfl
 rw [add_field _ _ 2 (by omega)] at hv284_2
 replace hv284_2 := Option.some.inj (hv284_2.symm.trans hx284_2)
 injection hv284_2 with hva_ hvn_ hvc_
 rw [hva_] at ge284_2
 rw [hvc_] at ul284_2
 have HL284_2 := sqM (show Kd.V k62 62 _ w.heap.size _ _ ((rd_T57 ((rd_T41 l0_2 x6_1).f0) x7_2).f2) from Kd.V_mk ul284_2 ge284_2)
 clear hva_ hvn_ hvc_ ge284_2 ul284_2
 have hv284_3 := hcc284 3 _ rfl
 rw [add_field _ _ 3 (by omega)] at hv284_3
 replace hv284_3 := Option.some.inj (hv284_3.symm.trans hx284_3)
 injection hv284_3 with hva_ hvn_ hvc_
 rw [hva_] at ge284_3
 rw [hvc_] at ul284_3
 have HL284_3 := sqM (show Kd.V k59 59 _ w.heap.size _ _ ((rd_T57 ((rd_T41 l0_2 x6_1).f0) x7_2).f3) from Kd.V_mk ul284_3 ge284_3)
 clear hva_ hvn_ hvc_ ge284_3 ul284_3
 clear hcc284 hce284
 have HR284_2 := Aside0.mk hi284_2
 have HC284_2 := Aside0.mk hl284_2
 clear hi284_2 hl284_2
 have HR284_3 := Aside0.mk hi284_3
 have HC284_3 := Aside0.mk hl284_3
 clear hi284_3 hl284_3
 replace p284 := eq_true p284
 replace q284 := eq_true q284
 go_wp2_with (first | ((with_reducible refine gate_builtin (b := .append) (xs := #[.tmp 26, .tmp 36]) rfl ?_); at_builtin; refine Kd.N_append k57 (w0 := w) w.heap.size rfl (.tmp 26) (.tmp 36) 39 57 (.agg #[(.int .i64 0), (.int .i64 0), (.slice none 0 0), (.slice none 0 0), (.int .i64 0), (.int .i64 0), (.int .i64 0)]) 88 rfl Try.underlying39 info57 rfl (by decide) (by omega) u4 x4_2 (⟨(rd_T57 ((rd_T41 l0_2 x6_1).f0) x7_2).f0, (rd_T57 ((rd_T41 l0_2 x6_1).f0) x7_2).f1, (rd_T57 ((rd_T41 l0_2 x6_1).f0) x7_2).f2, (rd_T57 ((rd_T41 l0_2 x6_1).f0) x7_2).f3, (rd_T57 ((rd_T41 l0_2 x6_1).f0) x7_2).f4, (rd_T57 ((rd_T41 l0_2 x6_1).f0) x7_2).f5, (rd_T57 ((rd_T41 l0_2 x6_1).f0) x7_2).f6⟩ : S57) [.int .i64 ((rd_T57 ((rd_T41 l0_2 x6_1).f0) x7_2).f0), .int .i64 ((rd_T57 ((rd_T41 l0_2 x6_1).f0) x7_2).f1), .slice A284_2 ((rd_T57 ((rd_T41 l0_2 x6_1).f0) x7_2).f2).length c284_2, .slice A284_3 ((rd_T57 ((rd_T41 l0_2 x6_1).f0) x7_2).f3).length c284_3, .int .i64 ((rd_T57 ((rd_T41 l0_2 x6_1).f0) x7_2).f4), .int .i64 ((rd_T57 ((rd_T41 l0_2 x6_1).f0) x7_2).f5), .int .i64 ((rd_T57 ((rd_T41 l0_2 x6_1).f0) x7_2).f6)] (fun k_ => (P0_2_ k_ ∨ w.heap.size ≤ k_) ∧ some k_ ≠ (u5 : Value).ownBlock ∧ k_ ≠ gb281) (fun k_ => ((fun k_ => (P0_2_ k_ ∨ w.heap.size ≤ k_) ∧ some k_ ≠ (u5 : Value).ownBlock ∧ k_ ≠ gb281)) k_ ∧ some k_ ≠ (u4 : Value).ownBlock) rfl rfl ?aP (fun _ hk => hk) ?aF ?aO ?aB ?aS ?aL ?_; (case aP => exact (k57_mkF _ _ (⟨(rd_T57 ((rd_T41 l0_2 x6_1).f0) x7_2).f0, (rd_T57 ((rd_T41 l0_2 x6_1).f0) x7_2).f1, (rd_T57 ((rd_T41 l0_2 x6_1).f0) x7_2).f2, (rd_T57 ((rd_T41 l0_2 x6_1).f0) x7_2).f3, (rd_T57 ((rd_T41 l0_2 x6_1).f0) x7_2).f4, (rd_T57 ((rd_T41 l0_2 x6_1).f0) x7_2).f5, (rd_T57 ((rd_T41 l0_2 x6_1).f0) x7_2).f6⟩ : S57) (Kd.V_reads' (Kd.V_mono (ok' := (fun k_ => ((fun k_ => (P0_2_ k_ ∨ w.heap.size ≤ k_) ∧ some k_ ≠ (u5 : Value).ownBlock ∧ k_ ≠ gb281)) k_ ∧ some k_ ≠ (u4 : Value).ownBlock)) (HL284_2.out) (fun k_ hk => ⟨⟨hk.1, ⟨hk.2.2.1, hk.2.2.2⟩⟩, hk.2.1⟩))).2.1 (Kd.V_F (Kd.V_mono (ok' := (fun k_ => ((fun k_ => (P0_2_ k_ ∨ w.heap.size ≤ k_) ∧ some k_ ≠ (u5 : Value).ownBlock ∧ k_ ≠ gb281)) k_ ∧ some k_ ≠ (u4 : Value).ownBlock)) (HL284_2.out) (fun k_ hk => ⟨⟨hk.1, ⟨hk.2.2.1, hk.2.2.2⟩⟩, hk.2.1⟩))) (Kd.V_reads' (Kd.V_mono (ok' := (fun k_ => ((fun k_ => (P0_2_ k_ ∨ w.heap.size ≤ k_) ∧ some k_ ≠ (u5 : Value).ownBlock ∧ k_ ≠ gb281)) k_ ∧ some k_ ≠ (u4 : Value).ownBlock)) (HL284_3.out) (fun k_ hk => ⟨⟨hk.1, ⟨hk.2.2.1, hk.2.2.2⟩⟩, hk.2.1⟩))).2.1 (Kd.V_F (Kd.V_mono (ok' := (fun k_ => ((fun k_ => (P0_2_ k_ ∨ w.heap.size ≤ k_) ∧ some k_ ≠ (u5 : Value).ownBlock ∧ k_ ≠ gb281)) k_ ∧ some k_ ≠ (u4 : Value).ownBlock)) (HL284_3.out) (fun k_ hk => ⟨⟨hk.1, ⟨hk.2.2.1, hk.2.2.2⟩⟩, hk.2.1⟩))))); (case aB => exact (sqB1 HB.out GE281.out)); (case aF => exact (fun k_ hk => ⟨(.inr (Nat.le_trans (below_size (sqB1 HB.out GE281.out)) hk)), Kd.fresh' (Kd.R_lt (sqR HO_5.out)) k_ hk, Kd.freshB (g := gb281) (o := .cells #[.int .i64 a0_0, .int .i64 a0_1, .slice (some ad282) l0_2.length c0_2] 24 (0, 0)) (sqK BK281.out) k_ hk⟩)); (case aO => exact (sqN HO_4.out)); (case aS => exact (below_size (sqB1 HB.out GE281.out))); (case aL => have := LMc9.out; omega); intro v286 w12 ho hb hg hat; rw [← Ny285.out] at ho; have HO287 := sqM (ho); replace HO_5 := sqM (Kd.R_over' (sqR HO_5.out) (Kd.N_typed (sqN HO_4.out)) (by decide) hg); replace HO_282002 := sqM (Kd.V_afterv (ok := (fun k_ => (P0_2_ k_ ∨ w.heap.size ≤ k_) ∧ some k_ ≠ (u5 : Value).ownBlock ∧ k_ ≠ gb281)) (by refine sqV ?_; exact Kd.V_mono HO_282002.out (fun _ hk => ⟨⟨hk.1, ⟨hk.2.2.1, hk.2.2.2⟩⟩, hk.2.1⟩)) hg hat); replace BK281 := sqM (blk_grown (g := gb281) (o := .cells #[.int .i64 a0_0, .int .i64 a0_1, .slice (some ad282) l0_2.length c0_2] 24 (0, 0)) (sqK BK281.out) hg (Kd.N_ne HO_4.out BK281.out (by decide))); replace HL282_0 := sqM (Kd.V_afterv (ok := (fun k_ => (P0_2_ k_ ∨ w.heap.size ≤ k_) ∧ some k_ ≠ (u5 : Value).ownBlock ∧ k_ ≠ gb281)) (by refine sqV ?_; exact Kd.V_mono HL282_0.out (fun _ hk => ⟨⟨hk.1, ⟨hk.2.2.1, hk.2.2.2⟩⟩, hk.2.1⟩)) hg hat); replace HL283_0 := sqM (Kd.V_afterv (ok := (fun k_ => (P0_2_ k_ ∨ w.heap.size ≤ k_) ∧ some k_ ≠ (u5 : Value).ownBlock ∧ k_ ≠ gb281)) (by refine sqV ?_; exact Kd.V_mono HL283_0.out (fun _ hk => ⟨⟨hk.1, ⟨hk.2.2.1, hk.2.2.2⟩⟩, hk.2.1⟩)) hg hat); replace HL284_2 := sqM (Kd.V_afterv (ok := (fun k_ => (P0_2_ k_ ∨ w.heap.size ≤ k_) ∧ some k_ ≠ (u5 : Value).ownBlock ∧ k_ ≠ gb281)) (by refine sqV ?_; exact Kd.V_mono HL284_2.out (fun _ hk => ⟨⟨hk.1, ⟨hk.2.2.1, hk.2.2.2⟩⟩, hk.2.1⟩)) hg hat); replace HL284_3 := sqM (Kd.V_afterv (ok := (fun k_ => (P0_2_ k_ ∨ w.heap.size ≤ k_) ∧ some k_ ≠ (u5 : Value).ownBlock ∧ k_ ≠ gb281)) (by refine sqV ?_; exact Kd.V_mono HL284_3.out (fun _ hk => ⟨⟨hk.1, ⟨hk.2.2.1, hk.2.2.2⟩⟩, hk.2.1⟩)) hg hat); replace HB := sqM (hb); clear HO_4; clear ho hb hg hat) | ((with_reducible refine gate_builtin (b := .append) (xs := #[.tmp 38, .tmp 40]) rfl ?_); at_builtin; refine Kd.R_append (Kd.int .i64) (w0 := w) w.heap.size rfl (.tmp 38) (.tmp 40) 67 3 (.int .i64 0) 8 rfl Try.underlying67 info3 rfl (by decide) (by omega) u5 x5_2 x6_1 [.int .i64 x6_1] (fun k_ => (w.heap.size ≤ k_)) (fun _ => False) rfl rfl ?aP (fun _ hk => hk.elim) ?aF ?aO ?aB ?aS ?aL ?_; (case aP => exact rfl); (case aB => exact (sqB1 HB.out GE281.out)); (case aF => exact (fun k_ hk => (Nat.le_trans (below_size (sqB1 HB.out GE281.out)) hk))); (case aO => exact (sqR HO_5.out)); (case aS => exact (below_size (sqB1 HB.out GE281.out))); (case aL => have := LMc10.out; omega); intro v289 w13 ho hb hg hat; rw [← Ny288.out] at ho; have HO290 := sqM (ho); replace HO_282002 := sqM (Kd.V_afterv (ok := (fun k_ => (P0_2_ k_ ∨ w.heap.size ≤ k_) ∧ some k_ ≠ (v286 : Value).ownBlock ∧ k_ ≠ gb281)) (by refine sqV ?_; exact Kd.V_mono HO_282002.out (fun _ hk => ⟨⟨hk.1.1, ⟨hk.2, hk.1.2.2⟩⟩, hk.1.2.1⟩)) hg hat); replace BK281 := sqM (blk_grown (g := gb281) (o := .cells #[.int .i64 a0_0, .int .i64 a0_1, .slice (some ad282) l0_2.length c0_2] 24 (0, 0)) (sqK BK281.out) hg (Kd.R_ne HO_5.out BK281.out (by decide))); replace HL282_0 := sqM (Kd.V_afterv (ok := (fun k_ => (P0_2_ k_ ∨ w.heap.size ≤ k_) ∧ some k_ ≠ (v286 : Value).ownBlock ∧ k_ ≠ gb281)) (by refine sqV ?_; exact Kd.V_mono HL282_0.out (fun _ hk => ⟨⟨hk.1.1, ⟨hk.2, hk.1.2.2⟩⟩, hk.1.2.1⟩)) hg hat); replace HL283_0 := sqM (Kd.V_afterv (ok := (fun k_ => (P0_2_ k_ ∨ w.heap.size ≤ k_) ∧ some k_ ≠ (v286 : Value).ownBlock ∧ k_ ≠ gb281)) (by refine sqV ?_; exact Kd.V_mono HL283_0.out (fun _ hk => ⟨⟨hk.1.1, ⟨hk.2, hk.1.2.2⟩⟩, hk.1.2.1⟩)) hg hat); replace HL284_2 := sqM (Kd.V_afterv (ok := (fun k_ => (P0_2_ k_ ∨ w.heap.size ≤ k_) ∧ some k_ ≠ (v286 : Value).ownBlock ∧ k_ ≠ gb281)) (by refine sqV ?_; exact Kd.V_mono HL284_2.out (fun _ hk => ⟨⟨hk.1.1, ⟨hk.2, hk.1.2.2⟩⟩, hk.1.2.1⟩)) hg hat); replace HL284_3 := sqM (Kd.V_afterv (ok := (fun k_ => (P0_2_ k_ ∨ w.heap.size ≤ k_) ∧ some k_ ≠ (v286 : Value).ownBlock ∧ k_ ≠ gb281)) (by refine sqV ?_; exact Kd.V_mono HL284_3.out (fun _ hk => ⟨⟨hk.1.1, ⟨hk.2, hk.1.2.2⟩⟩, hk.1.2.1⟩)) hg hat); replace HO287 := sqM (Kd.N_afterv (ok := (fun k_ => (P0_2_ k_ ∨ w.heap.size ≤ k_) ∧ k_ ≠ gb281)) (by refine sqN ?_; exact Kd.N_mono HO287.out (fun _ hk => ⟨⟨hk.1, hk.2.2⟩, hk.2.1⟩)) hg hat); replace HB := sqM (hb); clear HO_5; clear ho hb hg hat))
 go_roundg k2
 case measure => have := HK1.out; have := HK2.out; omega
 case rel => exact ⟨(y285), (y288), (wrap64 (x7_2 + 1)), sqI, H', ⟨by have := HK1.out; have := HK2.out; omega⟩, ⟨by refine sqN ?_; exact Kd.N_mono HO287.out (fun _ hk => ⟨hk.1.1, ⟨hk.2, hk.1.2⟩⟩)⟩, ⟨sqR HO290.out⟩, ⟨by refine sqV ?_; exact Kd.V_mono HO_282002.out (fun _ hk => ⟨hk.1.1, ⟨hk.1.2.1, ⟨hk.2, hk.1.2.2⟩⟩⟩)⟩, ⟨sqK BK281.out⟩, ⟨sqB1 HB.out GE281.out⟩⟩

/-! ### boarderref13_Pooled: function 73 -/
mutual
def boarderref13_Pooled.l0 : Nat → Int → Int → Int → List (S62) → List (S59) → Int → Int → Int → Option (Bool)
  | 0, _, _, _, _, _, _, _, _ => none
  | k + 1, x3, x292000, x292001, x292002, x292003, x292004, x292005, x292006 => if x3 < (x292002.length : Int) then (boarderref13_Pooled.l1 k x3 0 x292000 x292001 x292002 x292003 x292004 x292005 x292006) else (some false)
def boarderref13_Pooled.l1 : Nat → Int → Int → Int → Int → List (S62) → List (S59) → Int → Int → Int → Option (Bool)
  | 0, _, _, _, _, _, _, _, _, _ => none
  | k + 1, x3, x4, x292000, x292001, x292002, x292003, x292004, x292005, x292006 => if x4 < x3 then (if 0 ≤ x3 then (if x3 < (x292002.length : Int) then (if 0 ≤ x4 then (if x4 < (x292002.length : Int) then (if ((rd_T62 x292002 x3).f0) ≤ ((rd_T62 x292002 x4).f1) then (if ((rd_T62 x292002 x4).f0) ≤ ((rd_T62 x292002 x3).f1) then (some true) else (boarderref13_Pooled.l1 k x3 (wrap64 (x4 + 1)) x292000 x292001 x292002 x292003 x292004 x292005 x292006)) else (boarderref13_Pooled.l1 k x3 (wrap64 (x4 + 1)) x292000 x292001 x292002 x292003 x292004 x292005 x292006)) else (none)) else (none)) else (none)) else (none)) else (boarderref13_Pooled.l0 k (wrap64 (x3 + 1)) x292000 x292001 x292002 x292003 x292004 x292005 x292006)
end
def boarderref13_Pooled.f (k : Nat) (a0_0 : Int) (a0_1 : Int) (l0_2 : List (S62)) (l0_3 : List (S59)) (a0_4 : Int) (a0_5 : Int) (a0_6 : Int) : Option (Bool) := boarderref13_Pooled.l0 k 0 a0_0 a0_1 l0_2 l0_3 a0_4 a0_5 a0_6
set_option maxHeartbeats 8000000 in
set_option maxRecDepth 100000 in
theorem boarderref13_Pooled.calls (k : Nat) (a0_0 : Int) (a0_1 : Int) (A0_2 : Option Addr) (c0_2 : Nat) (l0_2 : List (S62)) (A0_3 : Option Addr) (c0_3 : Nat) (l0_3 : List (S59)) (a0_4 : Int) (a0_5 : Int) (a0_6 : Int) (r : Bool) (w : World) (hr0_2 : Kd.C k62 w A0_2 l0_2.length l0_2) (hc0_2 : l0_2.length ≤ c0_2) (hr0_3 : Kd.C k59 w A0_3 l0_3.length l0_3) (hc0_3 : l0_3.length ≤ c0_3) (h : boarderref13_Pooled.f k a0_0 a0_1 l0_2 l0_3 a0_4 a0_5 a0_6 = some r) :
    Calls Try.prog 73 #[.agg #[.int .i64 a0_0, .int .i64 a0_1, .slice A0_2 l0_2.length c0_2, .slice A0_3 l0_3.length c0_3, .int .i64 a0_4, .int .i64 a0_5, .int .i64 a0_6]] w fun e w' => e = .returned (.bool r) ∧ Below w.heap.size w w' := by
 have hu57 := Try.underlying57
 have HR0_2 := Aside0.mk hr0_2
 have HC0_2 := Aside0.mk hc0_2
 clear hr0_2 hc0_2
 have HR0_3 := Aside0.mk hr0_3
 have HC0_3 := Aside0.mk hc0_3
 clear hr0_3 hc0_3
 have HB := Aside0.mk (Below.refl w.heap.size w)
 have H : (boarderref13_Pooled.l0 k 0 a0_0 a0_1 l0_2 l0_3 a0_4 a0_5 a0_6) = some r := h
 clear h
 have H' := Aside0.mk H
 clear H
 go_enter Try.func73, Try.ntmps73
 go_wp2_with (first | ((with_reducible refine gate_dst (N := 1) rfl ?_); refine box_event rfl (N := 1) rfl (cs := #[.int .i64 a0_0, .int .i64 a0_1, .slice A0_2 l0_2.length c0_2, .slice A0_3 l0_3.length c0_3, .int .i64 a0_4, .int .i64 a0_5, .int .i64 a0_6]) (t := 57) sqs ?_; intro gb291 hg w2 hbox hb; have BK291 := sqM (hbox); have GW291 := sqM (sqZ hg (sqB HB.out)); have GE291 := sqM (sqZ hg (sqB HB.out)); replace HB := sqM (below_step (sqB HB.out) hb); clear hb hbox hg))
 repeat (go_quiet (first | ((with_reducible refine gate_dst (N := 1) rfl ?_); refine box_event rfl (N := 1) rfl (cs := #[.int .i64 a0_0, .int .i64 a0_1, .slice A0_2 l0_2.length c0_2, .slice A0_3 l0_3.length c0_3, .int .i64 a0_4, .int .i64 a0_5, .int .i64 a0_6]) (t := 57) sqs ?_; intro gb291 hg w2 hbox hb; have BK291 := sqM (hbox); have GW291 := sqM (sqZ hg (sqB HB.out)); have GE291 := sqM (sqZ hg (sqB HB.out)); replace HB := sqM (below_step (sqB HB.out) hb); clear hb hbox hg)); try go_wp2_with (first | ((with_reducible refine gate_dst (N := 1) rfl ?_); refine box_event rfl (N := 1) rfl (cs := #[.int .i64 a0_0, .int .i64 a0_1, .slice A0_2 l0_2.length c0_2, .slice A0_3 l0_3.length c0_3, .int .i64 a0_4, .int .i64 a0_5, .int .i64 a0_6]) (t := 57) sqs ?_; intro gb291 hg w2 hbox hb; have BK291 := sqM (hbox); have GW291 := sqM (sqZ hg (sqB HB.out)); have GE291 := sqM (sqZ hg (sqB HB.out)); replace HB := sqM (below_step (sqB HB.out) hb); clear hb hbox hg)))
 go_loopg [3] k (fun kq v3 w' => ∃ (x3_1 : Int), v3 = .int .i64 x3_1 ∧ Aside0 (boarderref13_Pooled.l0 kq x3_1 a0_0 a0_1 l0_2 l0_3 a0_4 a0_5 a0_6 = some r) ∧ Aside0 (kq ≤ k) ∧ Aside0 (w'.heap[gb291]? = some (.cells #[.int .i64 a0_0, .int .i64 a0_1, (.slice A0_2 l0_2.length c0_2), (.slice A0_3 l0_3.length c0_3), .int .i64 a0_4, .int .i64 a0_5, .int .i64 a0_6] 57 (0, 0))) ∧ Aside0 (Below w.heap.size w w'))
 case atStart => exact ⟨(0), sqI, H', ⟨Nat.le_refl _⟩, ⟨sqK BK291.out⟩, ⟨sqB1 HB.out GE291.out⟩⟩
 clear H'
 try clear p2
 obtain ⟨x3_1, rfl, HA, HK1, BK291, HB⟩ := hrel
 cases gk with
 | zero => exact absurd HA.out (by simp [boarderref13_Pooled.l0])
 | succ k1 => ?_
 have H := HA.out
 clear HA
 simp only [boarderref13_Pooled.l0] at H
 by_cases c3 : x3_1 < (l0_2.length : Int)
 rotate_left
 · rw [if_neg c3] at H
   have c3b0 : decide (x3_1 < (l0_2.length : Int)) = false := decide_eq_false c3
   clear c3
   obtain rfl := Option.some.inj H
   obtain ⟨hcz15_0, hcz15_1, hcz15_2, hcz15_3, hcz15_4, hcz15_5, hcz15_6, hfz15_0, hfz15_1, hfz15_2, hfz15_3, hfz15_4, hfz15_5, hfz15_6⟩ := sqF7 BK291.out
   go_wp2
   repeat (go_quiet (fail); try go_wp2)
   go_ret
   exact ⟨sqE, sqB1 HB.out GE291.out⟩
 rw [if_pos c3] at H
 have c3b0 : decide (x3_1 < (l0_2.length : Int)) = true := decide_eq_true c3
 clear c3
 have H' := Aside0.mk H
 clear H
 obtain ⟨hcz4_0, hcz4_1, hcz4_2, hcz4_3, hcz4_4, hcz4_5, hcz4_6, hfz4_0, hfz4_1, hfz4_2, hfz4_3, hfz4_4, hfz4_5, hfz4_6⟩ := sqF7 BK291.out
 go_wp2
 repeat (go_quiet (fail); try go_wp2)
 go_loopg [4] k1 (fun kq v4 w' => ∃ (x4_2 : Int), v4 = .int .i64 x4_2 ∧ Aside0 (boarderref13_Pooled.l1 kq x3_1 x4_2 a0_0 a0_1 l0_2 l0_3 a0_4 a0_5 a0_6 = some r) ∧ Aside0 (kq ≤ k1) ∧ Aside0 (w'.heap[gb291]? = some (.cells #[.int .i64 a0_0, .int .i64 a0_1, (.slice A0_2 l0_2.length c0_2), (.slice A0_3 l0_3.length c0_3), .int .i64 a0_4, .int .i64 a0_5, .int .i64 a0_6] 57 (0, 0))) ∧ Aside0 (Below w.heap.size w w'))
 case atStart => exact ⟨(0), sqI, H', ⟨Nat.le_refl _⟩, ⟨sqK BK291.out⟩, ⟨sqB1 HB.out GE291.out⟩⟩
 clear H'
 try clear p2
 try clear c3
 try clear c3b0
 try clear hcz4_0 hcz4_1 hcz4_2 hcz4_3 hcz4_4 hcz4_5 hcz4_6 hfz4_0 hfz4_1 hfz4_2 hfz4_3 hfz4_4 hfz4_5 hfz4_6
 try clear p2
 obtain ⟨x4_2, rfl, HA, HK2, BK291, HB⟩ := hrel
 cases gk with
 | zero => exact absurd HA.out (by simp [boarderref13_Pooled.l1])
 | succ k2 => ?_
 have H := HA.out
 clear HA
 simp only [boarderref13_Pooled.l1] at H
 by_cases c5 : x4_2 < x3_1
 rotate_left
 · rw [if_neg c5] at H
   have c5b0 : decide (x4_2 < x3_1) = false := decide_eq_false c5
   clear c5
   have H' := Aside0.mk H
   clear H
   go_wp2
   repeat (go_quiet (fail); try go_wp2)
   go_roundg k2
   case measure => have := HK1.out; have := HK2.out; omega
   case rel => exact ⟨(wrap64 (x3_1 + 1)), sqI, H', ⟨by have := HK1.out; have := HK2.out; omega⟩, ⟨sqK BK291.out⟩, ⟨sqB1 HB.out GE291.out⟩⟩
 rw [if_pos c5] at H
 have c5b0 : decide (x4_2 < x3_1) = true := decide_eq_true c5
 clear c5
 by_cases c6 : 0 ≤ x3_1
 rotate_left
 · rw [if_neg c6] at H
   exact absurd H (by simp)
 rw [if_pos c6] at H
 have c6b0 : decide (0 ≤ x3_1) = true := decide_eq_true c6
 clear c6
 by_cases c7 : x3_1 < (l0_2.length : Int)
 rotate_left
 · rw [if_neg c7] at H
   exact absurd H (by simp)
 rw [if_pos c7] at H
 have c7b0 : decide (x3_1 < (l0_2.length : Int)) = true := decide_eq_true c7
 clear c7
 by_cases c8 : 0 ≤ x4_2
 rotate_left
 · rw [if_neg c8] at H
   exact absurd H (by simp)
 rw [if_pos c8] at H
 have c8b0 : decide (0 ≤ x4_2) = true := decide_eq_true c8
 clear c8
 by_cases c9 : x4_2 < (l0_2.length : Int)
 rotate_left
 · rw [if_neg c9] at H
   exact absurd H (by simp)
 rw [if_pos c9] at H
 have c9b0 : decide (x4_2 < (l0_2.length : Int)) = true := decide_eq_true c9
 clear c9
 by_cases c10 : ((rd_T62 l0_2 x3_1).f0) ≤ ((rd_T62 l0_2 x4_2).f1)
 rotate_left
 · rw [if_neg c10] at H
   have c10b0 : decide (((rd_T62 l0_2 x3_1).f0) ≤ ((rd_T62 l0_2 x4_2).f1)) = false := decide_eq_false c10
   clear c10
   have H' := Aside0.mk H
   clear H
   obtain ⟨hcz14_0, hcz14_1, hcz14_2, hcz14_3, hcz14_4, hcz14_5, hcz14_6, hfz14_0, hfz14_1, hfz14_2, hfz14_3, hfz14_4, hfz14_5, hfz14_6⟩ := sqF7 BK291.out
   have p292 : 0 ≤ (x3_1 : Int) := of_decide_eq_true sqH
   have q292 : x3_1 < (l0_2.length : Int) := of_decide_eq_true sqH
   obtain ⟨ad292, e292, hx292_0, hx292_1⟩ := at_T62 HR0_2.out x3_1 p292 q292
   cases e292
   replace hx292_0 := sqx HB.out hx292_0
   replace hx292_1 := sqx HB.out hx292_1
   replace p292 := eq_true p292
   replace q292 := eq_true q292
   have p293 : 0 ≤ (x4_2 : Int) := of_decide_eq_true sqH
   have q293 : x4_2 < (l0_2.length : Int) := of_decide_eq_true sqH
   obtain ⟨ad293, e293, hx293_0, hx293_1⟩ := at_T62 HR0_2.out x4_2 p293 q293
   obtain rfl : ad292 = ad293 := (by injection e293)
   replace hx293_0 := sqx HB.out hx293_0
   replace hx293_1 := sqx HB.out hx293_1
   replace p293 := eq_true p293
   replace q293 := eq_true q293
   go_wp2
   repeat (go_quiet (fail); try go_wp2)
   go_roundg k2
   case measure => have := HK1.out; have := HK2.out; omega
   case rel => exact ⟨(wrap64 (x4_2 + 1)), sqI, H', ⟨by have := HK1.out; have := HK2.out; omega⟩, ⟨sqK BK291.out⟩, ⟨sqB1 HB.out GE291.out⟩⟩
 rw [if_pos c10] at H
 have c10b0 : decide (((rd_T62 l0_2 x3_1).f0) ≤ ((rd_T62 l0_2 x4_2).f1)) = true := decide_eq_true c10
 clear c10
 by_cases c11 : ((rd_T62 l0_2 x4_2).f0) ≤ ((rd_T62 l0_2 x3_1).f1)
 · rw [if_pos c11] at H
   have c11b0 : decide (((rd_T62 l0_2 x4_2).f0) ≤ ((rd_T62 l0_2 x3_1).f1)) = true := decide_eq_true c11
   clear c11
   obtain rfl := Option.some.inj H
   obtain ⟨hcz12_0, hcz12_1, hcz12_2, hcz12_3, hcz12_4, hcz12_5, hcz12_6, hfz12_0, hfz12_1, hfz12_2, hfz12_3, hfz12_4, hfz12_5, hfz12_6⟩ := sqF7 BK291.out
   have p292 : 0 ≤ (x3_1 : Int) := of_decide_eq_true sqH
   have q292 : x3_1 < (l0_2.length : Int) := of_decide_eq_true sqH
   obtain ⟨ad292, e292, hx292_0, hx292_1⟩ := at_T62 HR0_2.out x3_1 p292 q292
   cases e292
   replace hx292_0 := sqx HB.out hx292_0
   replace hx292_1 := sqx HB.out hx292_1
   replace p292 := eq_true p292
   replace q292 := eq_true q292
   have p293 : 0 ≤ (x4_2 : Int) := of_decide_eq_true sqH
   have q293 : x4_2 < (l0_2.length : Int) := of_decide_eq_true sqH
   obtain ⟨ad293, e293, hx293_0, hx293_1⟩ := at_T62 HR0_2.out x4_2 p293 q293
   obtain rfl : ad292 = ad293 := (by injection e293)
   replace hx293_0 := sqx HB.out hx293_0
   replace hx293_1 := sqx HB.out hx293_1
   replace p293 := eq_true p293
   replace q293 := eq_true q293
   have p294 : 0 ≤ (x4_2 : Int) := of_decide_eq_true sqH
   have q294 : x4_2 < (l0_2.length : Int) := of_decide_eq_true sqH
   obtain ⟨ad294, e294, hx294_0, hx294_1⟩ := at_T62 HR0_2.out x4_2 p294 q294
   obtain rfl : ad292 = ad294 := (by injection e294)
   replace hx294_0 := sqx HB.out hx294_0
   replace hx294_1 := sqx HB.out hx294_1
   replace p294 := eq_true p294
   replace q294 := eq_true q294
   have p295 : 0 ≤ (x3_1 : Int) := of_decide_eq_true sqH
   have q295 : x3_1 < (l0_2.length : Int) := of_decide_eq_true sqH
   obtain ⟨ad295, e295, hx295_0, hx295_1⟩ := at_T62 HR0_2.out x3_1 p295 q295
   obtain rfl : ad292 = ad295 := (by injection e295)
   replace hx295_0 := sqx HB.out hx295_0
   replace hx295_1 := sqx HB.out hx295_1
   replace p295 := eq_true p295
   replace q295 := eq_true q295
   go_wp2
   repeat (go_quiet (fail); try go_wp2)
   go_ret
   exact ⟨sqE, sqB1 HB.out GE291.out⟩
 rw [if_neg c11] at H
 have c11b0 : decide (((rd_T62 l0_2 x4_2).f0) ≤ ((rd_T62 l0_2 x3_1).f1)) = false := decide_eq_false c11
 clear c11
 have H' := Aside0.mk H
 clear H
 obtain ⟨hcz13_0, hcz13_1, hcz13_2, hcz13_3, hcz13_4, hcz13_5, hcz13_6, hfz13_0, hfz13_1, hfz13_2, hfz13_3, hfz13_4, hfz13_5, hfz13_6⟩ := sqF7 BK291.out
 have p292 : 0 ≤ (x3_1 : Int) := of_decide_eq_true sqH
 have q292 : x3_1 < (l0_2.length : Int) := of_decide_eq_true sqH
 obtain ⟨ad292, e292, hx292_0, hx292_1⟩ := at_T62 HR0_2.out x3_1 p292 q292
 cases e292
 replace hx292_0 := sqx HB.out hx292_0
 replace hx292_1 := sqx HB.out hx292_1
 replace p292 := eq_true p292
 replace q292 := eq_true q292
 have p293 : 0 ≤ (x4_2 : Int) := of_decide_eq_true sqH
 have q293 : x4_2 < (l0_2.length : Int) := of_decide_eq_true sqH
 obtain ⟨ad293, e293, hx293_0, hx293_1⟩ := at_T62 HR0_2.out x4_2 p293 q293
 obtain rfl : ad292 = ad293 := (by injection e293)
 replace hx293_0 := sqx HB.out hx293_0
 replace hx293_1 := sqx HB.out hx293_1
 replace p293 := eq_true p293
 replace q293 := eq_true q293
 have p294 : 0 ≤ (x4_2 : Int) := of_decide_eq_true sqH
 have q294 : x4_2 < (l0_2.length : Int) := of_decide_eq_true sqH
 obtain ⟨ad294, e294, hx294_0, hx294_1⟩ := at_T62 HR0_2.out x4_2 p294 q294
 obtain rfl : ad292 = ad294 := (by injection e294)
 replace hx294_0 := sqx HB.out hx294_0
 replace hx294_1 := sqx HB.out hx294_1
 replace p294 := eq_true p294
 replace q294 := eq_true q294
 have p295 : 0 ≤ (x3_1 : Int) := of_decide_eq_true sqH
 have q295 : x3_1 < (l0_2.length : Int) := of_decide_eq_true sqH
 obtain ⟨ad295, e295, hx295_0, hx295_1⟩ := at_T62 HR0_2.out x3_1 p295 q295
 obtain rfl : ad292 = ad295 := (by injection e295)
 replace hx295_0 := sqx HB.out hx295_0
 replace hx295_1 := sqx HB.out hx295_1
 replace p295 := eq_true p295
 replace q295 := eq_true q295
 go_wp2
 repeat (go_quiet (fail); try go_wp2)
 go_roundg k2
 case measure => have := HK1.out; have := HK2.out; omega
 case rel => exact ⟨(wrap64 (x4_2 + 1)), sqI, H', ⟨by have := HK1.out; have := HK2.out; omega⟩, ⟨sqK BK291.out⟩, ⟨sqB1 HB.out GE291.out⟩⟩

/-! ### boarderref01_Meet: function 74 -/
def boarderref01_Meet.j0 : Nat → Int → Int → Int → Int → Bool → Option (Bool)
  | 0, _, _, _, _, _ => none
  | k + 1, x0, x1, x2, x3, x18 => if x18 = true then (some false) else ((boarderref01_Last.f k x2 x3).bind fun t298 => (if x0 ≤ t298 then ((boarderref01_Last.f k x0 x1).bind fun t299 => (some (decide (x2 ≤ t299)))) else (some false)))
def boarderref01_Meet.f (k : Nat) (a0 : Int) (a1 : Int) (a2 : Int) (a3 : Int) : Option (Bool) := (boarderref01_Fair.f k a0 a1).bind fun t296 => (if t296 = true then ((boarderref01_Fair.f k a2 a3).bind fun t297 => (boarderref01_Meet.j0 k a0 a1 a2 a3 (!t297))) else (boarderref01_Meet.j0 k a0 a1 a2 a3 true))
set_option maxHeartbeats 8000000 in
set_option maxRecDepth 100000 in
theorem boarderref01_Meet.calls (k : Nat) (a0 : Int) (a1 : Int) (a2 : Int) (a3 : Int) (r : Bool) (w : World) (h : boarderref01_Meet.f k a0 a1 a2 a3 = some r) :
    Calls Try.prog 74 #[.int .i64 a0, .int .i64 a1, .int .i64 a2, .int .i64 a3] w fun e w' => e = .returned (.bool r) ∧ Drawn0 w w' := by
 have H : ((boarderref01_Fair.f k a0 a1).bind fun t296 => (if t296 = true then ((boarderref01_Fair.f k a2 a3).bind fun t297 => (boarderref01_Meet.j0 k a0 a1 a2 a3 (!t297))) else (boarderref01_Meet.j0 k a0 a1 a2 a3 true))) = some r := h
 clear h
 have HC5 := Aside0.mk H
 clear H
 go_enter Try.func74, Try.ntmps74
 go_upto_region 1 with (fail)
 go_cut [18] (fun v18 wc => ∃ (kq : Nat) (x18_4 : Bool), v18 = .bool x18_4 ∧ Aside0 (boarderref01_Meet.j0 kq a0 a1 a2 a3 x18_4 = some r) ∧ Aside0 (kq ≤ k) ∧ Drawn0 w wc)
 case first =>
  have H := HC5.out
  clear HC5
  replace H := Option.bind_eq_some_iff.mp H
  obtain ⟨t296, A60, H⟩ := H
  replace H : (if t296 = true then ((boarderref01_Fair.f k a2 a3).bind fun t297 => (boarderref01_Meet.j0 k a0 a1 a2 a3 (!t297))) else (boarderref01_Meet.j0 k a0 a1 a2 a3 true)) = some r := H
  have A6 := Aside0.mk A60
  clear A60
  by_cases c7 : t296 = true
  rotate_left
  · replace c7 := Bool.eq_false_iff.mpr c7
    subst c7
    have H1 : (boarderref01_Meet.j0 k a0 a1 a2 a3 true) = some r := by rw [if_neg (show ¬ (false = true) by decide)] at H; exact H
    clear H
    have H := H1
    clear H1
    have H' := Aside0.mk H
    clear H
    go_wp2_with (first | ((with_reducible refine gate_callee (f := 77) rfl ?_); refine goesL_ (some 11) rfl rfl Try.func77 (by kernel_rfl) rfl #[.int .i64 a0, .int .i64 a1] rfl sqA ?_; (with_reducible refine (boarderref01_Fair.calls _ _ _ _ _ A6.out).mono ?_); rintro e w' ⟨rfl, ⟨nd, rfl⟩⟩; refine ⟨_, rfl, ?_⟩))
    go_meet
    case rel => exact ⟨_, (true), sqI, H', ⟨by first | omega | exact Nat.le_refl _⟩, sqD⟩
  subst c7
  have H1 : ((boarderref01_Fair.f k a2 a3).bind fun t297 => (boarderref01_Meet.j0 k a0 a1 a2 a3 (!t297))) = some r := by rw [if_pos rfl] at H; exact H
  clear H
  have H := H1
  clear H1
  replace H := Option.bind_eq_some_iff.mp H
  obtain ⟨t297, A80, H⟩ := H
  replace H : (boarderref01_Meet.j0 k a0 a1 a2 a3 (!t297)) = some r := H
  have A8 := Aside0.mk A80
  clear A80
  have H' := Aside0.mk H
  clear H
  go_wp2_with (first | ((with_reducible refine gate_callee (f := 77) rfl ?_); refine goesL_ (some 11) rfl rfl Try.func77 (by kernel_rfl) rfl #[.int .i64 a0, .int .i64 a1] rfl sqA ?_; (with_reducible refine (boarderref01_Fair.calls _ _ _ _ _ A6.out).mono ?_); rintro e w' ⟨rfl, ⟨nd, rfl⟩⟩; refine ⟨_, rfl, ?_⟩) | (go_at_call 77; (with_reducible refine (boarderref01_Fair.calls _ _ _ _ _ A8.out).mono ?_); rintro e w' ⟨rfl, ⟨nd, rfl⟩⟩))
  go_meet
  case rel => exact ⟨_, (!t297), sqI, H', ⟨by first | omega | exact Nat.le_refl _⟩, sqD⟩
 clear HC5
 try clear p2
 try clear c7
 obtain ⟨kq, x18_4, rfl, HA, HJ4, ⟨mc4, rfl⟩⟩ := hcut
 cases kq with
 | zero => exact absurd HA.out (by simp [boarderref01_Meet.j0])
 | succ kj4 => ?_
 have H := HA.out
 clear HA
 simp only [boarderref01_Meet.j0] at H
 by_cases c9 : x18_4 = true
 · subst c9
   have H1 : (some false) = some r := by rw [if_pos rfl] at H; exact H
   clear H
   have H := H1
   clear H1
   obtain rfl := Option.some.inj H
   go_wp2
   go_ret
   exact ⟨sqI, sqD⟩
 replace c9 := Bool.eq_false_iff.mpr c9
 subst c9
 have H1 : ((boarderref01_Last.f kj4 a2 a3).bind fun t298 => (if a0 ≤ t298 then ((boarderref01_Last.f kj4 a0 a1).bind fun t299 => (some (decide (a2 ≤ t299)))) else (some false))) = some r := by rw [if_neg (show ¬ (false = true) by decide)] at H; exact H
 clear H
 have H := H1
 clear H1
 replace H := Option.bind_eq_some_iff.mp H
 obtain ⟨t298, A100, H⟩ := H
 replace H : (if a0 ≤ t298 then ((boarderref01_Last.f kj4 a0 a1).bind fun t299 => (some (decide (a2 ≤ t299)))) else (some false)) = some r := H
 have A10 := Aside0.mk A100
 clear A100
 by_cases c11 : a0 ≤ t298
 rotate_left
 · rw [if_neg c11] at H
   have c11b0 : decide (a0 ≤ t298) = false := decide_eq_false c11
   clear c11
   obtain rfl := Option.some.inj H
   go_wp2_with (first | ((with_reducible refine gate_callee (f := 87) rfl ?_); refine goesL_ (some 22) rfl rfl Try.func87 (by kernel_rfl) rfl #[.int .i64 a2, .int .i64 a3] rfl sqA ?_; (with_reducible refine (boarderref01_Last.calls _ _ _ _ _ A10.out).mono ?_); rintro e w' ⟨rfl, ⟨nd, rfl⟩⟩; refine ⟨_, rfl, ?_⟩))
   go_ret
   exact ⟨sqI, sqD⟩
 rw [if_pos c11] at H
 have c11b0 : decide (a0 ≤ t298) = true := decide_eq_true c11
 clear c11
 replace H := Option.bind_eq_some_iff.mp H
 obtain ⟨t299, A120, H⟩ := H
 replace H : (some (decide (a2 ≤ t299))) = some r := H
 have A12 := Aside0.mk A120
 clear A120
 obtain rfl := Option.some.inj H
 go_wp2_with (first | ((with_reducible refine gate_callee (f := 87) rfl ?_); refine goesL_ (some 22) rfl rfl Try.func87 (by kernel_rfl) rfl #[.int .i64 a2, .int .i64 a3] rfl sqA ?_; (with_reducible refine (boarderref01_Last.calls _ _ _ _ _ A10.out).mono ?_); rintro e w' ⟨rfl, ⟨nd, rfl⟩⟩; refine ⟨_, rfl, ?_⟩) | (go_at_call 87; (with_reducible refine (boarderref01_Last.calls _ _ _ _ _ A12.out).mono ?_); rintro e w' ⟨rfl, ⟨nd, rfl⟩⟩))
 go_ret
 exact ⟨sqI, sqD⟩

end Go.Proofs.Ytdcabfonjmeajaa.PConf
