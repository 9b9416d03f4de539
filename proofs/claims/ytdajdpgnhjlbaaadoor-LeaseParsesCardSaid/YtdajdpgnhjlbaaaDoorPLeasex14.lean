/- Lean functions for Go functions of the given program, and proofs that the code computes them, each under its theorem's own conditions. Written by a program of this session. -/
import Derived.Test.YtdajdpgnhjlbaaaDoorPLeasex0
import Derived.Test.YtdajdpgnhjlbaaaDoorPLeasex4
import Derived.Test.YtdajdpgnhjlbaaaDoorPLeasex5
import Derived.Test.YtdajdpgnhjlbaaaDoorPLeasex8
import Derived.Test.YtdajdpgnhjlbaaaDoorPLeasex10
namespace Go.Proofs.YtdajdpgnhjlbaaaDoor.PLease
open Go.RowKit Go.Proofs.YtdajdpgnhjlbaaaDoorW.PrintWords Go.Proofs.YtdajdpgnhjlbaaaDoorW.PrintLast Go.Proofs.YtdajdpgnhjlbaaaDoorW.PrintMore
attribute [local go_sem] max2_int min2_int max_two min_two max_three min_three max_four min_four   -- for this text's walks alone
set_option linter.unusedVariables false
set_option linter.unusedSimpArgs false

/-! ### boarderref23_Line: function 52 -/
def boarderref23_Line.l0 : Nat → ByteArray → Int → Int → Option (ByteArray × Int × Bool)
  | 0, _, _, _ => none
  | k + 1, x0, x1, x7 => if x7 < (x0.size : Int) then (if 0 ≤ x7 then (if (bt x0 x7) = 10 then (if 0 ≤ x1 then (if x1 ≤ x7 then (if x7 ≤ (x0.size : Int) then (some (x0.extract (x1 : Int).toNat (x7 : Int).toNat, wrap64 (x7 + 1), true)) else (none)) else (none)) else (none)) else (boarderref23_Line.l0 k x0 x1 (wrap64 (x7 + 1)))) else (none)) else (if 0 ≤ x1 then (if x1 ≤ (x0.size : Int) then (some (x0.extract (x1 : Int).toNat x0.size, (x0.size : Int), false)) else (none)) else (none))
def boarderref23_Line.f (k : Nat) (a0 : ByteArray) (a1 : Int) : Option (ByteArray × Int × Bool) := boarderref23_Line.l0 k a0 a1 a1
set_option maxHeartbeats 8000000 in
set_option maxRecDepth 100000 in
theorem boarderref23_Line.calls (k : Nat) (a0 : ByteArray) (a1 : Int) (r1 : ByteArray) (r2 : Int) (r3 : Bool) (w : World) (h : boarderref23_Line.f k a0 a1 = some (r1, r2, r3)) :
    Calls Tryd.prog 52 #[.string a0, .int .i64 a1] w fun e w' => e = .returned (.tuple #[.string r1, .int .i64 r2, .bool r3]) ∧ Drawn0 w w' := by
 have H : (boarderref23_Line.l0 k a0 a1 a1) = some (r1, r2, r3) := h
 clear h
 have H' := Aside0.mk H
 clear H
 go_enter Tryd.func52, Tryd.ntmps52
 go_wp2
 go_loopg [7] k (fun kq v7 w' => ∃ (x7_1 : Int), v7 = .int .i64 x7_1 ∧ Aside0 (boarderref23_Line.l0 kq a0 a1 x7_1 = some (r1, r2, r3)) ∧ Aside0 (kq ≤ k) ∧ Drawn0 w w')
 case atStart => exact ⟨(a1), sqI, H', ⟨Nat.le_refl _⟩, sqD⟩
 clear H'
 try clear p2
 obtain ⟨x7_1, rfl, HA, HK1, ⟨m1, rfl⟩⟩ := hrel
 cases gk with
 | zero => exact absurd HA.out (by simp [boarderref23_Line.l0])
 | succ k1 => ?_
 have H := HA.out
 clear HA
 simp only [boarderref23_Line.l0] at H
 by_cases c3 : x7_1 < (a0.size : Int)
 rotate_left
 · rw [if_neg c3] at H
   have c3b0 : decide (x7_1 < (a0.size : Int)) = false := decide_eq_false c3
   clear c3
   by_cases c10 : 0 ≤ a1
   rotate_left
   · rw [if_neg c10] at H
     exact absurd H (by simp)
   rw [if_pos c10] at H
   have c10b0 := eq_true c10
   have c10b1 : decide (0 ≤ a1) = true := decide_eq_true c10
   clear c10
   by_cases c11 : a1 ≤ (a0.size : Int)
   rotate_left
   · rw [if_neg c11] at H
     exact absurd H (by simp)
   rw [if_pos c11] at H
   have c11b0 := eq_true c11
   have c11b1 : decide (a1 ≤ (a0.size : Int)) = true := decide_eq_true c11
   clear c11
   simp only [Option.some.injEq, Prod.mk.injEq] at H
   obtain ⟨rfl, rfl, rfl⟩ := H
   go_wp2
   go_ret3
   exact ⟨sqI, sqD⟩
 rw [if_pos c3] at H
 have c3b0 : decide (x7_1 < (a0.size : Int)) = true := decide_eq_true c3
 clear c3
 by_cases c4 : 0 ≤ x7_1
 rotate_left
 · rw [if_neg c4] at H
   exact absurd H (by simp)
 rw [if_pos c4] at H
 have c4b0 : decide (0 ≤ x7_1) = true := decide_eq_true c4
 clear c4
 by_cases c6 : (bt a0 x7_1) = 10
 rotate_left
 · rw [if_neg c6] at H
   have c6b0 : ((bt a0 x7_1) == 10) = false := beq_eq_false_iff_ne.mpr c6
   have c6b1 : ((bt a0 x7_1) != 10) = true := bne_iff_ne.mpr c6
   have H' := Aside0.mk H
   clear H
   have p5 : 0 ≤ (x7_1 : Int) := of_decide_eq_true sqH
   have q5 : x7_1 < (a0.size : Int) := of_decide_eq_true sqH
   have hx5 := bt_at a0 x7_1
   replace p5 := eq_true p5
   replace q5 := eq_true q5
   go_wp2
   go_roundg k1
   case measure => have := HK1.out; omega
   case rel => exact ⟨(wrap64 (x7_1 + 1)), sqI, H', ⟨by have := HK1.out; omega⟩, sqD⟩
 rw [if_pos c6] at H
 have c6b0 : ((bt a0 x7_1) == 10) = true := beq_iff_eq.mpr c6
 have c6b1 : ((bt a0 x7_1) != 10) = false := bne_eq_false_iff_eq.mpr c6
 clear c6
 by_cases c7 : 0 ≤ a1
 rotate_left
 · rw [if_neg c7] at H
   exact absurd H (by simp)
 rw [if_pos c7] at H
 have c7b0 := eq_true c7
 have c7b1 : decide (0 ≤ a1) = true := decide_eq_true c7
 clear c7
 by_cases c8 : a1 ≤ x7_1
 rotate_left
 · rw [if_neg c8] at H
   exact absurd H (by simp)
 rw [if_pos c8] at H
 have c8b0 := eq_true c8
 have c8b1 : decide (a1 ≤ x7_1) = true := decide_eq_true c8
 clear c8
 by_cases c9 : x7_1 ≤ (a0.size : Int)
 rotate_left
 · rw [if_neg c9] at H
   exact absurd H (by simp)
 rw [if_pos c9] at H
 have c9b0 := eq_true c9
 have c9b1 : decide (x7_1 ≤ (a0.size : Int)) = true := decide_eq_true c9
 clear c9
 simp only [Option.some.injEq, Prod.mk.injEq] at H
 obtain ⟨rfl, rfl, rfl⟩ := H
 have p5 : 0 ≤ (x7_1 : Int) := of_decide_eq_true sqH
 have q5 : x7_1 < (a0.size : Int) := of_decide_eq_true sqH
 have hx5 := bt_at a0 x7_1
 replace p5 := eq_true p5
 replace q5 := eq_true q5
 go_wp2
 go_ret3
 exact ⟨sqI, sqD⟩

/-! ### boarderref24_Parse: function 24 -/
mutual
def boarderref24_Parse.l0 : Nat → ByteArray → List (S23) → Int → Int → Option ((List (S23)) × Int × Int)
  | 0, _, _, _, _ => none
  | k + 1, x0, x5, x6, x7 => if x6 < (x0.size : Int) then ((boarderref23_Line.f k x0 x6).bind fun bt395 => ((boarderref24_Lease.f k bt395.1).bind fun bt398 => (if bt398.2.2.2.2 = true then (boarderref24_Parse.j1 k x0 x5 (wrap64 (x7 + 1)) bt395.2.1 (!bt395.2.2) bt398.1 bt398.2.1 bt398.2.2.1 bt398.2.2.2.1) else (boarderref24_Parse.j1 k x0 x5 (wrap64 (x7 + 1)) bt395.2.1 true bt398.1 bt398.2.1 bt398.2.2.1 bt398.2.2.2.1)))) else (some (x5, 0, 0))
def boarderref24_Parse.j1 : Nat → ByteArray → List (S23) → Int → Int → Bool → Int → Int → Int → ByteArray → Option ((List (S23)) × Int × Int)
  | 0, _, _, _, _, _, _, _, _, _ => none
  | k + 1, x0, x5, x7, x9, x36, x404000, x404001, x404002, x404003 => if x36 = true then (some (([] : List (S23)), x7, 2)) else (if x5.length < 3518437208883 then ((some (x5 ++ [(⟨x404000, x404001, x404002, x404003⟩ : S23)] : List (S23))).bind fun y404 => ((boarderref12_Right.f k y404).bind fun t407 => (if t407 = true then (boarderref24_Parse.l0 k x0 y404 x9 x7) else (some (([] : List (S23)), x7, 2))))) else (none))
end
def boarderref24_Parse.f (k : Nat) (a0 : ByteArray) : Option ((List (S23)) × Int × Int) := boarderref24_Parse.l0 k a0 ([] : List (S23)) 0 0
set_option maxHeartbeats 8000000 in
set_option maxRecDepth 100000 in
theorem boarderref24_Parse.calls (k : Nat) (a0 : ByteArray) (r1 : List (S23)) (r2 : Int) (r3 : Int) (w : World) (h : boarderref24_Parse.f k a0 = some (r1, r2, r3)) :
    Calls Tryd.prog 24 #[.string a0] w fun e w' => ∃ v0_ : Value, e = .returned (.tuple #[v0_, .int .i64 r2, .int .i64 r3]) ∧ Kd.R k23 23 w' w.heap.size (fun _ => True) v0_ r1 ∧ Below w.heap.size w w' := by
 have hu23 := Tryd.underlying23
 have HB := Aside0.mk (Below.refl w.heap.size w)
 have H : (boarderref24_Parse.l0 k a0 ([] : List (S23)) 0 0) = some (r1, r2, r3) := h
 clear h
 have H' := Aside0.mk H
 clear H
 go_enter Tryd.func24, Tryd.ntmps24
 go_wp2
 go_loopg [5, 6, 7] k (fun kq v5 v6 v7 w' => ∃ (x5_1 : List (S23)) (x6_1 : Int) (x7_1 : Int), v6 = .int .i64 x6_1 ∧ v7 = .int .i64 x7_1 ∧ Aside0 (boarderref24_Parse.l0 kq a0 x5_1 x6_1 x7_1 = some (r1, r2, r3)) ∧ Aside0 (kq ≤ k) ∧ Aside0 (Kd.R k23 23 w' w.heap.size (fun _ => True) v5 x5_1) ∧ Aside0 (Below w.heap.size w w'))
 case atStart => exact ⟨(([] : List (S23))), (0), (0), sqI, sqI, H', ⟨Nat.le_refl _⟩, ⟨by first | exact Kd.R_nil _ _ _ _ _ | exact Kd.N_nil _ _ _ _ _ | exact Kd.V_nil _ _ _ _ _ | exact Kd.Q_nil _ _ _ _ _ | exact Kd.S_nil _ _ _ _ _⟩, ⟨sqB HB.out⟩⟩
 clear H'
 obtain ⟨x5_1, x6_1, x7_1, rfl, rfl, HA, HK1, HO_5, HB⟩ := hrel
 cases gk with
 | zero => exact absurd HA.out (by simp [boarderref24_Parse.l0])
 | succ k1 => ?_
 have H := HA.out
 clear HA
 simp only [boarderref24_Parse.l0] at H
 by_cases c2 : x6_1 < (a0.size : Int)
 rotate_left
 · rw [if_neg c2] at H
   have c2b0 : decide (x6_1 < (a0.size : Int)) = false := decide_eq_false c2
   clear c2
   simp only [Option.some.injEq, Prod.mk.injEq] at H
   obtain ⟨rfl, rfl, rfl⟩ := H
   go_wp2
   go_ret3
   exact ⟨_, sqE, by refine sqR ?_; exact HO_5.out, sqB HB.out⟩
 rw [if_pos c2] at H
 have c2b0 : decide (x6_1 < (a0.size : Int)) = true := decide_eq_true c2
 clear c2
 replace H := Option.bind_eq_some_iff.mp H
 obtain ⟨⟨t395, t396, t397⟩, A30, H⟩ := H
 replace H : ((boarderref24_Lease.f k1 t395).bind fun bt398 => (if bt398.2.2.2.2 = true then (boarderref24_Parse.j1 k1 a0 x5_1 (wrap64 (x7_1 + 1)) t396 (!t397) bt398.1 bt398.2.1 bt398.2.2.1 bt398.2.2.2.1) else (boarderref24_Parse.j1 k1 a0 x5_1 (wrap64 (x7_1 + 1)) t396 true bt398.1 bt398.2.1 bt398.2.2.1 bt398.2.2.2.1))) = some (r1, r2, r3) := H
 have A3 := Aside0.mk A30
 clear A30
 replace H := Option.bind_eq_some_iff.mp H
 obtain ⟨⟨t398, t399, t400, t401, t402⟩, A40, H⟩ := H
 replace H : (if t402 = true then (boarderref24_Parse.j1 k1 a0 x5_1 (wrap64 (x7_1 + 1)) t396 (!t397) t398 t399 t400 t401) else (boarderref24_Parse.j1 k1 a0 x5_1 (wrap64 (x7_1 + 1)) t396 true t398 t399 t400 t401)) = some (r1, r2, r3) := H
 have A4 := Aside0.mk A40
 clear A40
 have HC5 := Aside0.mk H
 clear H
 go_upto_region 8 with (first | ((with_reducible refine gate_callee (f := 52) rfl ?_); refine goesL_ (some 20) rfl rfl Tryd.func52 (by kernel_rfl) rfl #[.string a0, .int .i64 x6_1] rfl sqA ?_; (with_reducible refine (boarderref23_Line.calls _ _ _ _ _ _ _ A3.out).mono ?_); rintro e w' ⟨rfl, ⟨nd, rfl⟩⟩; refine ⟨_, rfl, ?_⟩; (try (rw [drewN_self wr]; generalize hq_ : World.drewN wr _ = wr; have n0_ : Aside0 (Kd.R k23 23 wr w.heap.size (fun _ => True) u5 x5_1) := ⟨by rw [← hq_]; exact (sqR HO_5.out)⟩; have n1_ : Aside0 (Below w.heap.size w wr) := ⟨by rw [← hq_]; exact (sqB HB.out)⟩; clear HO_5 HB hq_; have HO_5 := n0_; have HB := n1_; clear n0_ n1_))) | ((with_reducible refine gate_callee (f := 17) rfl ?_); refine goesL_ (some 28) rfl rfl Tryd.func17 (by kernel_rfl) rfl #[.string t395] rfl sqA ?_; (with_reducible refine (boarderref24_Lease.calls _ _ _ _ _ _ _ _ A4.out).mono ?_); rintro e w6 ⟨rfl, hb⟩; refine ⟨_, rfl, ?_⟩; replace HO_5 := sqM (Kd.R_below (sqR HO_5.out) hb); replace HB := sqM (below_step (sqB HB.out) hb); (try clear hb); (try clear hb2); (try clear hk); (try clear hi)) | ((with_reducible refine gate_dst (N := 11) rfl ?_); refine box_event rfl (N := 11) rfl (cs := #[.int .i64 0, .int .i64 0, .int .i64 0, .string (⟨#[]⟩ : ByteArray)]) (t := 23) sqs ?_; intro gb403 hg w7 hbox hb; have BK403 := sqM (hbox); have GW403 := sqM (sqZ hg (sqB HB.out)); have GE403 := sqM (sqZ hg (sqB HB.out)); replace HO_5 := sqM (sqRe (sqR HO_5.out) hg hb); replace HB := sqM (below_step (sqB HB.out) hb); clear hb hbox hg; obtain ⟨hcz8_0, hcz8_1, hcz8_2, hcz8_3, hfz8_0, hfz8_1, hfz8_2, hfz8_3⟩ := sqF4 BK403.out))
 (try simp only [Act.put, List.setIfInBounds_toArray, List.set_cons_zero, List.set_cons_succ])
 go_cut [36] (fun v36 wc => ∃ (kq : Nat) (x36_4 : Bool), v36 = .bool x36_4 ∧ Aside0 (boarderref24_Parse.j1 kq a0 x5_1 (wrap64 (x7_1 + 1)) t396 x36_4 t398 t399 t400 t401 = some (r1, r2, r3)) ∧ Aside0 (kq ≤ k1) ∧ Aside0 (Kd.R k23 23 wc w.heap.size (fun k_ => k_ ≠ gb403) u5 x5_1) ∧ Aside0 (wc.heap[gb403]? = some (.cells #[.int .i64 t398, .int .i64 t399, .int .i64 t400, .string t401] 23 (0, 0))) ∧ Aside0 (Below w.heap.size w wc))
 case first =>
  have H := HC5.out
  clear HC5
  by_cases c9 : t402 = true
  · subst c9
    have H1 : (boarderref24_Parse.j1 k1 a0 x5_1 (wrap64 (x7_1 + 1)) t396 (!t397) t398 t399 t400 t401) = some (r1, r2, r3) := by rw [if_pos rfl] at H; exact H
    clear H
    have H := H1
    clear H1
    have H' := Aside0.mk H
    clear H
    go_wp2
    go_meet
    case rel => exact ⟨_, (!t397), sqI, H', ⟨by have := HK1.out; first | omega | exact Nat.le_refl _⟩, ⟨by refine sqR ?_; exact Kd.R_mono (sqR4 (Kd.R_mono HO_5.out (fun k_ hk => (⟨hk, hk.2⟩ : _ ∧ k_ ≠ gb403))) (fun _ hk => hk.2)) (fun _ hk => hk.1.2)⟩, ⟨(sqK (sqP4 BK403.out))⟩, ⟨sqB1 HB.out GE403.out⟩⟩
  replace c9 := Bool.eq_false_iff.mpr c9
  subst c9
  have H1 : (boarderref24_Parse.j1 k1 a0 x5_1 (wrap64 (x7_1 + 1)) t396 true t398 t399 t400 t401) = some (r1, r2, r3) := by rw [if_neg (show ¬ (false = true) by decide)] at H; exact H
  clear H
  have H := H1
  clear H1
  have H' := Aside0.mk H
  clear H
  go_wp2
  go_meet
  case rel => exact ⟨_, (true), sqI, H', ⟨by have := HK1.out; first | omega | exact Nat.le_refl _⟩, ⟨by refine sqR ?_; exact Kd.R_mono (sqR4 (Kd.R_mono HO_5.out (fun k_ hk => (⟨hk, hk.2⟩ : _ ∧ k_ ≠ gb403))) (fun _ hk => hk.2)) (fun _ hk => hk.1.2)⟩, ⟨(sqK (sqP4 BK403.out))⟩, ⟨sqB1 HB.out GE403.out⟩⟩
 clear HC5
 try clear c1
 try clear c2
 try clear c2b0
 try clear p2
 try clear c5
 try clear p6
 try clear c9
 try clear hcz8_0 hcz8_1 hcz8_2 hcz8_3 hfz8_0 hfz8_1 hfz8_2 hfz8_3
 obtain ⟨kq, x36_4, rfl, HA, HJ4, HO_5, BK403, HB⟩ := hcut
 cases kq with
 | zero => exact absurd HA.out (by simp [boarderref24_Parse.j1])
 | succ kj4 => ?_
 have H := HA.out
 clear HA
 simp only [boarderref24_Parse.j1] at H
 by_cases c10 : x36_4 = true
 · subst c10
   have H1 : (some (([] : List (S23)), (wrap64 (x7_1 + 1)), 2)) = some (r1, r2, r3) := by rw [if_pos rfl] at H; exact H
   clear H
   have H := H1
   clear H1
   simp only [Option.some.injEq, Prod.mk.injEq] at H
   obtain ⟨rfl, rfl, rfl⟩ := H
   go_wp2
   go_ret3
   exact ⟨_, sqE, by first | exact Kd.R_nil _ _ _ _ _ | exact Kd.N_nil _ _ _ _ _ | exact Kd.V_nil _ _ _ _ _ | exact Kd.Q_nil _ _ _ _ _ | exact Kd.S_nil _ _ _ _ _, sqB1 HB.out GE403.out⟩
 replace c10 := Bool.eq_false_iff.mpr c10
 subst c10
 have H1 : (if x5_1.length < 3518437208883 then ((some (x5_1 ++ [(⟨t398, t399, t400, t401⟩ : S23)] : List (S23))).bind fun y404 => ((boarderref12_Right.f kj4 y404).bind fun t407 => (if t407 = true then (boarderref24_Parse.l0 kj4 a0 y404 t396 (wrap64 (x7_1 + 1))) else (some (([] : List (S23)), (wrap64 (x7_1 + 1)), 2))))) else (none)) = some (r1, r2, r3) := by rw [if_neg (show ¬ (false = true) by decide)] at H; exact H
 clear H
 have H := H1
 clear H1
 by_cases c11 : x5_1.length < 3518437208883
 rotate_left
 · rw [if_neg c11] at H
   exact absurd H (by simp)
 rw [if_pos c11] at H
 have LMc11 := Aside0.mk c11
 clear c11
 obtain ⟨y404, hy404⟩ : ∃ y_ : List (S23), y_ = (x5_1 ++ [(⟨t398, t399, t400, t401⟩ : S23)]) := ⟨_, rfl⟩
 replace H : ((boarderref12_Right.f kj4 y404).bind fun t407 => (if t407 = true then (boarderref24_Parse.l0 kj4 a0 y404 t396 (wrap64 (x7_1 + 1))) else (some (([] : List (S23)), (wrap64 (x7_1 + 1)), 2)))) = some (r1, r2, r3) := by first | (rw [hy404]; with_reducible exact H) | (have H2_ := (Option.bind_some _ _).symm.trans H; rw [hy404]; with_reducible exact H2_) | (have H2_ := (Option.bind_some _ _).symm.trans H; with_reducible exact H2_) | with_reducible exact H | (rw [hy404]; exact H) | exact H
 have Ny404 := Aside0.mk hy404
 clear hy404
 replace H := Option.bind_eq_some_iff.mp H
 obtain ⟨t407, A120, H⟩ := H
 replace H : (if t407 = true then (boarderref24_Parse.l0 kj4 a0 y404 t396 (wrap64 (x7_1 + 1))) else (some (([] : List (S23)), (wrap64 (x7_1 + 1)), 2))) = some (r1, r2, r3) := H
 have A12 := Aside0.mk A120
 clear A120
 by_cases c13 : t407 = true
 · subst c13
   have H1 : (boarderref24_Parse.l0 kj4 a0 y404 t396 (wrap64 (x7_1 + 1))) = some (r1, r2, r3) := by rw [if_pos rfl] at H; exact H
   clear H
   have H := H1
   clear H1
   have H' := Aside0.mk H
   clear H
   obtain ⟨hcz14_0, hcz14_1, hcz14_2, hcz14_3, hfz14_0, hfz14_1, hfz14_2, hfz14_3⟩ := sqF4 BK403.out
   go_wp2_with (first | ((with_reducible refine gate_builtin (b := .append) (xs := #[.tmp 38, .tmp 40]) rfl ?_); at_builtin; refine Kd.R_append k23 (w0 := w) w.heap.size rfl (.tmp 38) (.tmp 40) 36 23 (.agg #[(.int .i64 0), (.int .i64 0), (.int .i64 0), (.string ⟨#[]⟩)]) 40 rfl Tryd.underlying36 info23 rfl (by decide) (by omega) u5 x5_1 (⟨t398, t399, t400, t401⟩ : S23) [.int .i64 t398, .int .i64 t399, .int .i64 t400, .string t401] (fun k_ => k_ ≠ gb403) (fun _ => False) rfl rfl ?aP (fun _ hk => hk.elim) ?aF ?aO ?aB ?aS ?aL ?_; (case aP => exact k23_mkM _ _ _ (⟨t398, t399, t400, t401⟩ : S23)); (case aB => exact (sqB1 HB.out GE403.out)); (case aF => exact (fun k_ hk => Kd.freshB (g := gb403) (o := .cells #[.int .i64 t398, .int .i64 t399, .int .i64 t400, .string t401] 23 (0, 0)) (sqK BK403.out) k_ hk)); (case aO => exact (sqR HO_5.out)); (case aS => exact (below_size (sqB1 HB.out GE403.out))); (case aL => have := LMc11.out; omega); intro v405 w15 ho hb hg hat; rw [← Ny404.out] at ho; have HO406 := sqM (ho); replace BK403 := sqM (blk_grown (g := gb403) (o := .cells #[.int .i64 t398, .int .i64 t399, .int .i64 t400, .string t401] 23 (0, 0)) (sqK BK403.out) hg (Kd.R_away HO_5.out (fun _ hk => hk))); replace HB := sqM (hb); clear HO_5; clear ho hb hg hat; obtain ⟨Ao16, co16, eo16⟩ := Kd.R_slice HO406.out; subst eo16) | ((with_reducible refine gate_callee (f := 20) rfl ?_); refine goesL_ (some 43) rfl rfl Tryd.func20 (by kernel_rfl) rfl #[.slice Ao16 y404.length co16] rfl sqA ?_; (with_reducible refine (boarderref12_Right.calls _ _ _ _ _ _ ?side1 ?side2 A12.out).mono ?_); (case side1 => repeat (first | exact (Kd.R_reads' HO406.out).2.2 | (with_reducible refine Kd.C_alloc ?_ _) | (with_reducible refine Kd.C_drewN ?_ _) | (with_reducible refine Kd.C_drew ?_))); (case side2 => exact (Kd.R_reads' HO406.out).2.1); rintro e w17 ⟨rfl, hb⟩; refine ⟨_, rfl, ?_⟩; replace HO406 := sqM (Kd.R_below (sqR HO406.out) hb); replace BK403 := sqM (blk_below (sqK BK403.out) hb); replace HB := sqM (below_step (sqB1 HB.out GE403.out) hb); (try clear hb); (try clear hb2); (try clear hk); (try clear hi)))
   go_roundg kj4
   case measure => have := HK1.out; have := HJ4.out; omega
   case rel => exact ⟨(y404), (t396), ((wrap64 (x7_1 + 1))), sqI, sqI, H', ⟨by have := HK1.out; have := HJ4.out; omega⟩, ⟨by refine sqR ?_; exact Kd.R_mono HO406.out (fun _ hk => trivial)⟩, ⟨sqB1 HB.out GE403.out⟩⟩
 replace c13 := Bool.eq_false_iff.mpr c13
 subst c13
 have H1 : (some (([] : List (S23)), (wrap64 (x7_1 + 1)), 2)) = some (r1, r2, r3) := by rw [if_neg (show ¬ (false = true) by decide)] at H; exact H
 clear H
 have H := H1
 clear H1
 simp only [Option.some.injEq, Prod.mk.injEq] at H
 obtain ⟨rfl, rfl, rfl⟩ := H
 obtain ⟨hcz18_0, hcz18_1, hcz18_2, hcz18_3, hfz18_0, hfz18_1, hfz18_2, hfz18_3⟩ := sqF4 BK403.out
 go_wp2_with (first | ((with_reducible refine gate_builtin (b := .append) (xs := #[.tmp 38, .tmp 40]) rfl ?_); at_builtin; refine Kd.R_append k23 (w0 := w) w.heap.size rfl (.tmp 38) (.tmp 40) 36 23 (.agg #[(.int .i64 0), (.int .i64 0), (.int .i64 0), (.string ⟨#[]⟩)]) 40 rfl Tryd.underlying36 info23 rfl (by decide) (by omega) u5 x5_1 (⟨t398, t399, t400, t401⟩ : S23) [.int .i64 t398, .int .i64 t399, .int .i64 t400, .string t401] (fun k_ => k_ ≠ gb403) (fun _ => False) rfl rfl ?aP (fun _ hk => hk.elim) ?aF ?aO ?aB ?aS ?aL ?_; (case aP => exact k23_mkM _ _ _ (⟨t398, t399, t400, t401⟩ : S23)); (case aB => exact (sqB1 HB.out GE403.out)); (case aF => exact (fun k_ hk => Kd.freshB (g := gb403) (o := .cells #[.int .i64 t398, .int .i64 t399, .int .i64 t400, .string t401] 23 (0, 0)) (sqK BK403.out) k_ hk)); (case aO => exact (sqR HO_5.out)); (case aS => exact (below_size (sqB1 HB.out GE403.out))); (case aL => have := LMc11.out; omega); intro v405 w19 ho hb hg hat; rw [← Ny404.out] at ho; have HO406 := sqM (ho); replace BK403 := sqM (blk_grown (g := gb403) (o := .cells #[.int .i64 t398, .int .i64 t399, .int .i64 t400, .string t401] 23 (0, 0)) (sqK BK403.out) hg (Kd.R_away HO_5.out (fun _ hk => hk))); replace HB := sqM (hb); clear HO_5; clear ho hb hg hat; obtain ⟨Ao20, co20, eo20⟩ := Kd.R_slice HO406.out; subst eo20) | ((with_reducible refine gate_callee (f := 20) rfl ?_); refine goesL_ (some 43) rfl rfl Tryd.func20 (by kernel_rfl) rfl #[.slice Ao20 y404.length co20] rfl sqA ?_; (with_reducible refine (boarderref12_Right.calls _ _ _ _ _ _ ?side1 ?side2 A12.out).mono ?_); (case side1 => repeat (first | exact (Kd.R_reads' HO406.out).2.2 | (with_reducible refine Kd.C_alloc ?_ _) | (with_reducible refine Kd.C_drewN ?_ _) | (with_reducible refine Kd.C_drew ?_))); (case side2 => exact (Kd.R_reads' HO406.out).2.1); rintro e w21 ⟨rfl, hb⟩; refine ⟨_, rfl, ?_⟩; replace HO406 := sqM (Kd.R_below (sqR HO406.out) hb); replace BK403 := sqM (blk_below (sqK BK403.out) hb); replace HB := sqM (below_step (sqB1 HB.out GE403.out) hb); (try clear hb); (try clear hb2); (try clear hk); (try clear hi)))
 go_ret3
 exact ⟨_, sqE, by first | exact Kd.R_nil _ _ _ _ _ | exact Kd.N_nil _ _ _ _ _ | exact Kd.V_nil _ _ _ _ _ | exact Kd.Q_nil _ _ _ _ _ | exact Kd.S_nil _ _ _ _ _, sqB1 HB.out GE403.out⟩

/-! ### boarderlaw24_LeaseParses: function 7 -/
def boarderlaw24_LeaseParses.j0 : Nat → ByteArray → List (S23) → Int → Bool → Option (Bool)
  | 0, _, _, _, _ => none
  | k + 1, x0, x3, x8, x40 => if x40 = true then (none) else (if x8 = 0 then ((ltext_Print.f k x3).bind fun bt420 => (if bt420.1.toList = x0.toList then (if bt420.2 = 0 then ((boarderlaw24_knows.f k).bind fun t422 => (some t422)) else (none)) else (none))) else ((boarderlaw24_knows.f k).bind fun t423 => (some t423)))
def boarderlaw24_LeaseParses.f (k : Nat) (a0 : ByteArray) : Option (Bool) := if (a0.size : Int) > 20000 then ((boarderlaw24_knows.f k).bind fun t408 => (some t408)) else ((ltext_Parse.f k a0).bind fun bt409 => ((boarderref24_Parse.f k a0).bind fun bt414 => ((boarderref10_SameLeases.f k bt409.1 bt414.1).bind fun t419 => (if t419 = true then (if bt409.2.1 = bt414.2.1 then (boarderlaw24_LeaseParses.j0 k a0 bt409.1 bt414.2.2 (bt409.2.2 != bt414.2.2)) else (boarderlaw24_LeaseParses.j0 k a0 bt409.1 bt414.2.2 true)) else (boarderlaw24_LeaseParses.j0 k a0 bt409.1 bt414.2.2 true)))))
set_option maxHeartbeats 8000000 in
set_option maxRecDepth 100000 in
theorem boarderlaw24_LeaseParses.calls (k : Nat) (a0 : ByteArray) (r : Bool) (w : World) (hT : TabW w) (h : boarderlaw24_LeaseParses.f k a0 = some r) :
    Calls Tryd.prog 7 #[.string a0] w fun e w' => e = .returned (.bool r) ∧ Below w.heap.size w w' := by
 have HT := Aside0.mk hT
 clear hT
 have HRT1 := Aside0.mk HT.out.t1
 have HRT0 := Aside0.mk HT.out.t0
 have HB := Aside0.mk (Below.refl w.heap.size w)
 have H : (if (a0.size : Int) > 20000 then ((boarderlaw24_knows.f k).bind fun t408 => (some t408)) else ((ltext_Parse.f k a0).bind fun bt409 => ((boarderref24_Parse.f k a0).bind fun bt414 => ((boarderref10_SameLeases.f k bt409.1 bt414.1).bind fun t419 => (if t419 = true then (if bt409.2.1 = bt414.2.1 then (boarderlaw24_LeaseParses.j0 k a0 bt409.1 bt414.2.2 (bt409.2.2 != bt414.2.2)) else (boarderlaw24_LeaseParses.j0 k a0 bt409.1 bt414.2.2 true)) else (boarderlaw24_LeaseParses.j0 k a0 bt409.1 bt414.2.2 true)))))) = some r := h
 clear h
 by_cases c2 : (a0.size : Int) > 20000
 · rw [if_pos c2] at H
   have c2b0 : decide (20000 < (a0.size : Int)) = true := decide_eq_true c2
   have c2b1 : decide (20000 < a0.size) = true := decide_eq_true (by omega)
   clear c2
   replace H := Option.bind_eq_some_iff.mp H
   obtain ⟨t408, A30, H⟩ := H
   replace H : (some t408) = some r := H
   have A3 := Aside0.mk A30
   clear A30
   obtain rfl := Option.some.inj H
   go_enter Tryd.func7, Tryd.ntmps7
   go_wp2_with (first | ((with_reducible refine gate_callee (f := 12) rfl ?_); refine goesL_ (some 14) rfl rfl Tryd.func12 (by kernel_rfl) rfl #[] rfl sqA ?_; (with_reducible refine (boarderlaw24_knows.calls k  t408 _ ?side1 A3.out).mono ?_); (case side1 => first | exact HT.out | exact TabW.below HT.out (sqB HB.out) | exact TabW.drawn HT.out ⟨_, rfl⟩); rintro e w4 ⟨rfl, hb⟩; refine ⟨_, rfl, ?_⟩; replace HB := sqM (below_step (sqB HB.out) hb); (try clear hb); (try clear hb2); (try clear hk); (try clear hi)))
   go_ret
   exact ⟨sqE, sqB HB.out⟩
 rw [if_neg c2] at H
 have c2b0 : decide (20000 < (a0.size : Int)) = false := decide_eq_false c2
 have c2b1 : decide (20000 < a0.size) = false := decide_eq_false (by omega)
 clear c2
 replace H := Option.bind_eq_some_iff.mp H
 obtain ⟨⟨t409, t410, t411⟩, A50, H⟩ := H
 replace H : ((boarderref24_Parse.f k a0).bind fun bt414 => ((boarderref10_SameLeases.f k t409 bt414.1).bind fun t419 => (if t419 = true then (if t410 = bt414.2.1 then (boarderlaw24_LeaseParses.j0 k a0 t409 bt414.2.2 (t411 != bt414.2.2)) else (boarderlaw24_LeaseParses.j0 k a0 t409 bt414.2.2 true)) else (boarderlaw24_LeaseParses.j0 k a0 t409 bt414.2.2 true)))) = some r := H
 have A5 := Aside0.mk A50
 clear A50
 replace H := Option.bind_eq_some_iff.mp H
 obtain ⟨⟨t414, t415, t416⟩, A60, H⟩ := H
 replace H : ((boarderref10_SameLeases.f k t409 t414).bind fun t419 => (if t419 = true then (if t410 = t415 then (boarderlaw24_LeaseParses.j0 k a0 t409 t416 (t411 != t416)) else (boarderlaw24_LeaseParses.j0 k a0 t409 t416 true)) else (boarderlaw24_LeaseParses.j0 k a0 t409 t416 true))) = some r := H
 have A6 := Aside0.mk A60
 clear A60
 have HC7 := Aside0.mk H
 clear H
 go_enter Tryd.func7, Tryd.ntmps7
 go_upto_region 5 with (first | ((with_reducible refine gate_callee (f := 21) rfl ?_); refine goesL_ (some 17) rfl rfl Tryd.func21 (by kernel_rfl) rfl #[.string a0] rfl sqA ?_; (with_reducible refine (ltext_Parse.calls _ _ _ _ _ _ ?side1 A5.out).mono ?_); (case side1 => first | exact HT.out | exact TabW.below HT.out (sqB HB.out) | exact TabW.drawn HT.out ⟨_, rfl⟩); rintro e w8 ⟨v412, rfl, ho0, hb⟩; refine ⟨_, rfl, ?_⟩; have HO413 := sqM (Kd.R_lower ho0 (below_size (sqB HB.out))); replace HB := sqM (below_step (sqB HB.out) hb); (try clear hb); (try clear hb2); (try clear hk); (try clear hi); (try clear ho0)) | ((with_reducible refine gate_callee (f := 24) rfl ?_); refine goesL_ (some 23) rfl rfl Tryd.func24 (by kernel_rfl) rfl #[.string a0] rfl sqA ?_; (with_reducible refine (boarderref24_Parse.calls _ _ _ _ _ _ A6.out).mono ?_); rintro e w9 ⟨v417, rfl, ho0, hb⟩; refine ⟨_, rfl, ?_⟩; have HO418 := sqM (Kd.R_lower (Kd.R_new' ho0 (Kd.R_lt (sqR HO413.out))) (below_size (sqB HB.out))); replace HO413 := sqM (Kd.R_elder' (sqR HO413.out) (Kd.R_base ho0) hb); replace HB := sqM (below_step (sqB HB.out) hb); (try clear hb); (try clear hb2); (try clear hk); (try clear hi); (try clear ho0)))
 (try simp only [Act.put, List.setIfInBounds_toArray, List.set_cons_zero, List.set_cons_succ])
 go_cut [40] (fun v40 wc => ∃ (kq : Nat) (x40_6 : Bool), v40 = .bool x40_6 ∧ Aside0 (boarderlaw24_LeaseParses.j0 kq a0 t409 t416 x40_6 = some r) ∧ Aside0 (kq ≤ k) ∧ Aside0 (Kd.R k23 23 wc w.heap.size (fun _ => True) v412 t409) ∧ Aside0 (Below w.heap.size w wc))
 case first =>
  have H := HC7.out
  clear HC7
  replace H := Option.bind_eq_some_iff.mp H
  obtain ⟨t419, A100, H⟩ := H
  replace H : (if t419 = true then (if t410 = t415 then (boarderlaw24_LeaseParses.j0 k a0 t409 t416 (t411 != t416)) else (boarderlaw24_LeaseParses.j0 k a0 t409 t416 true)) else (boarderlaw24_LeaseParses.j0 k a0 t409 t416 true)) = some r := H
  have A10 := Aside0.mk A100
  clear A100
  by_cases c11 : t419 = true
  rotate_left
  · replace c11 := Bool.eq_false_iff.mpr c11
    subst c11
    have H1 : (boarderlaw24_LeaseParses.j0 k a0 t409 t416 true) = some r := by rw [if_neg (show ¬ (false = true) by decide)] at H; exact H
    clear H
    have H := H1
    clear H1
    have H' := Aside0.mk H
    clear H
    obtain ⟨Ao17, co17, eo17⟩ := Kd.R_slice HO413.out
    subst eo17
    obtain ⟨Ao18, co18, eo18⟩ := Kd.R_slice HO418.out
    subst eo18
    go_wp2_with (first | ((with_reducible refine gate_callee (f := 23) rfl ?_); refine goesL_ (some 29) rfl rfl Tryd.func23 (by kernel_rfl) rfl #[.slice Ao17 t409.length co17, .slice Ao18 t414.length co18] rfl sqA ?_; (with_reducible refine (boarderref10_SameLeases.calls _ _ _ _ _ _ _ _ _ ?side1 ?side2 ?side3 ?side4 A10.out).mono ?_); (case side1 => repeat (first | exact (Kd.R_reads' HO413.out).2.2 | (with_reducible refine Kd.C_alloc ?_ _) | (with_reducible refine Kd.C_drewN ?_ _) | (with_reducible refine Kd.C_drew ?_))); (case side2 => exact (Kd.R_reads' HO413.out).2.1); (case side3 => repeat (first | exact (Kd.R_reads' HO418.out).2.2 | (with_reducible refine Kd.C_alloc ?_ _) | (with_reducible refine Kd.C_drewN ?_ _) | (with_reducible refine Kd.C_drew ?_))); (case side4 => exact (Kd.R_reads' HO418.out).2.1); rintro e w' ⟨rfl, ⟨nd, rfl⟩⟩; refine ⟨_, rfl, ?_⟩))
    go_meet
    case rel => exact ⟨_, (true), sqI, H', ⟨by first | omega | exact Nat.le_refl _⟩, ⟨by refine sqR ?_; exact Kd.R_mono HO413.out (fun _ hk => trivial)⟩, ⟨sqB HB.out⟩⟩
  subst c11
  have H1 : (if t410 = t415 then (boarderlaw24_LeaseParses.j0 k a0 t409 t416 (t411 != t416)) else (boarderlaw24_LeaseParses.j0 k a0 t409 t416 true)) = some r := by rw [if_pos rfl] at H; exact H
  clear H
  have H := H1
  clear H1
  by_cases c12 : t410 = t415
  rotate_left
  · rw [if_neg c12] at H
    have c12b0 : (t410 == t415) = false := beq_eq_false_iff_ne.mpr c12
    have c12b1 : (t410 != t415) = true := bne_iff_ne.mpr c12
    (first | rw [c12b0] | (simp only [i64_w, i32_w]; rw [c12b0]) | skip)
    have H' := Aside0.mk H
    clear H
    obtain ⟨Ao15, co15, eo15⟩ := Kd.R_slice HO413.out
    subst eo15
    obtain ⟨Ao16, co16, eo16⟩ := Kd.R_slice HO418.out
    subst eo16
    go_wp2_with (first | ((with_reducible refine gate_callee (f := 23) rfl ?_); refine goesL_ (some 29) rfl rfl Tryd.func23 (by kernel_rfl) rfl #[.slice Ao15 t409.length co15, .slice Ao16 t414.length co16] rfl sqA ?_; (with_reducible refine (boarderref10_SameLeases.calls _ _ _ _ _ _ _ _ _ ?side1 ?side2 ?side3 ?side4 A10.out).mono ?_); (case side1 => repeat (first | exact (Kd.R_reads' HO413.out).2.2 | (with_reducible refine Kd.C_alloc ?_ _) | (with_reducible refine Kd.C_drewN ?_ _) | (with_reducible refine Kd.C_drew ?_))); (case side2 => exact (Kd.R_reads' HO413.out).2.1); (case side3 => repeat (first | exact (Kd.R_reads' HO418.out).2.2 | (with_reducible refine Kd.C_alloc ?_ _) | (with_reducible refine Kd.C_drewN ?_ _) | (with_reducible refine Kd.C_drew ?_))); (case side4 => exact (Kd.R_reads' HO418.out).2.1); rintro e w' ⟨rfl, ⟨nd, rfl⟩⟩; refine ⟨_, rfl, ?_⟩))
    go_meet
    case rel => exact ⟨_, (true), sqI, H', ⟨by first | omega | exact Nat.le_refl _⟩, ⟨by refine sqR ?_; exact Kd.R_mono HO413.out (fun _ hk => trivial)⟩, ⟨sqB HB.out⟩⟩
  rw [if_pos c12] at H
  have c12b0 : (t410 == t415) = true := beq_iff_eq.mpr c12
  have c12b1 : (t410 != t415) = false := bne_eq_false_iff_eq.mpr c12
  clear c12
  (first | rw [c12b0] | (simp only [i64_w, i32_w]; rw [c12b0]) | skip)
  have H' := Aside0.mk H
  clear H
  obtain ⟨Ao13, co13, eo13⟩ := Kd.R_slice HO413.out
  subst eo13
  obtain ⟨Ao14, co14, eo14⟩ := Kd.R_slice HO418.out
  subst eo14
  go_wp2_with (first | ((with_reducible refine gate_callee (f := 23) rfl ?_); refine goesL_ (some 29) rfl rfl Tryd.func23 (by kernel_rfl) rfl #[.slice Ao13 t409.length co13, .slice Ao14 t414.length co14] rfl sqA ?_; (with_reducible refine (boarderref10_SameLeases.calls _ _ _ _ _ _ _ _ _ ?side1 ?side2 ?side3 ?side4 A10.out).mono ?_); (case side1 => repeat (first | exact (Kd.R_reads' HO413.out).2.2 | (with_reducible refine Kd.C_alloc ?_ _) | (with_reducible refine Kd.C_drewN ?_ _) | (with_reducible refine Kd.C_drew ?_))); (case side2 => exact (Kd.R_reads' HO413.out).2.1); (case side3 => repeat (first | exact (Kd.R_reads' HO418.out).2.2 | (with_reducible refine Kd.C_alloc ?_ _) | (with_reducible refine Kd.C_drewN ?_ _) | (with_reducible refine Kd.C_drew ?_))); (case side4 => exact (Kd.R_reads' HO418.out).2.1); rintro e w' ⟨rfl, ⟨nd, rfl⟩⟩; refine ⟨_, rfl, ?_⟩))
  go_meet
  case rel => exact ⟨_, ((t411 != t416)), sqI, H', ⟨by first | omega | exact Nat.le_refl _⟩, ⟨by refine sqR ?_; exact Kd.R_mono HO413.out (fun _ hk => trivial)⟩, ⟨sqB HB.out⟩⟩
 clear HC7
 try clear c1
 try clear c2
 try clear c2b0
 try clear c2b1
 try clear p2
 try clear c7
 try clear c11
 try clear c12
 try clear c12b0
 try clear c12b1
 obtain ⟨kq, x40_6, rfl, HA, HJ6, HO_3, HB⟩ := hcut
 cases kq with
 | zero => exact absurd HA.out (by simp [boarderlaw24_LeaseParses.j0])
 | succ kj6 => ?_
 have H := HA.out
 clear HA
 simp only [boarderlaw24_LeaseParses.j0] at H
 by_cases c19 : x40_6 = true
 · subst c19
   have H1 : (none) = some r := by rw [if_pos rfl] at H; exact H
   clear H
   have H := H1
   clear H1
   exact absurd H (by simp)
 replace c19 := Bool.eq_false_iff.mpr c19
 subst c19
 have H1 : (if t416 = 0 then ((ltext_Print.f kj6 t409).bind fun bt420 => (if bt420.1.toList = a0.toList then (if bt420.2 = 0 then ((boarderlaw24_knows.f kj6).bind fun t422 => (some t422)) else (none)) else (none))) else ((boarderlaw24_knows.f kj6).bind fun t423 => (some t423))) = some r := by rw [if_neg (show ¬ (false = true) by decide)] at H; exact H
 clear H
 have H := H1
 clear H1
 by_cases c20 : t416 = 0
 rotate_left
 · rw [if_neg c20] at H
   have c20b0 : (t416 == 0) = false := beq_eq_false_iff_ne.mpr c20
   have c20b1 : (t416 != 0) = true := bne_iff_ne.mpr c20
   replace H := Option.bind_eq_some_iff.mp H
   obtain ⟨t423, A280, H⟩ := H
   replace H : (some t423) = some r := H
   have A28 := Aside0.mk A280
   clear A280
   obtain rfl := Option.some.inj H
   go_wp2_with (first | ((with_reducible refine gate_callee (f := 12) rfl ?_); refine goesL_ (some 43) rfl rfl Tryd.func12 (by kernel_rfl) rfl #[] rfl sqA ?_; (with_reducible refine (boarderlaw24_knows.calls kj6  t423 _ ?side1 A28.out).mono ?_); (case side1 => first | exact HT.out | exact TabW.below HT.out (sqB HB.out) | exact TabW.drawn HT.out ⟨_, rfl⟩); rintro e w29 ⟨rfl, hb⟩; refine ⟨_, rfl, ?_⟩; replace HO_3 := sqM (Kd.R_below (sqR HO_3.out) hb); replace HB := sqM (below_step (sqB HB.out) hb); (try clear hb); (try clear hb2); (try clear hk); (try clear hi)))
   go_ret
   exact ⟨sqE, sqB HB.out⟩
 rw [if_pos c20] at H
 have c20b0 : (t416 == 0) = true := beq_iff_eq.mpr c20
 have c20b1 : (t416 != 0) = false := bne_eq_false_iff_eq.mpr c20
 clear c20
 replace H := Option.bind_eq_some_iff.mp H
 obtain ⟨⟨t420, t421⟩, A210, H⟩ := H
 replace H : (if t420.toList = a0.toList then (if t421 = 0 then ((boarderlaw24_knows.f kj6).bind fun t422 => (some t422)) else (none)) else (none)) = some r := H
 have A21 := Aside0.mk A210
 clear A210
 by_cases c22 : t420.toList = a0.toList
 rotate_left
 · rw [if_neg c22] at H
   exact absurd H (by simp)
 rw [if_pos c22] at H
 have c22b0 : (t420.toList == a0.toList) = true := beq_iff_eq.mpr c22
 have c22b1 : (t420.toList != a0.toList) = false := bne_eq_false_iff_eq.mpr c22
 clear c22
 by_cases c23 : t421 = 0
 rotate_left
 · rw [if_neg c23] at H
   exact absurd H (by simp)
 rw [if_pos c23] at H
 have c23b0 : (t421 == 0) = true := beq_iff_eq.mpr c23
 have c23b1 : (t421 != 0) = false := bne_eq_false_iff_eq.mpr c23
 clear c23
 replace H := Option.bind_eq_some_iff.mp H
 obtain ⟨t422, A240, H⟩ := H
 replace H : (some t422) = some r := H
 have A24 := Aside0.mk A240
 clear A240
 obtain rfl := Option.some.inj H
 obtain ⟨Ao25, co25, eo25⟩ := Kd.R_slice HO_3.out
 subst eo25
 go_wp2_with (first | ((with_reducible refine gate_callee (f := 19) rfl ?_); refine goesL_ (some 46) rfl rfl Tryd.func19 (by kernel_rfl) rfl #[.slice Ao25 t409.length co25] rfl sqA ?_; (with_reducible refine (ltext_Print.calls _ _ _ _ _ _ _ ?side1 ?side2 ?side3 A21.out).mono ?_); (case side1 => repeat (first | exact (Kd.R_reads' HO_3.out).2.2 | (with_reducible refine Kd.C_alloc ?_ _) | (with_reducible refine Kd.C_drewN ?_ _) | (with_reducible refine Kd.C_drew ?_))); (case side2 => exact (Kd.R_reads' HO_3.out).2.1); (case side3 => first | exact HT.out | exact TabW.below HT.out (sqB HB.out) | exact TabW.drawn HT.out ⟨_, rfl⟩); rintro e w26 ⟨rfl, hb⟩; refine ⟨_, rfl, ?_⟩; replace HO_3 := sqM (Kd.R_below (sqR HO_3.out) hb); replace HB := sqM (below_step (sqB HB.out) hb); (try clear hb); (try clear hb2); (try clear hk); (try clear hi)) | (go_at_call 12; (with_reducible refine (boarderlaw24_knows.calls kj6  t422 _ ?side1 A24.out).mono ?_); (case side1 => first | exact HT.out | exact TabW.below HT.out (sqB HB.out) | exact TabW.drawn HT.out ⟨_, rfl⟩); rintro e w27 ⟨rfl, hb⟩; replace HO_3 := sqM (Kd.R_below (sqR HO_3.out) hb); replace HB := sqM (below_step (sqB HB.out) hb); (try clear hb); (try clear hb2); (try clear hk); (try clear hi)))
 go_ret
 exact ⟨sqE, sqB HB.out⟩

end Go.Proofs.YtdajdpgnhjlbaaaDoor.PLease
