/- Lean functions for Go functions of the given program, and proofs that the code computes them, each under its theorem's own conditions. Written by a program of this session. -/
import Derived.Test.YtdajdpgnhjlbaaaDoorPLeasex0
import Derived.Test.YtdajdpgnhjlbaaaDoorPLeasex6
import Derived.Test.YtdajdpgnhjlbaaaDoorPLeasex7
namespace Go.Proofs.YtdajdpgnhjlbaaaDoor.PLease
open Go.RowKit Go.Proofs.YtdajdpgnhjlbaaaDoorW.PrintWords Go.Proofs.YtdajdpgnhjlbaaaDoorW.PrintLast Go.Proofs.YtdajdpgnhjlbaaaDoorW.PrintMore
attribute [local go_sem] max2_int min2_int max_two min_two max_three min_three max_four min_four   -- for this text's walks alone
set_option linter.unusedVariables false
set_option linter.unusedSimpArgs false

/-! ### boarderref23_Words: function 47 -/
def boarderref23_Words.l0 : Nat → ByteArray → List ByteArray → Int → Int → Option (List ByteArray)
  | 0, _, _, _, _ => none
  | k + 1, x0, x3, x4, x5 => if x5 ≤ (x0.size : Int) then (if x5 = (x0.size : Int) then (if 0 ≤ x4 then (if x4 ≤ x5 then (if x3.length < 8796093022208 then (boarderref23_Words.l0 k x0 (x3 ++ [x0.extract (x4 : Int).toNat (x5 : Int).toNat]) (wrap64 (x5 + 1)) (wrap64 (x5 + 1))) else (none)) else (none)) else (none)) else (if 0 ≤ x5 then (if x5 < (x0.size : Int) then (if (bt x0 x5) = 32 then (if 0 ≤ x4 then (if x4 ≤ x5 then (if x3.length < 8796093022208 then (boarderref23_Words.l0 k x0 (x3 ++ [x0.extract (x4 : Int).toNat (x5 : Int).toNat]) (wrap64 (x5 + 1)) (wrap64 (x5 + 1))) else (none)) else (none)) else (none)) else (boarderref23_Words.l0 k x0 x3 x4 (wrap64 (x5 + 1)))) else (none)) else (none))) else (some x3)
def boarderref23_Words.f (k : Nat) (a0 : ByteArray) : Option (List ByteArray) := boarderref23_Words.l0 k a0 ([] : List ByteArray) 0 0
set_option maxHeartbeats 8000000 in
set_option maxRecDepth 100000 in
theorem boarderref23_Words.calls (k : Nat) (a0 : ByteArray) (r : List ByteArray) (w : World) (h : boarderref23_Words.f k a0 = some r) :
    Calls Tryd.prog 47 #[.string a0] w fun e w' => ∃ v0_ : Value, e = .returned (v0_) ∧ Kd.R Kd.string 9 w' w.heap.size (fun _ => True) v0_ r ∧ Below w.heap.size w w' := by
 have HB := Aside0.mk (Below.refl w.heap.size w)
 have H : (boarderref23_Words.l0 k a0 ([] : List ByteArray) 0 0) = some r := h
 clear h
 have H' := Aside0.mk H
 clear H
 go_enter Tryd.func47, Tryd.ntmps47
 go_wp2
 go_loopg [3, 4, 5] k (fun kq v3 v4 v5 w' => ∃ (x3_1 : List ByteArray) (x4_1 : Int) (x5_1 : Int), v4 = .int .i64 x4_1 ∧ v5 = .int .i64 x5_1 ∧ Aside0 (boarderref23_Words.l0 kq a0 x3_1 x4_1 x5_1 = some r) ∧ Aside0 (kq ≤ k) ∧ Aside0 (Kd.R Kd.string 9 w' w.heap.size (fun _ => True) v3 x3_1) ∧ Aside0 (Below w.heap.size w w'))
 case atStart => exact ⟨(([] : List ByteArray)), (0), (0), sqI, sqI, H', ⟨Nat.le_refl _⟩, ⟨by first | exact Kd.R_nil _ _ _ _ _ | exact Kd.N_nil _ _ _ _ _ | exact Kd.V_nil _ _ _ _ _ | exact Kd.Q_nil _ _ _ _ _ | exact Kd.S_nil _ _ _ _ _⟩, ⟨sqB HB.out⟩⟩
 clear H'
 obtain ⟨x3_1, x4_1, x5_1, rfl, rfl, HA, HK1, HO_3, HB⟩ := hrel
 cases gk with
 | zero => exact absurd HA.out (by simp [boarderref23_Words.l0])
 | succ k1 => ?_
 have H := HA.out
 clear HA
 simp only [boarderref23_Words.l0] at H
 by_cases c2 : x5_1 ≤ (a0.size : Int)
 rotate_left
 · rw [if_neg c2] at H
   have c2b0 : decide (x5_1 ≤ (a0.size : Int)) = false := decide_eq_false c2
   clear c2
   obtain rfl := Option.some.inj H
   go_wp2
   go_ret
   exact ⟨_, sqE, by refine sqR ?_; exact HO_3.out, sqB HB.out⟩
 rw [if_pos c2] at H
 have c2b0 : decide (x5_1 ≤ (a0.size : Int)) = true := decide_eq_true c2
 clear c2
 by_cases c3 : x5_1 = (a0.size : Int)
 · rw [if_pos c3] at H
   have c3b0 : (x5_1 == (a0.size : Int)) = true := beq_iff_eq.mpr c3
   have c3b1 : (x5_1 != (a0.size : Int)) = false := bne_eq_false_iff_eq.mpr c3
   clear c3
   by_cases c4 : 0 ≤ x4_1
   rotate_left
   · rw [if_neg c4] at H
     exact absurd H (by simp)
   rw [if_pos c4] at H
   have c4b0 := eq_true c4
   have c4b1 : decide (0 ≤ x4_1) = true := decide_eq_true c4
   clear c4
   by_cases c5 : x4_1 ≤ x5_1
   rotate_left
   · rw [if_neg c5] at H
     exact absurd H (by simp)
   rw [if_pos c5] at H
   have c5b0 := eq_true c5
   have c5b1 : decide (x4_1 ≤ x5_1) = true := decide_eq_true c5
   clear c5
   have c6b0 := eq_true (of_decide_eq_true sqH : x5_1 ≤ (a0.size : Int))
   by_cases c7 : x3_1.length < 8796093022208
   rotate_left
   · rw [if_neg c7] at H
     exact absurd H (by simp)
   rw [if_pos c7] at H
   have LMc7 := Aside0.mk c7
   clear c7
   obtain ⟨y304, hy304⟩ : ∃ y_ : List ByteArray, y_ = (x3_1 ++ [a0.extract (x4_1 : Int).toNat (x5_1 : Int).toNat]) := ⟨_, rfl⟩
   replace H : (boarderref23_Words.l0 k1 a0 y304 (wrap64 (x5_1 + 1)) (wrap64 (x5_1 + 1))) = some r := by first | (rw [hy304]; with_reducible exact H) | (have H2_ := (Option.bind_some _ _).symm.trans H; rw [hy304]; with_reducible exact H2_) | (have H2_ := (Option.bind_some _ _).symm.trans H; with_reducible exact H2_) | with_reducible exact H | (rw [hy304]; exact H) | exact H
   have Ny304 := Aside0.mk hy304
   clear hy304
   have H' := Aside0.mk H
   clear H
   go_wp2_with (first | ((with_reducible refine gate_builtin (b := .append) (xs := #[.tmp 22, .tmp 27]) rfl ?_); at_builtin; refine Kd.R_append Kd.string (w0 := w) w.heap.size rfl (.tmp 22) (.tmp 27) 70 9 (.string ⟨#[]⟩) 16 rfl Tryd.underlying70 info9 rfl (by decide) (by omega) u3 x3_1 (a0.extract (x4_1 : Int).toNat (x5_1 : Int).toNat) [.string (a0.extract (x4_1 : Int).toNat (x5_1 : Int).toNat)] (fun _ => True) (fun _ => False) rfl rfl ?aP (fun _ hk => hk.elim) ?aF ?aO ?aB ?aS ?aL ?_; (case aP => exact rfl); (case aB => exact (sqB HB.out)); (case aF => exact (fun _ _ => trivial)); (case aO => exact (sqR HO_3.out)); (case aS => exact (below_size (sqB HB.out))); (case aL => have := LMc7.out; omega); intro v305 w8 ho hb hg hat; rw [← Ny304.out] at ho; have HO306 := sqM (ho); replace HB := sqM (hb); clear HO_3; clear ho hb hg hat))
   go_roundg k1
   case measure => have := HK1.out; omega
   case rel => exact ⟨(y304), (wrap64 (x5_1 + 1)), (wrap64 (x5_1 + 1)), sqI, sqI, H', ⟨by have := HK1.out; omega⟩, ⟨sqR HO306.out⟩, ⟨sqB HB.out⟩⟩
 rw [if_neg c3] at H
 have c3b0 : (x5_1 == (a0.size : Int)) = false := beq_eq_false_iff_ne.mpr c3
 have c3b1 : (x5_1 != (a0.size : Int)) = true := bne_iff_ne.mpr c3
 by_cases c9 : 0 ≤ x5_1
 rotate_left
 · rw [if_neg c9] at H
   exact absurd H (by simp)
 rw [if_pos c9] at H
 have c9b0 : decide (0 ≤ x5_1) = true := decide_eq_true c9
 clear c9
 by_cases c10 : x5_1 < (a0.size : Int)
 rotate_left
 · rw [if_neg c10] at H
   exact absurd H (by simp)
 rw [if_pos c10] at H
 have c10b0 : decide (x5_1 < (a0.size : Int)) = true := decide_eq_true c10
 clear c10
 by_cases c12 : (bt a0 x5_1) = 32
 rotate_left
 · rw [if_neg c12] at H
   have c12b0 : ((bt a0 x5_1) == 32) = false := beq_eq_false_iff_ne.mpr c12
   have c12b1 : ((bt a0 x5_1) != 32) = true := bne_iff_ne.mpr c12
   have H' := Aside0.mk H
   clear H
   have p11 : 0 ≤ (x5_1 : Int) := of_decide_eq_true sqH
   have q11 : x5_1 < (a0.size : Int) := of_decide_eq_true sqH
   have hx11 := bt_at a0 x5_1
   replace p11 := eq_true p11
   replace q11 := eq_true q11
   go_wp2
   go_roundg k1
   case measure => have := HK1.out; omega
   case rel => exact ⟨(x3_1), (x4_1), (wrap64 (x5_1 + 1)), sqI, sqI, H', ⟨by have := HK1.out; omega⟩, ⟨sqR HO_3.out⟩, ⟨sqB HB.out⟩⟩
 rw [if_pos c12] at H
 have c12b0 : ((bt a0 x5_1) == 32) = true := beq_iff_eq.mpr c12
 have c12b1 : ((bt a0 x5_1) != 32) = false := bne_eq_false_iff_eq.mpr c12
 clear c12
 by_cases c13 : 0 ≤ x4_1
 rotate_left
 · rw [if_neg c13] at H
   exact absurd H (by simp)
 rw [if_pos c13] at H
 have c13b0 := eq_true c13
 have c13b1 : decide (0 ≤ x4_1) = true := decide_eq_true c13
 clear c13
 by_cases c14 : x4_1 ≤ x5_1
 rotate_left
 · rw [if_neg c14] at H
   exact absurd H (by simp)
 rw [if_pos c14] at H
 have c14b0 := eq_true c14
 have c14b1 : decide (x4_1 ≤ x5_1) = true := decide_eq_true c14
 clear c14
 have c15b0 := eq_true (of_decide_eq_true sqH : x5_1 ≤ (a0.size : Int))
 by_cases c16 : x3_1.length < 8796093022208
 rotate_left
 · rw [if_neg c16] at H
   exact absurd H (by simp)
 rw [if_pos c16] at H
 have LMc16 := Aside0.mk c16
 clear c16
 obtain ⟨y307, hy307⟩ : ∃ y_ : List ByteArray, y_ = (x3_1 ++ [a0.extract (x4_1 : Int).toNat (x5_1 : Int).toNat]) := ⟨_, rfl⟩
 replace H : (boarderref23_Words.l0 k1 a0 y307 (wrap64 (x5_1 + 1)) (wrap64 (x5_1 + 1))) = some r := by first | (rw [hy307]; with_reducible exact H) | (have H2_ := (Option.bind_some _ _).symm.trans H; rw [hy307]; with_reducible exact H2_) | (have H2_ := (Option.bind_some _ _).symm.trans H; with_reducible exact H2_) | with_reducible exact H | (rw [hy307]; exact H) | exact H
 have Ny307 := Aside0.mk hy307
 clear hy307
 have H' := Aside0.mk H
 clear H
 have p11 : 0 ≤ (x5_1 : Int) := of_decide_eq_true sqH
 have q11 : x5_1 < (a0.size : Int) := of_decide_eq_true sqH
 have hx11 := bt_at a0 x5_1
 replace p11 := eq_true p11
 replace q11 := eq_true q11
 go_wp2_with (first | ((with_reducible refine gate_builtin (b := .append) (xs := #[.tmp 22, .tmp 27]) rfl ?_); at_builtin; refine Kd.R_append Kd.string (w0 := w) w.heap.size rfl (.tmp 22) (.tmp 27) 70 9 (.string ⟨#[]⟩) 16 rfl Tryd.underlying70 info9 rfl (by decide) (by omega) u3 x3_1 (a0.extract (x4_1 : Int).toNat (x5_1 : Int).toNat) [.string (a0.extract (x4_1 : Int).toNat (x5_1 : Int).toNat)] (fun _ => True) (fun _ => False) rfl rfl ?aP (fun _ hk => hk.elim) ?aF ?aO ?aB ?aS ?aL ?_; (case aP => exact rfl); (case aB => exact (sqB HB.out)); (case aF => exact (fun _ _ => trivial)); (case aO => exact (sqR HO_3.out)); (case aS => exact (below_size (sqB HB.out))); (case aL => have := LMc16.out; omega); intro v308 w17 ho hb hg hat; rw [← Ny307.out] at ho; have HO309 := sqM (ho); replace HB := sqM (hb); clear HO_3; clear ho hb hg hat))
 go_roundg k1
 case measure => have := HK1.out; omega
 case rel => exact ⟨(y307), (wrap64 (x5_1 + 1)), (wrap64 (x5_1 + 1)), sqI, sqI, H', ⟨by have := HK1.out; omega⟩, ⟨sqR HO309.out⟩, ⟨sqB HB.out⟩⟩

/-! ### boarderref01_Parse: function 48 -/
mutual
def boarderref01_Parse.l0 : Nat → ByteArray → Int → Int → Int → Option (Int × Bool)
  | 0, _, _, _, _ => none
  | k + 1, x0, x4, x5, x6 => if x6 < (x0.size : Int) then (if 0 ≤ x6 then (if (bt x0 x6) = 46 then (if 0 > 255 then (some (0, false)) else (if (wrap64 ((wrap64 (x4 * 256)) + x5)) > 16777215 then (some (0, false)) else (boarderref01_Parse.l0 k x0 (wrap64 ((wrap64 (x4 * 256)) + x5)) 0 (wrap64 (x6 + 1))))) else (if (bt x0 x6) < 48 then (boarderref01_Parse.j1 k x0 x4 x5 x6 true) else (boarderref01_Parse.j1 k x0 x4 x5 x6 (decide ((bt x0 x6) > 57))))) else (none)) else ((boarderref01_Text.f k (wrap64 ((wrap64 (x4 * 256)) + x5))).bind fun t310 => (if t310.toList = x0.toList then (some (wrap64 ((wrap64 (x4 * 256)) + x5), true)) else (some (0, false))))
def boarderref01_Parse.j1 : Nat → ByteArray → Int → Int → Int → Bool → Option (Int × Bool)
  | 0, _, _, _, _, _ => none
  | k + 1, x0, x4, x5, x6, x30 => if x30 = true then (some (0, false)) else (if 0 ≤ x6 then (if x6 < (x0.size : Int) then (if (wrap64 ((wrap64 ((wrap64 (x5 * 10)) + (wrap64 (bt x0 x6)))) - 48)) > 255 then (some (0, false)) else (if x4 > 16777215 then (some (0, false)) else (boarderref01_Parse.l0 k x0 x4 (wrap64 ((wrap64 ((wrap64 (x5 * 10)) + (wrap64 (bt x0 x6)))) - 48)) (wrap64 (x6 + 1))))) else (none)) else (none))
end
def boarderref01_Parse.f (k : Nat) (a0 : ByteArray) : Option (Int × Bool) := boarderref01_Parse.l0 k a0 0 0 0
set_option maxHeartbeats 8000000 in
set_option maxRecDepth 100000 in
theorem boarderref01_Parse.calls (k : Nat) (a0 : ByteArray) (r1 : Int) (r2 : Bool) (w : World) (h : boarderref01_Parse.f k a0 = some (r1, r2)) :
    Calls Tryd.prog 48 #[.string a0] w fun e w' => e = .returned (.tuple #[.int .i64 r1, .bool r2]) ∧ Below w.heap.size w w' := by
 have HB := Aside0.mk (Below.refl w.heap.size w)
 have H : (boarderref01_Parse.l0 k a0 0 0 0) = some (r1, r2) := h
 clear h
 have H' := Aside0.mk H
 clear H
 go_enter Tryd.func48, Tryd.ntmps48
 go_wp2
 go_loopg [4, 5, 6] k (fun kq v4 v5 v6 w' => ∃ (x4_1 : Int) (x5_1 : Int) (x6_1 : Int), v4 = .int .i64 x4_1 ∧ v5 = .int .i64 x5_1 ∧ v6 = .int .i64 x6_1 ∧ Aside0 (boarderref01_Parse.l0 kq a0 x4_1 x5_1 x6_1 = some (r1, r2)) ∧ Aside0 (kq ≤ k) ∧ Aside0 (Below w.heap.size w w'))
 case atStart => exact ⟨(0), (0), (0), sqI, sqI, sqI, H', ⟨Nat.le_refl _⟩, ⟨sqB HB.out⟩⟩
 clear H'
 obtain ⟨x4_1, x5_1, x6_1, rfl, rfl, rfl, HA, HK1, HB⟩ := hrel
 cases gk with
 | zero => exact absurd HA.out (by simp [boarderref01_Parse.l0])
 | succ k1 => ?_
 have H := HA.out
 clear HA
 simp only [boarderref01_Parse.l0] at H
 by_cases c2 : x6_1 < (a0.size : Int)
 rotate_left
 · rw [if_neg c2] at H
   have c2b0 : decide (x6_1 < (a0.size : Int)) = false := decide_eq_false c2
   clear c2
   replace H := Option.bind_eq_some_iff.mp H
   obtain ⟨t310, A180, H⟩ := H
   replace H : (if t310.toList = a0.toList then (some (wrap64 ((wrap64 (x4_1 * 256)) + x5_1), true)) else (some (0, false))) = some (r1, r2) := H
   have A18 := Aside0.mk A180
   clear A180
   by_cases c19 : t310.toList = a0.toList
   rotate_left
   · rw [if_neg c19] at H
     have c19b0 : (t310.toList == a0.toList) = false := beq_eq_false_iff_ne.mpr c19
     have c19b1 : (t310.toList != a0.toList) = true := bne_iff_ne.mpr c19
     simp only [Option.some.injEq, Prod.mk.injEq] at H
     obtain ⟨rfl, rfl⟩ := H
     go_wp2_with (first | ((with_reducible refine gate_callee (f := 39) rfl ?_); refine goesL_ (some 50) rfl rfl Tryd.func39 (by kernel_rfl) rfl #[.int .i64 (wrap64 ((wrap64 (x4_1 * 256)) + x5_1))] rfl sqA ?_; (with_reducible refine (boarderref01_Text.calls _ _ _ _ A18.out).mono ?_); rintro e w21 ⟨rfl, hb⟩; refine ⟨_, rfl, ?_⟩; replace HB := sqM (below_step (sqB HB.out) hb); (try clear hb); (try clear hb2); (try clear hk); (try clear hi)))
     go_ret2
     exact ⟨sqE, sqB HB.out⟩
   rw [if_pos c19] at H
   have c19b0 : (t310.toList == a0.toList) = true := beq_iff_eq.mpr c19
   have c19b1 : (t310.toList != a0.toList) = false := bne_eq_false_iff_eq.mpr c19
   clear c19
   simp only [Option.some.injEq, Prod.mk.injEq] at H
   obtain ⟨rfl, rfl⟩ := H
   go_wp2_with (first | ((with_reducible refine gate_callee (f := 39) rfl ?_); refine goesL_ (some 50) rfl rfl Tryd.func39 (by kernel_rfl) rfl #[.int .i64 (wrap64 ((wrap64 (x4_1 * 256)) + x5_1))] rfl sqA ?_; (with_reducible refine (boarderref01_Text.calls _ _ _ _ A18.out).mono ?_); rintro e w20 ⟨rfl, hb⟩; refine ⟨_, rfl, ?_⟩; replace HB := sqM (below_step (sqB HB.out) hb); (try clear hb); (try clear hb2); (try clear hk); (try clear hi)))
   go_ret2
   exact ⟨sqE, sqB HB.out⟩
 rw [if_pos c2] at H
 have c2b0 : decide (x6_1 < (a0.size : Int)) = true := decide_eq_true c2
 clear c2
 by_cases c3 : 0 ≤ x6_1
 rotate_left
 · rw [if_neg c3] at H
   exact absurd H (by simp)
 rw [if_pos c3] at H
 have c3b0 : decide (0 ≤ x6_1) = true := decide_eq_true c3
 clear c3
 by_cases c5 : (bt a0 x6_1) = 46
 · rw [if_pos c5] at H
   have c5b0 : ((bt a0 x6_1) == 46) = true := beq_iff_eq.mpr c5
   have c5b1 : ((bt a0 x6_1) != 46) = false := bne_eq_false_iff_eq.mpr c5
   clear c5
   by_cases c6 : 0 > 255
   · rw [if_pos c6] at H
     exact absurd (c6) (by decide)
   rw [if_neg c6] at H
   have c6b0 : decide (255 < 0) = false := decide_eq_false c6
   clear c6
   by_cases c7 : (wrap64 ((wrap64 (x4_1 * 256)) + x5_1)) > 16777215
   · rw [if_pos c7] at H
     have c7b0 : decide (16777215 < (wrap64 ((wrap64 (x4_1 * 256)) + x5_1))) = true := decide_eq_true c7
     clear c7
     simp only [Option.some.injEq, Prod.mk.injEq] at H
     obtain ⟨rfl, rfl⟩ := H
     have p4 : 0 ≤ (x6_1 : Int) := of_decide_eq_true sqH
     have q4 : x6_1 < (a0.size : Int) := of_decide_eq_true sqH
     have hx4 := bt_at a0 x6_1
     replace p4 := eq_true p4
     replace q4 := eq_true q4
     go_wp2
     go_ret2
     exact ⟨sqE, sqB HB.out⟩
   rw [if_neg c7] at H
   have c7b0 : decide (16777215 < (wrap64 ((wrap64 (x4_1 * 256)) + x5_1))) = false := decide_eq_false c7
   clear c7
   have H' := Aside0.mk H
   clear H
   have p4 : 0 ≤ (x6_1 : Int) := of_decide_eq_true sqH
   have q4 : x6_1 < (a0.size : Int) := of_decide_eq_true sqH
   have hx4 := bt_at a0 x6_1
   replace p4 := eq_true p4
   replace q4 := eq_true q4
   go_wp2
   go_roundg k1
   case measure => have := HK1.out; omega
   case rel => exact ⟨(wrap64 ((wrap64 (x4_1 * 256)) + x5_1)), (0), (wrap64 (x6_1 + 1)), sqI, sqI, sqI, H', ⟨by have := HK1.out; omega⟩, ⟨sqB HB.out⟩⟩
 rw [if_neg c5] at H
 have c5b0 : ((bt a0 x6_1) == 46) = false := beq_eq_false_iff_ne.mpr c5
 have c5b1 : ((bt a0 x6_1) != 46) = true := bne_iff_ne.mpr c5
 have HC8 := Aside0.mk H
 clear H
 have p4 : 0 ≤ (x6_1 : Int) := of_decide_eq_true sqH
 have q4 : x6_1 < (a0.size : Int) := of_decide_eq_true sqH
 have hx4 := bt_at a0 x6_1
 replace p4 := eq_true p4
 replace q4 := eq_true q4
 go_upto_region 9 with (fail)
 go_cut [30] (fun v30 wc => ∃ (kq : Nat) (x30_7 : Bool), v30 = .bool x30_7 ∧ Aside0 (boarderref01_Parse.j1 kq a0 x4_1 x5_1 x6_1 x30_7 = some (r1, r2)) ∧ Aside0 (kq ≤ k1) ∧ Aside0 (Below w.heap.size w wc))
 case first =>
  have H := HC8.out
  clear HC8
  by_cases c10 : (bt a0 x6_1) < 48
  · rw [if_pos c10] at H
    have c10b0 : decide ((bt a0 x6_1) < 48) = true := decide_eq_true c10
    clear c10
    (first | rw [c10b0] | (simp only [i64_w, i32_w]; rw [c10b0]) | skip)
    have H' := Aside0.mk H
    clear H
    have p9 : 0 ≤ (x6_1 : Int) := of_decide_eq_true sqH
    have q9 : x6_1 < (a0.size : Int) := of_decide_eq_true sqH
    have hx9 := bt_at a0 x6_1
    replace p9 := eq_true p9
    replace q9 := eq_true q9
    go_wp2
    go_meet
    case rel => exact ⟨_, (true), sqI, H', ⟨by have := HK1.out; first | omega | exact Nat.le_refl _⟩, ⟨sqB HB.out⟩⟩
  rw [if_neg c10] at H
  have c10b0 : decide ((bt a0 x6_1) < 48) = false := decide_eq_false c10
  clear c10
  (first | rw [c10b0] | (simp only [i64_w, i32_w]; rw [c10b0]) | skip)
  have H' := Aside0.mk H
  clear H
  have p9 : 0 ≤ (x6_1 : Int) := of_decide_eq_true sqH
  have q9 : x6_1 < (a0.size : Int) := of_decide_eq_true sqH
  have hx9 := bt_at a0 x6_1
  replace p9 := eq_true p9
  replace q9 := eq_true q9
  have p11 : 0 ≤ (x6_1 : Int) := of_decide_eq_true sqH
  have q11 : x6_1 < (a0.size : Int) := of_decide_eq_true sqH
  have hx11 := bt_at a0 x6_1
  replace p11 := eq_true p11
  replace q11 := eq_true q11
  go_wp2
  go_meet
  case rel => exact ⟨_, (decide ((bt a0 x6_1) > 57)), sqI, H', ⟨by have := HK1.out; first | omega | exact Nat.le_refl _⟩, ⟨sqB HB.out⟩⟩
 clear HC8
 try clear c1
 try clear p1
 try clear q1
 try clear hx1
 try clear c2
 try clear c2b0
 try clear p2
 try clear c3
 try clear c3b0
 try clear c4
 try clear p4
 try clear q4
 try clear hx4
 try clear c5
 try clear c5b0
 try clear c5b1
 try clear c6
 try clear c6b0
 try clear p6
 try clear c7
 try clear c7b0
 try clear p9
 try clear q9
 try clear hx9
 try clear c10
 try clear c10b0
 try clear p11
 try clear q11
 try clear hx11
 try clear p11
 try clear p4
 try clear p9
 try clear q11
 try clear q4
 try clear q9
 obtain ⟨kq, x30_7, rfl, HA, HJ7, HB⟩ := hcut
 cases kq with
 | zero => exact absurd HA.out (by simp [boarderref01_Parse.j1])
 | succ kj7 => ?_
 have H := HA.out
 clear HA
 simp only [boarderref01_Parse.j1] at H
 by_cases c12 : x30_7 = true
 · subst c12
   have H1 : (some (0, false)) = some (r1, r2) := by rw [if_pos rfl] at H; exact H
   clear H
   have H := H1
   clear H1
   simp only [Option.some.injEq, Prod.mk.injEq] at H
   obtain ⟨rfl, rfl⟩ := H
   go_wp2
   go_ret2
   exact ⟨sqE, sqB HB.out⟩
 replace c12 := Bool.eq_false_iff.mpr c12
 subst c12
 have H1 : (if 0 ≤ x6_1 then (if x6_1 < (a0.size : Int) then (if (wrap64 ((wrap64 ((wrap64 (x5_1 * 10)) + (wrap64 (bt a0 x6_1)))) - 48)) > 255 then (some (0, false)) else (if x4_1 > 16777215 then (some (0, false)) else (boarderref01_Parse.l0 kj7 a0 x4_1 (wrap64 ((wrap64 ((wrap64 (x5_1 * 10)) + (wrap64 (bt a0 x6_1)))) - 48)) (wrap64 (x6_1 + 1))))) else (none)) else (none)) = some (r1, r2) := by rw [if_neg (show ¬ (false = true) by decide)] at H; exact H
 clear H
 have H := H1
 clear H1
 by_cases c13 : 0 ≤ x6_1
 rotate_left
 · rw [if_neg c13] at H
   exact absurd H (by simp)
 rw [if_pos c13] at H
 have c13b0 : decide (0 ≤ x6_1) = true := decide_eq_true c13
 clear c13
 by_cases c14 : x6_1 < (a0.size : Int)
 rotate_left
 · rw [if_neg c14] at H
   exact absurd H (by simp)
 rw [if_pos c14] at H
 have c14b0 : decide (x6_1 < (a0.size : Int)) = true := decide_eq_true c14
 clear c14
 by_cases c16 : (wrap64 ((wrap64 ((wrap64 (x5_1 * 10)) + (wrap64 (bt a0 x6_1)))) - 48)) > 255
 · rw [if_pos c16] at H
   have c16b0 : decide (255 < (wrap64 ((wrap64 ((wrap64 (x5_1 * 10)) + (wrap64 (bt a0 x6_1)))) - 48))) = true := decide_eq_true c16
   clear c16
   simp only [Option.some.injEq, Prod.mk.injEq] at H
   obtain ⟨rfl, rfl⟩ := H
   have p15 : 0 ≤ (x6_1 : Int) := of_decide_eq_true sqH
   have q15 : x6_1 < (a0.size : Int) := of_decide_eq_true sqH
   have hx15 := bt_at a0 x6_1
   replace p15 := eq_true p15
   replace q15 := eq_true q15
   go_wp2
   go_ret2
   exact ⟨sqE, sqB HB.out⟩
 rw [if_neg c16] at H
 have c16b0 : decide (255 < (wrap64 ((wrap64 ((wrap64 (x5_1 * 10)) + (wrap64 (bt a0 x6_1)))) - 48))) = false := decide_eq_false c16
 clear c16
 by_cases c17 : x4_1 > 16777215
 · rw [if_pos c17] at H
   have c17b0 : decide (16777215 < x4_1) = true := decide_eq_true c17
   clear c17
   simp only [Option.some.injEq, Prod.mk.injEq] at H
   obtain ⟨rfl, rfl⟩ := H
   have p15 : 0 ≤ (x6_1 : Int) := of_decide_eq_true sqH
   have q15 : x6_1 < (a0.size : Int) := of_decide_eq_true sqH
   have hx15 := bt_at a0 x6_1
   replace p15 := eq_true p15
   replace q15 := eq_true q15
   go_wp2
   go_ret2
   exact ⟨sqE, sqB HB.out⟩
 rw [if_neg c17] at H
 have c17b0 : decide (16777215 < x4_1) = false := decide_eq_false c17
 clear c17
 have H' := Aside0.mk H
 clear H
 have p15 : 0 ≤ (x6_1 : Int) := of_decide_eq_true sqH
 have q15 : x6_1 < (a0.size : Int) := of_decide_eq_true sqH
 have hx15 := bt_at a0 x6_1
 replace p15 := eq_true p15
 replace q15 := eq_true q15
 go_wp2
 go_roundg kj7
 case measure => have := HK1.out; have := HJ7.out; omega
 case rel => exact ⟨(x4_1), (wrap64 ((wrap64 ((wrap64 (x5_1 * 10)) + (wrap64 (bt a0 x6_1)))) - 48)), (wrap64 (x6_1 + 1)), sqI, sqI, sqI, H', ⟨by have := HK1.out; have := HJ7.out; omega⟩, ⟨sqB HB.out⟩⟩

/-! ### boarderref07_value: function 73 -/
def boarderref07_value.f (a0 : Int) : Option (Int) := if a0 ≥ 97 then (some ((a0 - 87) % 256)) else (some ((a0 - 48) % 256))
set_option maxHeartbeats 8000000 in
set_option maxRecDepth 100000 in
theorem boarderref07_value.calls (a0 : Int) (r : Int) (w : World) (h : boarderref07_value.f a0 = some r) :
    Calls Tryd.prog 73 #[.int .u8 a0] w fun e w' => e = .returned (.int .u8 r) ∧ Drawn0 w w' := by
 have H : (if a0 ≥ 97 then (some ((a0 - 87) % 256)) else (some ((a0 - 48) % 256))) = some r := h
 clear h
 by_cases c2 : a0 ≥ 97
 · rw [if_pos c2] at H
   have c2b0 : decide (97 ≤ a0) = true := decide_eq_true c2
   clear c2
   obtain rfl := Option.some.inj H
   go_enter Tryd.func73, Tryd.ntmps73
   go_wp2
   go_ret
   exact ⟨sqI, sqD⟩
 rw [if_neg c2] at H
 have c2b0 : decide (97 ≤ a0) = false := decide_eq_false c2
 clear c2
 obtain rfl := Option.some.inj H
 go_enter Tryd.func73, Tryd.ntmps73
 go_wp2
 go_ret
 exact ⟨sqI, sqD⟩

/-! ### boarderref07_Parse: function 49 -/
mutual
def boarderref07_Parse.j0 : Nat → ByteArray → Bool → Option (ByteArray × Bool)
  | 0, _, _ => none
  | k + 1, x0, x19 => if x19 = true then (some ((⟨#[]⟩ : ByteArray), false)) else (if 0 < (x0.size : Int) then (boarderref07_Parse.l0 k x0 (([bt x0 0] : List Int)) 2) else (none))
def boarderref07_Parse.l0 : Nat → ByteArray → List Int → Int → Option (ByteArray × Bool)
  | 0, _, _, _ => none
  | k + 1, x0, x4, x5 => if x5 < (x0.size : Int) then (if 0 ≤ x5 then ((boarderref07_value.f (bt x0 x5)).bind fun t314 => (if 0 ≤ (wrap64 (x5 + 1)) then (if (wrap64 (x5 + 1)) < (x0.size : Int) then ((boarderref07_value.f (bt x0 (wrap64 (x5 + 1)))).bind fun t315 => (if x4.length < 140737488355328 then (boarderref07_Parse.l0 k x0 (x4 ++ [(((t314 * 16) % 256) + t315) % 256]) (wrap64 (x5 + 2))) else (none))) else (none)) else (none))) else (none)) else ((boarderref07_Right.f (strOfNums x4)).bind fun t319 => (if t319 = true then ((boarderref07_Text.f k (strOfNums x4)).bind fun t320 => (if t320.toList = x0.toList then (some (strOfNums x4, true)) else (some ((⟨#[]⟩ : ByteArray), false)))) else (some ((⟨#[]⟩ : ByteArray), false))))
end
def boarderref07_Parse.f (k : Nat) (a0 : ByteArray) : Option (ByteArray × Bool) := if (a0.size : Int) < 4 then (boarderref07_Parse.j0 k a0 true) else (if (a0.size : Int) > 1000 then (boarderref07_Parse.j0 k a0 true) else (boarderref07_Parse.j0 k a0 (((a0.size : Int) % 2) == 1)))
def boarderref07_Parse.T7 : Bool × List (List Nat × List Nat) := (true, [([], []), ([], []), ([], []), ([1, 2], [1, 2]), ([3], [3]), ([4], [4]), ([], []), ([], []), ([7], [7]), ([6, 8], [6, 8]), ([9, 4], [9]), ([5, 10], [5, 10]), ([11], [11]), ([0, 12, 10], [0, 12]), ([13, 13, 0, 1, 2, 3, 4, 5, 6, 7, 8, 9, 10, 11, 12, 13], [0, 13])])
def boarderref07_Parse.B7 : List Nat := [0, 0, 0, 6, 14, 30, 0, 0, 128, 448, 990, 2046, 4094, 8191, 16383]
theorem boarderref07_Parse.tab7 : rtab .any (opsOf Tryd.f49 7) = boarderref07_Parse.T7 := by kernel_rfl
theorem boarderref07_Parse.bits7 : waitsOk boarderref07_Parse.T7.2 boarderref07_Parse.B7 = true := by kernel_rfl
set_option maxHeartbeats 8000000 in
set_option maxRecDepth 100000 in
theorem boarderref07_Parse.calls (k : Nat) (a0 : ByteArray) (r1 : ByteArray) (r2 : Bool) (w : World) (h : boarderref07_Parse.f k a0 = some (r1, r2)) :
    Calls Tryd.prog 49 #[.string a0] w fun e w' => e = .returned (.tuple #[.string r1, .bool r2]) ∧ Below w.heap.size w w' := by
 have HB := Aside0.mk (Below.refl w.heap.size w)
 have H : (if (a0.size : Int) < 4 then (boarderref07_Parse.j0 k a0 true) else (if (a0.size : Int) > 1000 then (boarderref07_Parse.j0 k a0 true) else (boarderref07_Parse.j0 k a0 (((a0.size : Int) % 2) == 1)))) = some (r1, r2) := h
 clear h
 have HC2 := Aside0.mk H
 clear H
 go_enter Tryd.func49, Tryd.ntmps49
 go_upto_region 1 with (fail)
 go_cut [19] (fun v19 wc => ∃ (kq : Nat) (x19_1 : Bool), v19 = .bool x19_1 ∧ Aside0 (boarderref07_Parse.j0 kq a0 x19_1 = some (r1, r2)) ∧ Aside0 (kq ≤ k) ∧ Aside0 (Below w.heap.size w wc))
 case first =>
  have H := HC2.out
  clear HC2
  by_cases c3 : (a0.size : Int) < 4
  · rw [if_pos c3] at H
    have c3b0 : decide ((a0.size : Int) < 4) = true := decide_eq_true c3
    have c3b1 : decide (a0.size < 4) = true := decide_eq_true (by omega)
    clear c3
    (first | rw [c3b0] | (simp only [i64_w, i32_w]; rw [c3b0]) | skip)
    have H' := Aside0.mk H
    clear H
    go_wp2
    go_meet
    case rel => exact ⟨_, (true), sqI, H', ⟨by first | omega | exact Nat.le_refl _⟩, ⟨sqB HB.out⟩⟩
  rw [if_neg c3] at H
  have c3b0 : decide ((a0.size : Int) < 4) = false := decide_eq_false c3
  have c3b1 : decide (a0.size < 4) = false := decide_eq_false (by omega)
  clear c3
  (first | rw [c3b0] | (simp only [i64_w, i32_w]; rw [c3b0]) | skip)
  by_cases c4 : (a0.size : Int) > 1000
  · rw [if_pos c4] at H
    have c4b0 : decide (1000 < (a0.size : Int)) = true := decide_eq_true c4
    have c4b1 : decide (1000 < a0.size) = true := decide_eq_true (by omega)
    clear c4
    have H' := Aside0.mk H
    clear H
    go_wp2
    go_meet
    case rel => exact ⟨_, (true), sqI, H', ⟨by first | omega | exact Nat.le_refl _⟩, ⟨sqB HB.out⟩⟩
  rw [if_neg c4] at H
  have c4b0 : decide (1000 < (a0.size : Int)) = false := decide_eq_false c4
  have c4b1 : decide (1000 < a0.size) = false := decide_eq_false (by omega)
  clear c4
  have H' := Aside0.mk H
  clear H
  go_wp2
  go_meet
  case rel => exact ⟨_, ((((a0.size : Int) % 2) == 1)), sqI, H', ⟨by first | omega | exact Nat.le_refl _⟩, ⟨sqB HB.out⟩⟩
 clear HC2
 try clear p2
 try clear c3
 try clear c3b0
 try clear c3b1
 try clear c4
 try clear c4b0
 try clear c4b1
 obtain ⟨kq, x19_1, rfl, HA, HJ1, HB⟩ := hcut
 cases kq with
 | zero => exact absurd HA.out (by simp [boarderref07_Parse.j0])
 | succ kj1 => ?_
 have H := HA.out
 clear HA
 simp only [boarderref07_Parse.j0] at H
 by_cases c5 : x19_1 = true
 · subst c5
   have H1 : (some ((⟨#[]⟩ : ByteArray), false)) = some (r1, r2) := by rw [if_pos rfl] at H; exact H
   clear H
   have H := H1
   clear H1
   simp only [Option.some.injEq, Prod.mk.injEq] at H
   obtain ⟨rfl, rfl⟩ := H
   go_wp2
   go_ret2
   exact ⟨sqE, sqB HB.out⟩
 replace c5 := Bool.eq_false_iff.mpr c5
 subst c5
 have H1 : (if 0 < (a0.size : Int) then (boarderref07_Parse.l0 kj1 a0 (([bt a0 0] : List Int)) 2) else (none)) = some (r1, r2) := by rw [if_neg (show ¬ (false = true) by decide)] at H; exact H
 clear H
 have H := H1
 clear H1
 by_cases c6 : 0 < (a0.size : Int)
 rotate_left
 · rw [if_neg c6] at H
   exact absurd H (by simp)
 rw [if_pos c6] at H
 have c6b0 : decide (0 < (a0.size : Int)) = true := decide_eq_true c6
 have c6b1 : decide (0 < a0.size) = true := decide_eq_true (by omega)
 clear c6
 obtain ⟨y311, hy311⟩ : ∃ y_ : List Int, y_ = (([bt a0 0] : List Int)) := ⟨_, rfl⟩
 replace H : (boarderref07_Parse.l0 kj1 a0 y311 2) = some (r1, r2) := by first | (rw [hy311]; with_reducible exact H) | (have H2_ := (Option.bind_some _ _).symm.trans H; rw [hy311]; with_reducible exact H2_) | (have H2_ := (Option.bind_some _ _).symm.trans H; with_reducible exact H2_) | with_reducible exact H | (rw [hy311]; exact H) | exact H
 have Ny311 := Aside0.mk hy311
 clear hy311
 have H' := Aside0.mk H
 clear H
 have p7 : 0 ≤ (0 : Int) := (by omega)
 have q7 : 0 < a0.size := (by have : (0 : Int) < (a0.size : Int) := of_decide_eq_true sqH; omega)
 have hx7 : ∀ h : 0 < a0.size, ((a0[0]'h).toNat : Int) = bt a0 0 := bt_at a0 0
 clear p7
 have qi7 : (0 < (a0.size : Int)) = True := eq_true (of_decide_eq_true sqH)
 replace q7 := eq_true q7
 go_wp2_with (first | ((with_reducible refine gate_dst (N := 22) rfl ?_); (try (refine gate_guard (by rfl) ?_; dsimp only)); refine Kd.R_lit (Kd.int .u8) _ 5 ?hg (N := 22) ?hd (xs := ([bt a0 0] : List Int)) (inner := [.int .u8 (bt a0 0)]) (ok := fun _ => True) (okp := fun _ => True) ?hr ?hp (fun _ hk => hk) trivial (Below.refl _ _) (Nat.le_refl _) (by simp) ?_; (case hd => rfl); (case hg => rfl); (case hr => first | (go_simp; done) | (go_simp; rfl)); (case hp => exact (Reps.one (show Kd.M (Kd.int .u8) _ _ _ (bt a0 0) [.int .u8 (bt a0 0)] from rfl) (Reps.none _ _))); intro v312 w8 ho9 hb hg_ hnew_; clear hg_ hnew_; (first | rw [← Ny311.out] at ho9 | (simp only [Int.reduceToNat] at ho9; rw [← Ny311.out] at ho9)); have HO313 := sqM (Kd.R_lower ho9 (below_size (sqB HB.out))); replace HB := sqM (below_step (sqB HB.out) hb); clear hb ho9))
 go_loopg [4, 5] kj1 (fun kq v4 v5 w' => ∃ (x4_2 : List Int) (x5_2 : Int), v5 = .int .i64 x5_2 ∧ Aside0 (boarderref07_Parse.l0 kq a0 x4_2 x5_2 = some (r1, r2)) ∧ Aside0 (kq ≤ kj1) ∧ Aside0 (Kd.R (Kd.int .u8) 5 w' w.heap.size (fun _ => True) v4 x4_2) ∧ Aside0 (Below w.heap.size w w'))
 case atStart => exact ⟨(y311), (2), sqI, H', ⟨Nat.le_refl _⟩, ⟨sqR HO313.out⟩, ⟨sqB HB.out⟩⟩
 clear H'
 try clear p2
 try clear c3
 try clear c3b0
 try clear c3b1
 try clear c4
 try clear c4b0
 try clear c4b1
 try clear c5
 try clear c6
 try clear c6b0
 try clear c6b1
 try clear p7
 try clear q7
 try clear hx7
 try clear qi7
 try clear p2
 try clear p7
 try clear q7
 obtain ⟨x4_2, x5_2, rfl, HA, HK2, HO_4, HB⟩ := hrel
 cases gk with
 | zero => exact absurd HA.out (by simp [boarderref07_Parse.l0])
 | succ k2 => ?_
 have H := HA.out
 clear HA
 simp only [boarderref07_Parse.l0] at H
 by_cases c10 : x5_2 < (a0.size : Int)
 rotate_left
 · rw [if_neg c10] at H
   have c10b0 : decide (x5_2 < (a0.size : Int)) = false := decide_eq_false c10
   clear c10
   replace H := Option.bind_eq_some_iff.mp H
   obtain ⟨t319, A220, H⟩ := H
   replace H : (if t319 = true then ((boarderref07_Text.f k2 (strOfNums x4_2)).bind fun t320 => (if t320.toList = a0.toList then (some (strOfNums x4_2, true)) else (some ((⟨#[]⟩ : ByteArray), false)))) else (some ((⟨#[]⟩ : ByteArray), false))) = some (r1, r2) := H
   have A22 := Aside0.mk A220
   clear A220
   by_cases c23 : t319 = true
   rotate_left
   · replace c23 := Bool.eq_false_iff.mpr c23
     subst c23
     have H1 : (some ((⟨#[]⟩ : ByteArray), false)) = some (r1, r2) := by rw [if_neg (show ¬ (false = true) by decide)] at H; exact H
     clear H
     have H := H1
     clear H1
     simp only [Option.some.injEq, Prod.mk.injEq] at H
     obtain ⟨rfl, rfl⟩ := H
     have hcv38 := own_string (P := Tryd.prog) Tryd.underlying59 Tryd.underlying5 Tryd.underlying9 (Kd.own_of_R HO_4.out)
     have hcw39 := fun n_ => own_string (P := Tryd.prog) Tryd.underlying59 Tryd.underlying5 Tryd.underlying9 (Kd.own_of_R (Kd.R_drewN HO_4.out n_))
     go_wp2_with (first | ((with_reducible refine gate_callee (f := 38) rfl ?_); refine goesL_ (some 45) rfl rfl Tryd.func38 (by kernel_rfl) rfl #[.string (strOfNums x4_2)] rfl sqA ?_; (with_reducible refine (boarderref07_Right.calls _ _ _ A22.out).mono ?_); rintro e w' ⟨rfl, ⟨nd, rfl⟩⟩; refine ⟨_, rfl, ?_⟩))
     go_ret2
     exact ⟨sqE, sqB HB.out⟩
   subst c23
   have H1 : ((boarderref07_Text.f k2 (strOfNums x4_2)).bind fun t320 => (if t320.toList = a0.toList then (some (strOfNums x4_2, true)) else (some ((⟨#[]⟩ : ByteArray), false)))) = some (r1, r2) := by rw [if_pos rfl] at H; exact H
   clear H
   have H := H1
   clear H1
   replace H := Option.bind_eq_some_iff.mp H
   obtain ⟨t320, A240, H⟩ := H
   replace H : (if t320.toList = a0.toList then (some (strOfNums x4_2, true)) else (some ((⟨#[]⟩ : ByteArray), false))) = some (r1, r2) := H
   have A24 := Aside0.mk A240
   clear A240
   by_cases c25 : t320.toList = a0.toList
   rotate_left
   · rw [if_neg c25] at H
     have c25b0 : (t320.toList == a0.toList) = false := beq_eq_false_iff_ne.mpr c25
     have c25b1 : (t320.toList != a0.toList) = true := bne_iff_ne.mpr c25
     simp only [Option.some.injEq, Prod.mk.injEq] at H
     obtain ⟨rfl, rfl⟩ := H
     have hcv33 := own_string (P := Tryd.prog) Tryd.underlying59 Tryd.underlying5 Tryd.underlying9 (Kd.own_of_R HO_4.out)
     have hcw34 := fun n_ => own_string (P := Tryd.prog) Tryd.underlying59 Tryd.underlying5 Tryd.underlying9 (Kd.own_of_R (Kd.R_drewN HO_4.out n_))
     go_wp2_with (first | ((with_reducible refine gate_callee (f := 38) rfl ?_); refine goesL_ (some 45) rfl rfl Tryd.func38 (by kernel_rfl) rfl #[.string (strOfNums x4_2)] rfl sqA ?_; (with_reducible refine (boarderref07_Right.calls _ _ _ A22.out).mono ?_); rintro e w' ⟨rfl, ⟨nd, rfl⟩⟩; refine ⟨_, rfl, ?_⟩; have hcv35 := own_string (P := Tryd.prog) Tryd.underlying59 Tryd.underlying5 Tryd.underlying9 (Kd.own_of_R HO_4.out); have hcw36 := fun n_ => own_string (P := Tryd.prog) Tryd.underlying59 Tryd.underlying5 Tryd.underlying9 (Kd.own_of_R (Kd.R_drewN HO_4.out n_))) | (go_at_call 42; (with_reducible refine (boarderref07_Text.calls _ _ _ _ A24.out).mono ?_); rintro e w37 ⟨rfl, hb⟩; replace HO_4 := sqM (Kd.R_below (sqR HO_4.out) hb); replace HB := sqM (below_step (sqB HB.out) hb); (try clear hb); (try clear hb2); (try clear hk); (try clear hi)))
     go_ret2
     exact ⟨sqE, sqB HB.out⟩
   rw [if_pos c25] at H
   have c25b0 : (t320.toList == a0.toList) = true := beq_iff_eq.mpr c25
   have c25b1 : (t320.toList != a0.toList) = false := bne_eq_false_iff_eq.mpr c25
   clear c25
   simp only [Option.some.injEq, Prod.mk.injEq] at H
   obtain ⟨rfl, rfl⟩ := H
   have hcv26 := own_string (P := Tryd.prog) Tryd.underlying59 Tryd.underlying5 Tryd.underlying9 (Kd.own_of_R HO_4.out)
   have hcw27 := fun n_ => own_string (P := Tryd.prog) Tryd.underlying59 Tryd.underlying5 Tryd.underlying9 (Kd.own_of_R (Kd.R_drewN HO_4.out n_))
   go_wp2_with (first | ((with_reducible refine gate_callee (f := 38) rfl ?_); refine goesL_ (some 45) rfl rfl Tryd.func38 (by kernel_rfl) rfl #[.string (strOfNums x4_2)] rfl sqA ?_; (with_reducible refine (boarderref07_Right.calls _ _ _ A22.out).mono ?_); rintro e w' ⟨rfl, ⟨nd, rfl⟩⟩; refine ⟨_, rfl, ?_⟩; have hcv28 := own_string (P := Tryd.prog) Tryd.underlying59 Tryd.underlying5 Tryd.underlying9 (Kd.own_of_R HO_4.out); have hcw29 := fun n_ => own_string (P := Tryd.prog) Tryd.underlying59 Tryd.underlying5 Tryd.underlying9 (Kd.own_of_R (Kd.R_drewN HO_4.out n_))) | (go_at_call 42; (with_reducible refine (boarderref07_Text.calls _ _ _ _ A24.out).mono ?_); rintro e w30 ⟨rfl, hb⟩; replace HO_4 := sqM (Kd.R_below (sqR HO_4.out) hb); replace HB := sqM (below_step (sqB HB.out) hb); (try clear hb); (try clear hb2); (try clear hk); (try clear hi); have hcv31 := own_string (P := Tryd.prog) Tryd.underlying59 Tryd.underlying5 Tryd.underlying9 (Kd.own_of_R HO_4.out); have hcw32 := fun n_ => own_string (P := Tryd.prog) Tryd.underlying59 Tryd.underlying5 Tryd.underlying9 (Kd.own_of_R (Kd.R_drewN HO_4.out n_))))
   go_ret2
   exact ⟨sqE, sqB HB.out⟩
 rw [if_pos c10] at H
 have c10b0 : decide (x5_2 < (a0.size : Int)) = true := decide_eq_true c10
 clear c10
 by_cases c11 : 0 ≤ x5_2
 rotate_left
 · rw [if_neg c11] at H
   exact absurd H (by simp)
 rw [if_pos c11] at H
 have c11b0 : decide (0 ≤ x5_2) = true := decide_eq_true c11
 clear c11
 replace H := Option.bind_eq_some_iff.mp H
 obtain ⟨t314, A130, H⟩ := H
 replace H : (if 0 ≤ (wrap64 (x5_2 + 1)) then (if (wrap64 (x5_2 + 1)) < (a0.size : Int) then ((boarderref07_value.f (bt a0 (wrap64 (x5_2 + 1)))).bind fun t315 => (if x4_2.length < 140737488355328 then (boarderref07_Parse.l0 k2 a0 (x4_2 ++ [(((t314 * 16) % 256) + t315) % 256]) (wrap64 (x5_2 + 2))) else (none))) else (none)) else (none)) = some (r1, r2) := H
 have A13 := Aside0.mk A130
 clear A130
 obtain ⟨ji14, hji14⟩ : ∃ j_ : Int, (wrap64 (x5_2 + 1)) = j_ := ⟨_, rfl⟩
 replace H : (if 0 ≤ (ji14) then (if (ji14) < (a0.size : Int) then ((boarderref07_value.f (bt a0 (ji14))).bind fun t315 => (if x4_2.length < 140737488355328 then (boarderref07_Parse.l0 k2 a0 (x4_2 ++ [(((t314 * 16) % 256) + t315) % 256]) (wrap64 (x5_2 + 2))) else (none))) else (none)) else (none)) = some (r1, r2) := by first | (rw [hji14] at H; exact H) | (simp only [hji14] at H ⊢; exact H)
 (try rw [hji14] at A13)
 have hji14w : (IntKind.i64.wrap (x5_2 + 1)) = ji14 := (i64_w _).trans hji14
 by_cases c15 : 0 ≤ (ji14)
 rotate_left
 · rw [if_neg c15] at H
   exact absurd H (by simp)
 rw [if_pos c15] at H
 have c15b0 : decide (0 ≤ (ji14)) = true := decide_eq_true c15
 clear c15
 by_cases c16 : (ji14) < (a0.size : Int)
 rotate_left
 · rw [if_neg c16] at H
   exact absurd H (by simp)
 rw [if_pos c16] at H
 have c16b0 : decide ((ji14) < (a0.size : Int)) = true := decide_eq_true c16
 clear c16
 replace H := Option.bind_eq_some_iff.mp H
 obtain ⟨t315, A180, H⟩ := H
 replace H : (if x4_2.length < 140737488355328 then (boarderref07_Parse.l0 k2 a0 (x4_2 ++ [(((t314 * 16) % 256) + t315) % 256]) (wrap64 (x5_2 + 2))) else (none)) = some (r1, r2) := H
 have A18 := Aside0.mk A180
 clear A180
 by_cases c19 : x4_2.length < 140737488355328
 rotate_left
 · rw [if_neg c19] at H
   exact absurd H (by simp)
 rw [if_pos c19] at H
 have LMc19 := Aside0.mk c19
 clear c19
 obtain ⟨y316, hy316⟩ : ∃ y_ : List Int, y_ = (x4_2 ++ [(((t314 * 16) % 256) + t315) % 256]) := ⟨_, rfl⟩
 replace H : (boarderref07_Parse.l0 k2 a0 y316 (wrap64 (x5_2 + 2))) = some (r1, r2) := by first | (rw [hy316]; with_reducible exact H) | (have H2_ := (Option.bind_some _ _).symm.trans H; rw [hy316]; with_reducible exact H2_) | (have H2_ := (Option.bind_some _ _).symm.trans H; with_reducible exact H2_) | with_reducible exact H | (rw [hy316]; exact H) | exact H
 have Ny316 := Aside0.mk hy316
 clear hy316
 have H' := Aside0.mk H
 clear H
 try go_wp2
 replace HO_4 := sqM (Kd.R_drew HO_4.out)
 replace HB := sqM (below_drew1 HB.out)
 have p12 : 0 ≤ (x5_2 : Int) := of_decide_eq_true sqH
 have q12 : x5_2 < (a0.size : Int) := of_decide_eq_true sqH
 have hx12 := bt_at a0 x5_2
 replace p12 := eq_true p12
 replace q12 := eq_true q12
 have p17 : 0 ≤ ((ji14) : Int) := of_decide_eq_true sqH
 have q17 : (ji14) < (a0.size : Int) := of_decide_eq_true sqH
 have hx17 := bt_at a0 (ji14)
 replace p17 := eq_true p17
 replace q17 := eq_true q17
 refine start_ (n := 15) (S := fun w' => True) (ds := []) #[false, false, false, false, false, false, false, false, false, false, false, false, false, false, false] (by kernel_rfl) rfl rfl trivial (fun hHeld => ?_); refine with_tabW boarderref07_Parse.tab7 boarderref07_Parse.bits7 (fun HT_ HW_ => ?_)
 generalize wr.drew = w20 at HO_4 HB hHeld ⊢
 refine pure_ (i := 0) (N := some 29) (v := ?_) (a' := ?_) #[true, false, false, false, false, false, false, false, false, false, false, false, false, false, false] rfl rfl (any_of HT_.out (by kernel_rfl)) (fun _ _ _ h => h) (Or.inl ⟨by rfl, ?_⟩) ?_ ?_
 rotate_left
 · intro w'
   go_simp
   with_reducible rfl
 rotate_left
 · simp only [Act.put, List.setIfInBounds_toArray, List.set_cons_zero, List.set_cons_succ, i64_w, i32_w]
   rfl
 refine pure_ (i := 1) (N := some 30) (v := ?_) (a' := ?_) #[true, true, false, false, false, false, false, false, false, false, false, false, false, false, false] rfl rfl (any_of HT_.out (by kernel_rfl)) (fun _ _ _ h => h) (Or.inl ⟨by rfl, ?_⟩) ?_ ?_
 rotate_left
 · intro w'
   go_simp
   with_reducible rfl
 rotate_left
 · simp only [Act.put, List.setIfInBounds_toArray, List.set_cons_zero, List.set_cons_succ, i64_w, i32_w]
   rfl
 refine pure_ (i := 2) (N := some 31) (v := ?_) (a' := ?_) #[true, true, true, false, false, false, false, false, false, false, false, false, false, false, false] rfl rfl (any_of HT_.out (by kernel_rfl)) (fun _ _ _ h => h) (Or.inl ⟨by rfl, ?_⟩) ?_ ?_
 rotate_left
 · intro w'
   go_simp
   with_reducible rfl
 rotate_left
 · simp only [Act.put, List.setIfInBounds_toArray, List.set_cons_zero, List.set_cons_succ, i64_w, i32_w]
   rfl
 refine pure_ (i := 6) (N := some 35) (v := ?_) (a' := ?_) #[true, true, true, false, false, false, true, false, false, false, false, false, false, false, false] rfl rfl (any_of HT_.out (by kernel_rfl)) (fun _ _ _ h => h) (Or.inl ⟨by rfl, ?_⟩) ?_ ?_
 rotate_left
 · intro w'
   go_simp
   with_reducible rfl
 rotate_left
 · simp only [Act.put, List.setIfInBounds_toArray, List.set_cons_zero, List.set_cons_succ, i64_w, i32_w]
   rfl
 refine pure_ (i := 7) (N := some 36) (v := ?_) (a' := ?_) #[true, true, true, false, false, false, true, true, false, false, false, false, false, false, false] rfl rfl (any_of HT_.out (by kernel_rfl)) (fun _ _ _ h => h) (Or.inl ⟨by rfl, ?_⟩) ?_ ?_
 rotate_left
 · intro w'
   go_simp
   with_reducible rfl
 rotate_left
 · simp only [Act.put, List.setIfInBounds_toArray, List.set_cons_zero, List.set_cons_succ, i64_w, i32_w]
   rfl
 refine pure_ (i := 8) (N := some 37) (v := ?_) (a' := ?_) #[true, true, true, false, false, false, true, true, true, false, false, false, false, false, false] rfl rfl (any_of HT_.out (by kernel_rfl)) (fun _ _ _ h => h) (Or.inl ⟨by rfl, ?_⟩) ?_ ?_
 rotate_left
 · intro w'
   go_simp
   with_reducible rfl
 rotate_left
 · simp only [Act.put, List.setIfInBounds_toArray, List.set_cons_zero, List.set_cons_succ, i64_w, i32_w]
   rfl
 refine take_ (i := 3) (N := some 32) (v := ?_) (a' := ?_) #[true, true, true, true, false, false, true, true, true, false, false, false, false, false, false] rfl rfl (take_ofW HT_.out HW_.out (by kernel_rfl)) (fun _ _ _ h => h) (Or.inl ⟨by rfl, ?_⟩) hHeld ?_ ?_
 rotate_left
 · intro w' _
   go_simp
   with_reducible rfl
 rotate_left
 · simp only [Act.put, List.setIfInBounds_toArray, List.set_cons_zero, List.set_cons_succ, i64_w, i32_w]
   rfl
 refine take_ (i := 9) (N := some 38) (v := ?_) (a' := ?_) #[true, true, true, true, false, false, true, true, true, true, false, false, false, false, false] rfl rfl (take_ofW HT_.out HW_.out (by kernel_rfl)) (fun _ _ _ h => h) (Or.inl ⟨by rfl, ?_⟩) hHeld ?_ ?_
 rotate_left
 · intro w' _
   go_simp
   with_reducible rfl
 rotate_left
 · simp only [Act.put, List.setIfInBounds_toArray, List.set_cons_zero, List.set_cons_succ, i64_w, i32_w]
   rfl
 refine one_ (i := 4) (N := some 33) #[true, true, true, true, true, false, true, true, true, true, false, false, false, false, false] rfl rfl (one_of HT_.out (by kernel_rfl)) (by decide) (fun K hK => ?_)
 refine goes_ Tryd.func73 (by kernel_rfl) rfl #[.int .u8 (bt a0 x5_2)] (by rfl) rfl rfl sqA ?_
 with_reducible refine (boarderref07_value.calls _ _ _ A13.out).mono ?_
 rintro e w' ⟨rfl, ⟨nd, rfl⟩⟩
 refine ⟨_, rfl, ?_⟩
 refine hK.out _ _ trivial (fun hHeld => ?_)
 clear hK K
 refine norm_ (a' := ?_) ?_ ?_
 rotate_left
 · show Act.put _ (some 33) _ = _
   simp only [Act.put, List.setIfInBounds_toArray, List.set_cons_zero, List.set_cons_succ, i64_w, i32_w]
   rfl
 refine pure_ (i := 5) (N := some 34) (v := ?_) (a' := ?_) #[true, true, true, true, true, true, true, true, true, true, false, false, false, false, false] rfl rfl (any_of HT_.out (by kernel_rfl)) (fun _ _ _ h => h) (Or.inl ⟨by rfl, ?_⟩) ?_ ?_
 rotate_left
 · intro w'
   go_simp
   with_reducible rfl
 rotate_left
 · simp only [Act.put, List.setIfInBounds_toArray, List.set_cons_zero, List.set_cons_succ, i64_w, i32_w]
   rfl
 refine one_ (i := 10) (N := some 39) #[true, true, true, true, true, true, true, true, true, true, true, false, false, false, false] rfl rfl (one_of HT_.out (by kernel_rfl)) (by decide) (fun K hK => ?_)
 refine goes_ Tryd.func73 (by kernel_rfl) rfl #[.int .u8 (bt a0 (ji14))] (by rfl) rfl rfl (by (try simp only [List.map_toArray, List.map_cons, List.map_nil]); first | done | (simp only [hji14]; rfl) | rfl | (simp only [List.length_drop, List.length_take]; rfl)) ?_
 with_reducible refine (boarderref07_value.calls _ _ _ A18.out).mono ?_
 rintro e w' ⟨rfl, ⟨nd, rfl⟩⟩
 refine ⟨_, rfl, ?_⟩
 refine hK.out _ _ trivial (fun hHeld => ?_)
 clear hK K
 refine norm_ (a' := ?_) ?_ ?_
 rotate_left
 · show Act.put _ (some 39) _ = _
   simp only [Act.put, List.setIfInBounds_toArray, List.set_cons_zero, List.set_cons_succ, i64_w, i32_w]
   rfl
 refine pure_ (i := 11) (N := some 40) (v := ?_) (a' := ?_) #[true, true, true, true, true, true, true, true, true, true, true, true, false, false, false] rfl rfl (any_of HT_.out (by kernel_rfl)) (fun _ _ _ h => h) (Or.inl ⟨by rfl, ?_⟩) ?_ ?_
 rotate_left
 · intro w'
   go_simp
   with_reducible rfl
 rotate_left
 · simp only [Act.put, List.setIfInBounds_toArray, List.set_cons_zero, List.set_cons_succ, i64_w, i32_w]
   rfl
 refine one_ (i := 12) (N := some 41) #[true, true, true, true, true, true, true, true, true, true, true, true, true, false, false] rfl rfl (one_of HT_.out (by kernel_rfl)) (by decide) (fun K hK => ?_)
 refine value_ (w1 := ?_) (v := ?_) (by rfl) rfl ?_ ?_
 rotate_left 2
 · go_simp
   constructor
   · rfl
   rfl
 refine hK.out _ _ trivial (fun hHeld => ?_)
 clear hK K
 refine norm_ (a' := ?_) ?_ ?_
 rotate_left
 · show Act.put _ (some 41) _ = _
   simp only [Act.put, List.setIfInBounds_toArray, List.set_cons_zero, List.set_cons_succ, i64_w, i32_w]
   rfl
 refine one_ (i := 13) (N := some 42) #[true, true, true, true, true, true, true, true, true, true, true, true, true, true, false] rfl rfl (one_of HT_.out (by kernel_rfl)) (by decide) (fun K hK => ?_)
 refine Kd.R_append_step (Kd.int .u8) (w0 := w) w.heap.size (by rfl) (.tmp 29) (.tmp 41) 59 5 (.int .u8 0) 1 rfl Tryd.underlying59 info5 rfl (by decide) (by omega) u4 x4_2 ((((t314 * 16) % 256) + t315) % 256) [.int .u8 ((((t314 * 16) % 256) + t315) % 256)] (fun _ => True) (fun _ => False) rfl rfl ?aP (fun _ hk => hk.elim) ?aF ?aO ?aB ?aS ?aL ?_
 (case aP => exact rfl)
 (case aB => exact (sqB HB.out))
 (case aF => exact (fun _ _ => trivial))
 (case aO => exact (sqR HO_4.out))
 (case aS => exact (below_size (sqB HB.out)))
 (case aL => have := LMc19.out; omega)
 intro v317 w21 ho hb hg hat
 rw [← Ny316.out] at ho
 have HO318 := Aside0.mk (ho)
 replace HB := Aside0.mk (hb)
 clear HO_4
 clear ho hb hg hat
 refine hK.out _ _ trivial (fun hHeld => ?_)
 clear hK K
 refine norm_ (a' := ?_) ?_ ?_
 rotate_left
 · show Act.put _ (some 42) _ = _
   simp only [Act.put, List.setIfInBounds_toArray, List.set_cons_zero, List.set_cons_succ, i64_w, i32_w]
   rfl
 refine pure_ (i := 14) (N := some 4) (v := ?_) (a' := ?_) #[true, true, true, true, true, true, true, true, true, true, true, true, true, true, true] rfl rfl (any_of HT_.out (by kernel_rfl)) (fun _ _ _ h => h) (Or.inl ⟨by rfl, ?_⟩) ?_ ?_
 rotate_left
 · intro w'
   go_simp
   with_reducible rfl
 rotate_left
 · simp only [Act.put, List.setIfInBounds_toArray, List.set_cons_zero, List.set_cons_succ, i64_w, i32_w]
   rfl
 refine done_ (done_of HT_.out (by kernel_rfl)) ?_
 try go_wp2
 go_roundg k2
 case measure => have := HJ1.out; have := HK2.out; omega
 case rel => exact ⟨(y316), (wrap64 (x5_2 + 2)), sqI, H', ⟨by have := HJ1.out; have := HK2.out; omega⟩, ⟨sqR HO318.out⟩, ⟨sqB HB.out⟩⟩

/-! ### boarderref23_Number: function 50 -/
mutual
def boarderref23_Number.j0 : Nat → ByteArray → Bool → Option (Int)
  | 0, _, _ => none
  | k + 1, x0, x12 => if x12 = true then (some (-1)) else (boarderref23_Number.l0 k x0 0 0)
def boarderref23_Number.l0 : Nat → ByteArray → Int → Int → Option (Int)
  | 0, _, _, _ => none
  | k + 1, x0, x3, x4 => if x4 < (x0.size : Int) then (if 0 ≤ x4 then (if (bt x0 x4) < 48 then (some (-1)) else (if (bt x0 x4) > 57 then (some (-1)) else (boarderref23_Number.l0 k x0 (wrap64 ((wrap64 ((wrap64 (x3 * 10)) + (wrap64 (bt x0 x4)))) - 48)) (wrap64 (x4 + 1))))) else (none)) else (if x3 > 1125899906842624 then (some (-1)) else ((boarderref23_Num.f k x3).bind fun t321 => (if t321.toList = x0.toList then (some x3) else (some (-1)))))
end
def boarderref23_Number.f (k : Nat) (a0 : ByteArray) : Option (Int) := if (a0.size : Int) = 0 then (boarderref23_Number.j0 k a0 true) else (boarderref23_Number.j0 k a0 (decide ((a0.size : Int) > 16)))
set_option maxHeartbeats 8000000 in
set_option maxRecDepth 100000 in
theorem boarderref23_Number.calls (k : Nat) (a0 : ByteArray) (r : Int) (w : World) (h : boarderref23_Number.f k a0 = some r) :
    Calls Tryd.prog 50 #[.string a0] w fun e w' => e = .returned (.int .i64 r) ∧ Below w.heap.size w w' := by
 have HB := Aside0.mk (Below.refl w.heap.size w)
 have H : (if (a0.size : Int) = 0 then (boarderref23_Number.j0 k a0 true) else (boarderref23_Number.j0 k a0 (decide ((a0.size : Int) > 16)))) = some r := h
 clear h
 have HC2 := Aside0.mk H
 clear H
 go_enter Tryd.func50, Tryd.ntmps50
 go_upto_region 1 with (fail)
 go_cut [12] (fun v12 wc => ∃ (kq : Nat) (x12_1 : Bool), v12 = .bool x12_1 ∧ Aside0 (boarderref23_Number.j0 kq a0 x12_1 = some r) ∧ Aside0 (kq ≤ k) ∧ Aside0 (Below w.heap.size w wc))
 case first =>
  have H := HC2.out
  clear HC2
  by_cases c3 : (a0.size : Int) = 0
  rotate_left
  · rw [if_neg c3] at H
    have c3b0 : ((a0.size : Int) == 0) = false := beq_eq_false_iff_ne.mpr c3
    have c3b1 : ((a0.size : Int) != 0) = true := bne_iff_ne.mpr c3
    (first | rw [c3b0] | (simp only [i64_w, i32_w]; rw [c3b0]) | skip)
    have H' := Aside0.mk H
    clear H
    go_wp2
    go_meet
    case rel => exact ⟨_, (decide ((a0.size : Int) > 16)), sqI, H', ⟨by first | omega | exact Nat.le_refl _⟩, ⟨sqB HB.out⟩⟩
  rw [if_pos c3] at H
  have c3b0 : ((a0.size : Int) == 0) = true := beq_iff_eq.mpr c3
  have c3b1 : ((a0.size : Int) != 0) = false := bne_eq_false_iff_eq.mpr c3
  clear c3
  (first | rw [c3b0] | (simp only [i64_w, i32_w]; rw [c3b0]) | skip)
  have H' := Aside0.mk H
  clear H
  go_wp2
  go_meet
  case rel => exact ⟨_, (true), sqI, H', ⟨by first | omega | exact Nat.le_refl _⟩, ⟨sqB HB.out⟩⟩
 clear HC2
 try clear p2
 try clear c3
 try clear c3b0
 try clear c3b1
 obtain ⟨kq, x12_1, rfl, HA, HJ1, HB⟩ := hcut
 cases kq with
 | zero => exact absurd HA.out (by simp [boarderref23_Number.j0])
 | succ kj1 => ?_
 have H := HA.out
 clear HA
 simp only [boarderref23_Number.j0] at H
 by_cases c4 : x12_1 = true
 · subst c4
   have H1 : (some (-1)) = some r := by rw [if_pos rfl] at H; exact H
   clear H
   have H := H1
   clear H1
   obtain rfl := Option.some.inj H
   go_wp2
   go_ret
   exact ⟨sqE, sqB HB.out⟩
 replace c4 := Bool.eq_false_iff.mpr c4
 subst c4
 have H1 : (boarderref23_Number.l0 kj1 a0 0 0) = some r := by rw [if_neg (show ¬ (false = true) by decide)] at H; exact H
 clear H
 have H := H1
 clear H1
 have H' := Aside0.mk H
 clear H
 go_wp2
 go_loopg [3, 4] kj1 (fun kq v3 v4 w' => ∃ (x3_2 : Int) (x4_2 : Int), v3 = .int .i64 x3_2 ∧ v4 = .int .i64 x4_2 ∧ Aside0 (boarderref23_Number.l0 kq a0 x3_2 x4_2 = some r) ∧ Aside0 (kq ≤ kj1) ∧ Aside0 (Below w.heap.size w w'))
 case atStart => exact ⟨(0), (0), sqI, sqI, H', ⟨Nat.le_refl _⟩, ⟨sqB HB.out⟩⟩
 clear H'
 try clear p2
 try clear c3
 try clear c3b0
 try clear c3b1
 try clear c4
 try clear p2
 obtain ⟨x3_2, x4_2, rfl, rfl, HA, HK2, HB⟩ := hrel
 cases gk with
 | zero => exact absurd HA.out (by simp [boarderref23_Number.l0])
 | succ k2 => ?_
 have H := HA.out
 clear HA
 simp only [boarderref23_Number.l0] at H
 by_cases c5 : x4_2 < (a0.size : Int)
 rotate_left
 · rw [if_neg c5] at H
   have c5b0 : decide (x4_2 < (a0.size : Int)) = false := decide_eq_false c5
   clear c5
   by_cases c12 : x3_2 > 1125899906842624
   · rw [if_pos c12] at H
     have c12b0 : decide (1125899906842624 < x3_2) = true := decide_eq_true c12
     clear c12
     obtain rfl := Option.some.inj H
     go_wp2
     go_ret
     exact ⟨sqE, sqB HB.out⟩
   rw [if_neg c12] at H
   have c12b0 : decide (1125899906842624 < x3_2) = false := decide_eq_false c12
   clear c12
   replace H := Option.bind_eq_some_iff.mp H
   obtain ⟨t321, A130, H⟩ := H
   replace H : (if t321.toList = a0.toList then (some x3_2) else (some (-1))) = some r := H
   have A13 := Aside0.mk A130
   clear A130
   by_cases c14 : t321.toList = a0.toList
   rotate_left
   · rw [if_neg c14] at H
     have c14b0 : (t321.toList == a0.toList) = false := beq_eq_false_iff_ne.mpr c14
     have c14b1 : (t321.toList != a0.toList) = true := bne_iff_ne.mpr c14
     obtain rfl := Option.some.inj H
     go_wp2_with (first | (go_at_call 41; (with_reducible refine (boarderref23_Num.calls _ _ _ _ A13.out).mono ?_); rintro e w16 ⟨rfl, hb⟩; replace HB := sqM (below_step (sqB HB.out) hb); (try clear hb); (try clear hb2); (try clear hk); (try clear hi)))
     go_ret
     exact ⟨sqE, sqB HB.out⟩
   rw [if_pos c14] at H
   have c14b0 : (t321.toList == a0.toList) = true := beq_iff_eq.mpr c14
   have c14b1 : (t321.toList != a0.toList) = false := bne_eq_false_iff_eq.mpr c14
   clear c14
   obtain rfl := Option.some.inj H
   go_wp2_with (first | (go_at_call 41; (with_reducible refine (boarderref23_Num.calls _ _ _ _ A13.out).mono ?_); rintro e w15 ⟨rfl, hb⟩; replace HB := sqM (below_step (sqB HB.out) hb); (try clear hb); (try clear hb2); (try clear hk); (try clear hi)))
   go_ret
   exact ⟨sqE, sqB HB.out⟩
 rw [if_pos c5] at H
 have c5b0 : decide (x4_2 < (a0.size : Int)) = true := decide_eq_true c5
 clear c5
 by_cases c6 : 0 ≤ x4_2
 rotate_left
 · rw [if_neg c6] at H
   exact absurd H (by simp)
 rw [if_pos c6] at H
 have c6b0 : decide (0 ≤ x4_2) = true := decide_eq_true c6
 clear c6
 by_cases c8 : (bt a0 x4_2) < 48
 · rw [if_pos c8] at H
   have c8b0 : decide ((bt a0 x4_2) < 48) = true := decide_eq_true c8
   clear c8
   obtain rfl := Option.some.inj H
   have p7 : 0 ≤ (x4_2 : Int) := of_decide_eq_true sqH
   have q7 : x4_2 < (a0.size : Int) := of_decide_eq_true sqH
   have hx7 := bt_at a0 x4_2
   replace p7 := eq_true p7
   replace q7 := eq_true q7
   go_wp2
   go_ret
   exact ⟨sqE, sqB HB.out⟩
 rw [if_neg c8] at H
 have c8b0 : decide ((bt a0 x4_2) < 48) = false := decide_eq_false c8
 clear c8
 by_cases c10 : (bt a0 x4_2) > 57
 · rw [if_pos c10] at H
   have c10b0 : decide (57 < (bt a0 x4_2)) = true := decide_eq_true c10
   clear c10
   obtain rfl := Option.some.inj H
   have p7 : 0 ≤ (x4_2 : Int) := of_decide_eq_true sqH
   have q7 : x4_2 < (a0.size : Int) := of_decide_eq_true sqH
   have hx7 := bt_at a0 x4_2
   replace p7 := eq_true p7
   replace q7 := eq_true q7
   have p9 : 0 ≤ (x4_2 : Int) := of_decide_eq_true sqH
   have q9 : x4_2 < (a0.size : Int) := of_decide_eq_true sqH
   have hx9 := bt_at a0 x4_2
   replace p9 := eq_true p9
   replace q9 := eq_true q9
   go_wp2
   go_ret
   exact ⟨sqE, sqB HB.out⟩
 rw [if_neg c10] at H
 have c10b0 : decide (57 < (bt a0 x4_2)) = false := decide_eq_false c10
 clear c10
 have H' := Aside0.mk H
 clear H
 have p7 : 0 ≤ (x4_2 : Int) := of_decide_eq_true sqH
 have q7 : x4_2 < (a0.size : Int) := of_decide_eq_true sqH
 have hx7 := bt_at a0 x4_2
 replace p7 := eq_true p7
 replace q7 := eq_true q7
 have p9 : 0 ≤ (x4_2 : Int) := of_decide_eq_true sqH
 have q9 : x4_2 < (a0.size : Int) := of_decide_eq_true sqH
 have hx9 := bt_at a0 x4_2
 replace p9 := eq_true p9
 replace q9 := eq_true q9
 have p11 : 0 ≤ (x4_2 : Int) := of_decide_eq_true sqH
 have q11 : x4_2 < (a0.size : Int) := of_decide_eq_true sqH
 have hx11 := bt_at a0 x4_2
 replace p11 := eq_true p11
 replace q11 := eq_true q11
 go_wp2
 go_roundg k2
 case measure => have := HJ1.out; have := HK2.out; omega
 case rel => exact ⟨(wrap64 ((wrap64 ((wrap64 (x3_2 * 10)) + (wrap64 (bt a0 x4_2)))) - 48)), (wrap64 (x4_2 + 1)), sqI, sqI, H', ⟨by have := HJ1.out; have := HK2.out; omega⟩, ⟨sqB HB.out⟩⟩

end Go.Proofs.YtdajdpgnhjlbaaaDoor.PLease
