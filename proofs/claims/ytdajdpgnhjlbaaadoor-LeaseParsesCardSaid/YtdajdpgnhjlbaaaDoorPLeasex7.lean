/- Lean functions for Go functions of the given program, and proofs that the code computes them, each under its theorem's own conditions. Written by a program of this session. -/
import Derived.Test.YtdajdpgnhjlbaaaDoorPLeasex0
namespace Go.Proofs.YtdajdpgnhjlbaaaDoor.PLease
open Go.RowKit Go.Proofs.YtdajdpgnhjlbaaaDoorW.PrintWords Go.Proofs.YtdajdpgnhjlbaaaDoorW.PrintLast Go.Proofs.YtdajdpgnhjlbaaaDoorW.PrintMore
attribute [local go_sem] max2_int min2_int max_two min_two max_three min_three max_four min_four   -- for this text's walks alone
set_option linter.unusedVariables false
set_option linter.unusedSimpArgs false

/-! ### boarderref01_decimal: function 70 -/
def boarderref01_decimal.f : Nat → Int → Option (ByteArray)
  | 0, _ => none
  | k + 1, a0 => if a0 < 10 then (some (strOfNums (([(wrap64 (48 + a0)) % 256] : List Int)))) else ((boarderref01_decimal.f k (wrap64 (Int.tdiv a0 10))).bind fun t269 => ((boarderref01_decimal.f k (Int.tmod a0 10)).bind fun t270 => (if t269.size + t270.size ≤ 9223372036854775807 then (some (t269 ++ t270)) else (none))))
set_option maxHeartbeats 8000000 in
set_option maxRecDepth 100000 in
theorem boarderref01_decimal.calls (k : Nat) : ∀ (a0 : Int) (r : ByteArray) (w : World) (h : boarderref01_decimal.f k a0 = some r),
    Calls Tryd.prog 70 #[.int .i64 a0] w fun e w' => e = .returned (.string r) ∧ Below w.heap.size w w' := by
 induction k using Nat.strongRecOn with
 | _ k ih =>
 intro a0 r w h
 cases k with
 | zero => exact absurd h (by simp [boarderref01_decimal.f])
 | succ k =>
 simp only [boarderref01_decimal.f] at h
 have HB := Aside0.mk (Below.refl w.heap.size w)
 have H : (if a0 < 10 then (some (strOfNums (([(wrap64 (48 + a0)) % 256] : List Int)))) else ((boarderref01_decimal.f k (wrap64 (Int.tdiv a0 10))).bind fun t269 => ((boarderref01_decimal.f k (Int.tmod a0 10)).bind fun t270 => (if t269.size + t270.size ≤ 9223372036854775807 then (some (t269 ++ t270)) else (none))))) = some r := h
 clear h
 by_cases c2 : a0 < 10
 · rw [if_pos c2] at H
   have c2b0 : decide (a0 < 10) = true := decide_eq_true c2
   clear c2
   obtain ⟨y266, hy266⟩ : ∃ y_ : List Int, y_ = (([(wrap64 (48 + a0)) % 256] : List Int)) := ⟨_, rfl⟩
   replace H : (some (strOfNums y266)) = some r := by first | (rw [hy266]; with_reducible exact H) | (have H2_ := (Option.bind_some _ _).symm.trans H; rw [hy266]; with_reducible exact H2_) | (have H2_ := (Option.bind_some _ _).symm.trans H; with_reducible exact H2_) | with_reducible exact H | (rw [hy266]; exact H) | exact H
   have Ny266 := Aside0.mk hy266
   clear hy266
   obtain rfl := Option.some.inj H
   go_enter Tryd.func70, Tryd.ntmps70
   go_wp2_with (first | ((with_reducible refine gate_dst (N := 8) rfl ?_); refine Kd.R_lit (Kd.int .u8) _ 5 ?hg (N := 8) ?hd (xs := ([(wrap64 (48 + a0)) % 256] : List Int)) (inner := [.int .u8 ((wrap64 (48 + a0)) % 256)]) (ok := fun _ => True) (okp := fun _ => True) ?hr ?hp (fun _ hk => hk) trivial (Below.refl _ _) (Nat.le_refl _) (by simp) ?_; (case hd => rfl); (case hg => rfl); (case hr => first | (go_simp; done) | (go_simp; rfl)); (case hp => exact (Reps.one (show Kd.M (Kd.int .u8) _ _ _ ((wrap64 (48 + a0)) % 256) [.int .u8 ((wrap64 (48 + a0)) % 256)] from rfl) (Reps.none _ _))); intro v267 w3 ho4 hb hg_ hnew_; clear hg_ hnew_; (first | rw [← Ny266.out] at ho4 | (simp only [Int.reduceToNat] at ho4; rw [← Ny266.out] at ho4)); have HO268 := sqM (Kd.R_lower ho4 (below_size (sqB HB.out))); replace HB := sqM (below_step (sqB HB.out) hb); clear hb ho4; have hcv5 := own_string (P := Tryd.prog) Tryd.underlying59 Tryd.underlying5 Tryd.underlying9 (Kd.own_of_R HO268.out); have hcw6 := fun n_ => own_string (P := Tryd.prog) Tryd.underlying59 Tryd.underlying5 Tryd.underlying9 (Kd.own_of_R (Kd.R_drewN HO268.out n_))))
   go_ret
   exact ⟨sqE, sqB HB.out⟩
 rw [if_neg c2] at H
 have c2b0 : decide (a0 < 10) = false := decide_eq_false c2
 clear c2
 replace H := Option.bind_eq_some_iff.mp H
 obtain ⟨t269, A70, H⟩ := H
 replace H : ((boarderref01_decimal.f k (Int.tmod a0 10)).bind fun t270 => (if t269.size + t270.size ≤ 9223372036854775807 then (some (t269 ++ t270)) else (none))) = some r := H
 have A7 := Aside0.mk A70
 clear A70
 replace H := Option.bind_eq_some_iff.mp H
 obtain ⟨t270, A80, H⟩ := H
 replace H : (if t269.size + t270.size ≤ 9223372036854775807 then (some (t269 ++ t270)) else (none)) = some r := H
 have A8 := Aside0.mk A80
 clear A80
 by_cases c9 : t269.size + t270.size ≤ 9223372036854775807
 rotate_left
 · rw [if_neg c9] at H
   exact absurd H (by simp)
 rw [if_pos c9] at H
 have c9b0 := eq_true c9
 have c9b1 : decide (t269.size + t270.size ≤ 9223372036854775807) = true := decide_eq_true c9
 try have c9b2 : (9223372036854775807 < t269.size + t270.size) = False := eq_false (Nat.not_lt.2 c9)
 (try (have c9q := c9; simp only [ByteArray.size_append, Com.mk_size, List.size_toArray, List.length_cons, List.length_nil, Nat.zero_add] at c9q; have c9b3 := eq_false (Nat.not_lt.2 c9q); have c9b4 := eq_true c9q; clear c9q))
 obtain rfl := Option.some.inj H
 go_enter Tryd.func70, Tryd.ntmps70
 go_wp2_with (first | ((with_reducible refine gate_callee (f := 70) rfl ?_); refine goesL_ (some 12) rfl rfl Tryd.func70 (by kernel_rfl) rfl #[.int .i64 (wrap64 (Int.tdiv a0 10))] rfl sqA ?_; (with_reducible refine (ih k (by omega) (wrap64 (Int.tdiv a0 10)) t269 _ A7.out).mono ?_); rintro e w10 ⟨rfl, hb⟩; refine ⟨_, rfl, ?_⟩; replace HB := sqM (below_step (sqB HB.out) hb); (try clear hb); (try clear hb2); (try clear hk); (try clear hi)) | ((with_reducible refine gate_callee (f := 70) rfl ?_); refine goesL_ (some 15) rfl rfl Tryd.func70 (by kernel_rfl) rfl #[.int .i64 (Int.tmod a0 10)] rfl sqA ?_; (with_reducible refine (ih k (by omega) (Int.tmod a0 10) t270 _ A8.out).mono ?_); rintro e w11 ⟨rfl, hb⟩; refine ⟨_, rfl, ?_⟩; replace HB := sqM (below_step (sqB HB.out) hb); (try clear hb); (try clear hb2); (try clear hk); (try clear hi)))
 go_ret
 exact ⟨sqE, sqB HB.out⟩

/-! ### boarderref01_Text: function 39 -/
def boarderref01_Text.f (k : Nat) (a0 : Int) : Option (ByteArray) := (boarderref01_decimal.f k (wrap64 (Int.tdiv a0 16777216))).bind fun t271 => (if t271.size + 1 ≤ 9223372036854775807 then ((boarderref01_decimal.f k (Int.tmod (wrap64 (Int.tdiv a0 65536)) 256)).bind fun t272 => (if (t271 ++ (⟨#[46]⟩ : ByteArray)).size + t272.size ≤ 9223372036854775807 then (if ((t271 ++ (⟨#[46]⟩ : ByteArray)) ++ t272).size + 1 ≤ 9223372036854775807 then ((boarderref01_decimal.f k (Int.tmod (wrap64 (Int.tdiv a0 256)) 256)).bind fun t273 => (if (((t271 ++ (⟨#[46]⟩ : ByteArray)) ++ t272) ++ (⟨#[46]⟩ : ByteArray)).size + t273.size ≤ 9223372036854775807 then (if ((((t271 ++ (⟨#[46]⟩ : ByteArray)) ++ t272) ++ (⟨#[46]⟩ : ByteArray)) ++ t273).size + 1 ≤ 9223372036854775807 then ((boarderref01_decimal.f k (Int.tmod a0 256)).bind fun t274 => (if (((((t271 ++ (⟨#[46]⟩ : ByteArray)) ++ t272) ++ (⟨#[46]⟩ : ByteArray)) ++ t273) ++ (⟨#[46]⟩ : ByteArray)).size + t274.size ≤ 9223372036854775807 then (some ((((((t271 ++ (⟨#[46]⟩ : ByteArray)) ++ t272) ++ (⟨#[46]⟩ : ByteArray)) ++ t273) ++ (⟨#[46]⟩ : ByteArray)) ++ t274)) else (none))) else (none)) else (none))) else (none)) else (none))) else (none))
set_option maxHeartbeats 8000000 in
set_option maxRecDepth 100000 in
theorem boarderref01_Text.calls (k : Nat) (a0 : Int) (r : ByteArray) (w : World) (h : boarderref01_Text.f k a0 = some r) :
    Calls Tryd.prog 39 #[.int .i64 a0] w fun e w' => e = .returned (.string r) ∧ Below w.heap.size w w' := by
 have HB := Aside0.mk (Below.refl w.heap.size w)
 have H : ((boarderref01_decimal.f k (wrap64 (Int.tdiv a0 16777216))).bind fun t271 => (if t271.size + 1 ≤ 9223372036854775807 then ((boarderref01_decimal.f k (Int.tmod (wrap64 (Int.tdiv a0 65536)) 256)).bind fun t272 => (if (t271 ++ (⟨#[46]⟩ : ByteArray)).size + t272.size ≤ 9223372036854775807 then (if ((t271 ++ (⟨#[46]⟩ : ByteArray)) ++ t272).size + 1 ≤ 9223372036854775807 then ((boarderref01_decimal.f k (Int.tmod (wrap64 (Int.tdiv a0 256)) 256)).bind fun t273 => (if (((t271 ++ (⟨#[46]⟩ : ByteArray)) ++ t272) ++ (⟨#[46]⟩ : ByteArray)).size + t273.size ≤ 9223372036854775807 then (if ((((t271 ++ (⟨#[46]⟩ : ByteArray)) ++ t272) ++ (⟨#[46]⟩ : ByteArray)) ++ t273).size + 1 ≤ 9223372036854775807 then ((boarderref01_decimal.f k (Int.tmod a0 256)).bind fun t274 => (if (((((t271 ++ (⟨#[46]⟩ : ByteArray)) ++ t272) ++ (⟨#[46]⟩ : ByteArray)) ++ t273) ++ (⟨#[46]⟩ : ByteArray)).size + t274.size ≤ 9223372036854775807 then (some ((((((t271 ++ (⟨#[46]⟩ : ByteArray)) ++ t272) ++ (⟨#[46]⟩ : ByteArray)) ++ t273) ++ (⟨#[46]⟩ : ByteArray)) ++ t274)) else (none))) else (none)) else (none))) else (none)) else (none))) else (none))) = some r := h
 clear h
 replace H := Option.bind_eq_some_iff.mp H
 obtain ⟨t271, A20, H⟩ := H
 replace H : (if t271.size + 1 ≤ 9223372036854775807 then ((boarderref01_decimal.f k (Int.tmod (wrap64 (Int.tdiv a0 65536)) 256)).bind fun t272 => (if (t271 ++ (⟨#[46]⟩ : ByteArray)).size + t272.size ≤ 9223372036854775807 then (if ((t271 ++ (⟨#[46]⟩ : ByteArray)) ++ t272).size + 1 ≤ 9223372036854775807 then ((boarderref01_decimal.f k (Int.tmod (wrap64 (Int.tdiv a0 256)) 256)).bind fun t273 => (if (((t271 ++ (⟨#[46]⟩ : ByteArray)) ++ t272) ++ (⟨#[46]⟩ : ByteArray)).size + t273.size ≤ 9223372036854775807 then (if ((((t271 ++ (⟨#[46]⟩ : ByteArray)) ++ t272) ++ (⟨#[46]⟩ : ByteArray)) ++ t273).size + 1 ≤ 9223372036854775807 then ((boarderref01_decimal.f k (Int.tmod a0 256)).bind fun t274 => (if (((((t271 ++ (⟨#[46]⟩ : ByteArray)) ++ t272) ++ (⟨#[46]⟩ : ByteArray)) ++ t273) ++ (⟨#[46]⟩ : ByteArray)).size + t274.size ≤ 9223372036854775807 then (some ((((((t271 ++ (⟨#[46]⟩ : ByteArray)) ++ t272) ++ (⟨#[46]⟩ : ByteArray)) ++ t273) ++ (⟨#[46]⟩ : ByteArray)) ++ t274)) else (none))) else (none)) else (none))) else (none)) else (none))) else (none)) = some r := H
 have A2 := Aside0.mk A20
 clear A20
 by_cases c3 : t271.size + 1 ≤ 9223372036854775807
 rotate_left
 · rw [if_neg c3] at H
   exact absurd H (by simp)
 rw [if_pos c3] at H
 have c3b0 := eq_true c3
 have c3b1 : decide (t271.size + 1 ≤ 9223372036854775807) = true := decide_eq_true c3
 try have c3b2 : (9223372036854775807 < t271.size + 1) = False := eq_false (Nat.not_lt.2 c3)
 (try (have c3q := c3; simp only [ByteArray.size_append, Com.mk_size, List.size_toArray, List.length_cons, List.length_nil, Nat.zero_add] at c3q; have c3b3 := eq_false (Nat.not_lt.2 c3q); have c3b4 := eq_true c3q; clear c3q))
 replace H := Option.bind_eq_some_iff.mp H
 obtain ⟨t272, A40, H⟩ := H
 replace H : (if (t271 ++ (⟨#[46]⟩ : ByteArray)).size + t272.size ≤ 9223372036854775807 then (if ((t271 ++ (⟨#[46]⟩ : ByteArray)) ++ t272).size + 1 ≤ 9223372036854775807 then ((boarderref01_decimal.f k (Int.tmod (wrap64 (Int.tdiv a0 256)) 256)).bind fun t273 => (if (((t271 ++ (⟨#[46]⟩ : ByteArray)) ++ t272) ++ (⟨#[46]⟩ : ByteArray)).size + t273.size ≤ 9223372036854775807 then (if ((((t271 ++ (⟨#[46]⟩ : ByteArray)) ++ t272) ++ (⟨#[46]⟩ : ByteArray)) ++ t273).size + 1 ≤ 9223372036854775807 then ((boarderref01_decimal.f k (Int.tmod a0 256)).bind fun t274 => (if (((((t271 ++ (⟨#[46]⟩ : ByteArray)) ++ t272) ++ (⟨#[46]⟩ : ByteArray)) ++ t273) ++ (⟨#[46]⟩ : ByteArray)).size + t274.size ≤ 9223372036854775807 then (some ((((((t271 ++ (⟨#[46]⟩ : ByteArray)) ++ t272) ++ (⟨#[46]⟩ : ByteArray)) ++ t273) ++ (⟨#[46]⟩ : ByteArray)) ++ t274)) else (none))) else (none)) else (none))) else (none)) else (none)) = some r := H
 have A4 := Aside0.mk A40
 clear A40
 by_cases c5 : (t271 ++ (⟨#[46]⟩ : ByteArray)).size + t272.size ≤ 9223372036854775807
 rotate_left
 · rw [if_neg c5] at H
   exact absurd H (by simp)
 rw [if_pos c5] at H
 have c5b0 := eq_true c5
 have c5b1 : decide ((t271 ++ (⟨#[46]⟩ : ByteArray)).size + t272.size ≤ 9223372036854775807) = true := decide_eq_true c5
 try have c5b2 : (9223372036854775807 < (t271 ++ (⟨#[46]⟩ : ByteArray)).size + t272.size) = False := eq_false (Nat.not_lt.2 c5)
 (try (have c5q := c5; simp only [ByteArray.size_append, Com.mk_size, List.size_toArray, List.length_cons, List.length_nil, Nat.zero_add] at c5q; have c5b3 := eq_false (Nat.not_lt.2 c5q); have c5b4 := eq_true c5q; clear c5q))
 by_cases c6 : ((t271 ++ (⟨#[46]⟩ : ByteArray)) ++ t272).size + 1 ≤ 9223372036854775807
 rotate_left
 · rw [if_neg c6] at H
   exact absurd H (by simp)
 rw [if_pos c6] at H
 have c6b0 := eq_true c6
 have c6b1 : decide (((t271 ++ (⟨#[46]⟩ : ByteArray)) ++ t272).size + 1 ≤ 9223372036854775807) = true := decide_eq_true c6
 try have c6b2 : (9223372036854775807 < ((t271 ++ (⟨#[46]⟩ : ByteArray)) ++ t272).size + 1) = False := eq_false (Nat.not_lt.2 c6)
 (try (have c6q := c6; simp only [ByteArray.size_append, Com.mk_size, List.size_toArray, List.length_cons, List.length_nil, Nat.zero_add] at c6q; have c6b3 := eq_false (Nat.not_lt.2 c6q); have c6b4 := eq_true c6q; clear c6q))
 replace H := Option.bind_eq_some_iff.mp H
 obtain ⟨t273, A70, H⟩ := H
 replace H : (if (((t271 ++ (⟨#[46]⟩ : ByteArray)) ++ t272) ++ (⟨#[46]⟩ : ByteArray)).size + t273.size ≤ 9223372036854775807 then (if ((((t271 ++ (⟨#[46]⟩ : ByteArray)) ++ t272) ++ (⟨#[46]⟩ : ByteArray)) ++ t273).size + 1 ≤ 9223372036854775807 then ((boarderref01_decimal.f k (Int.tmod a0 256)).bind fun t274 => (if (((((t271 ++ (⟨#[46]⟩ : ByteArray)) ++ t272) ++ (⟨#[46]⟩ : ByteArray)) ++ t273) ++ (⟨#[46]⟩ : ByteArray)).size + t274.size ≤ 9223372036854775807 then (some ((((((t271 ++ (⟨#[46]⟩ : ByteArray)) ++ t272) ++ (⟨#[46]⟩ : ByteArray)) ++ t273) ++ (⟨#[46]⟩ : ByteArray)) ++ t274)) else (none))) else (none)) else (none)) = some r := H
 have A7 := Aside0.mk A70
 clear A70
 by_cases c8 : (((t271 ++ (⟨#[46]⟩ : ByteArray)) ++ t272) ++ (⟨#[46]⟩ : ByteArray)).size + t273.size ≤ 9223372036854775807
 rotate_left
 · rw [if_neg c8] at H
   exact absurd H (by simp)
 rw [if_pos c8] at H
 have c8b0 := eq_true c8
 have c8b1 : decide ((((t271 ++ (⟨#[46]⟩ : ByteArray)) ++ t272) ++ (⟨#[46]⟩ : ByteArray)).size + t273.size ≤ 9223372036854775807) = true := decide_eq_true c8
 try have c8b2 : (9223372036854775807 < (((t271 ++ (⟨#[46]⟩ : ByteArray)) ++ t272) ++ (⟨#[46]⟩ : ByteArray)).size + t273.size) = False := eq_false (Nat.not_lt.2 c8)
 (try (have c8q := c8; simp only [ByteArray.size_append, Com.mk_size, List.size_toArray, List.length_cons, List.length_nil, Nat.zero_add] at c8q; have c8b3 := eq_false (Nat.not_lt.2 c8q); have c8b4 := eq_true c8q; clear c8q))
 by_cases c9 : ((((t271 ++ (⟨#[46]⟩ : ByteArray)) ++ t272) ++ (⟨#[46]⟩ : ByteArray)) ++ t273).size + 1 ≤ 9223372036854775807
 rotate_left
 · rw [if_neg c9] at H
   exact absurd H (by simp)
 rw [if_pos c9] at H
 have c9b0 := eq_true c9
 have c9b1 : decide (((((t271 ++ (⟨#[46]⟩ : ByteArray)) ++ t272) ++ (⟨#[46]⟩ : ByteArray)) ++ t273).size + 1 ≤ 9223372036854775807) = true := decide_eq_true c9
 try have c9b2 : (9223372036854775807 < ((((t271 ++ (⟨#[46]⟩ : ByteArray)) ++ t272) ++ (⟨#[46]⟩ : ByteArray)) ++ t273).size + 1) = False := eq_false (Nat.not_lt.2 c9)
 (try (have c9q := c9; simp only [ByteArray.size_append, Com.mk_size, List.size_toArray, List.length_cons, List.length_nil, Nat.zero_add] at c9q; have c9b3 := eq_false (Nat.not_lt.2 c9q); have c9b4 := eq_true c9q; clear c9q))
 replace H := Option.bind_eq_some_iff.mp H
 obtain ⟨t274, A100, H⟩ := H
 replace H : (if (((((t271 ++ (⟨#[46]⟩ : ByteArray)) ++ t272) ++ (⟨#[46]⟩ : ByteArray)) ++ t273) ++ (⟨#[46]⟩ : ByteArray)).size + t274.size ≤ 9223372036854775807 then (some ((((((t271 ++ (⟨#[46]⟩ : ByteArray)) ++ t272) ++ (⟨#[46]⟩ : ByteArray)) ++ t273) ++ (⟨#[46]⟩ : ByteArray)) ++ t274)) else (none)) = some r := H
 have A10 := Aside0.mk A100
 clear A100
 by_cases c11 : (((((t271 ++ (⟨#[46]⟩ : ByteArray)) ++ t272) ++ (⟨#[46]⟩ : ByteArray)) ++ t273) ++ (⟨#[46]⟩ : ByteArray)).size + t274.size ≤ 9223372036854775807
 rotate_left
 · rw [if_neg c11] at H
   exact absurd H (by simp)
 rw [if_pos c11] at H
 have c11b0 := eq_true c11
 have c11b1 : decide ((((((t271 ++ (⟨#[46]⟩ : ByteArray)) ++ t272) ++ (⟨#[46]⟩ : ByteArray)) ++ t273) ++ (⟨#[46]⟩ : ByteArray)).size + t274.size ≤ 9223372036854775807) = true := decide_eq_true c11
 try have c11b2 : (9223372036854775807 < (((((t271 ++ (⟨#[46]⟩ : ByteArray)) ++ t272) ++ (⟨#[46]⟩ : ByteArray)) ++ t273) ++ (⟨#[46]⟩ : ByteArray)).size + t274.size) = False := eq_false (Nat.not_lt.2 c11)
 (try (have c11q := c11; simp only [ByteArray.size_append, Com.mk_size, List.size_toArray, List.length_cons, List.length_nil, Nat.zero_add] at c11q; have c11b3 := eq_false (Nat.not_lt.2 c11q); have c11b4 := eq_true c11q; clear c11q))
 obtain rfl := Option.some.inj H
 go_enter Tryd.func39, Tryd.ntmps39
 go_wp2_with (first | ((with_reducible refine gate_callee (f := 70) rfl ?_); refine goesL_ (some 5) rfl rfl Tryd.func70 (by kernel_rfl) rfl #[.int .i64 (wrap64 (Int.tdiv a0 16777216))] rfl sqA ?_; (with_reducible refine (boarderref01_decimal.calls _ _ _ _ A2.out).mono ?_); rintro e w12 ⟨rfl, hb⟩; refine ⟨_, rfl, ?_⟩; replace HB := sqM (below_step (sqB HB.out) hb); (try clear hb); (try clear hb2); (try clear hk); (try clear hi)) | ((with_reducible refine gate_callee (f := 70) rfl ?_); refine goesL_ (some 10) rfl rfl Tryd.func70 (by kernel_rfl) rfl #[.int .i64 (Int.tmod (wrap64 (Int.tdiv a0 65536)) 256)] rfl sqA ?_; (with_reducible refine (boarderref01_decimal.calls _ _ _ _ A4.out).mono ?_); rintro e w13 ⟨rfl, hb⟩; refine ⟨_, rfl, ?_⟩; replace HB := sqM (below_step (sqB HB.out) hb); (try clear hb); (try clear hb2); (try clear hk); (try clear hi)) | ((with_reducible refine gate_callee (f := 70) rfl ?_); refine goesL_ (some 16) rfl rfl Tryd.func70 (by kernel_rfl) rfl #[.int .i64 (Int.tmod (wrap64 (Int.tdiv a0 256)) 256)] rfl sqA ?_; (with_reducible refine (boarderref01_decimal.calls _ _ _ _ A7.out).mono ?_); rintro e w14 ⟨rfl, hb⟩; refine ⟨_, rfl, ?_⟩; replace HB := sqM (below_step (sqB HB.out) hb); (try clear hb); (try clear hb2); (try clear hk); (try clear hi)) | ((with_reducible refine gate_callee (f := 70) rfl ?_); refine goesL_ (some 21) rfl rfl Tryd.func70 (by kernel_rfl) rfl #[.int .i64 (Int.tmod a0 256)] rfl sqA ?_; (with_reducible refine (boarderref01_decimal.calls _ _ _ _ A10.out).mono ?_); rintro e w15 ⟨rfl, hb⟩; refine ⟨_, rfl, ?_⟩; replace HB := sqM (below_step (sqB HB.out) hb); (try clear hb); (try clear hb2); (try clear hk); (try clear hi)))
 go_ret
 exact ⟨sqE, sqB HB.out⟩

/-! ### boarderref24_word: function 40 -/
def boarderref24_word.f (a0 : Int) : Option (ByteArray) := if a0 = 1 then (some (⟨#[98, 111, 117, 110, 100]⟩ : ByteArray)) else (if a0 = 2 then (some (⟨#[114, 101, 108, 101, 97, 115, 101, 100]⟩ : ByteArray)) else (some (⟨#[100, 101, 99, 108, 105, 110, 101, 100]⟩ : ByteArray)))
set_option maxHeartbeats 8000000 in
set_option maxRecDepth 100000 in
theorem boarderref24_word.calls (a0 : Int) (r : ByteArray) (w : World) (h : boarderref24_word.f a0 = some r) :
    Calls Tryd.prog 40 #[.int .i64 a0] w fun e w' => e = .returned (.string r) ∧ Drawn0 w w' := by
 have H : (if a0 = 1 then (some (⟨#[98, 111, 117, 110, 100]⟩ : ByteArray)) else (if a0 = 2 then (some (⟨#[114, 101, 108, 101, 97, 115, 101, 100]⟩ : ByteArray)) else (some (⟨#[100, 101, 99, 108, 105, 110, 101, 100]⟩ : ByteArray)))) = some r := h
 clear h
 by_cases c2 : a0 = 1
 · rw [if_pos c2] at H
   have c2b0 : (a0 == 1) = true := beq_iff_eq.mpr c2
   have c2b1 : (a0 != 1) = false := bne_eq_false_iff_eq.mpr c2
   clear c2
   obtain rfl := Option.some.inj H
   go_enter Tryd.func40, Tryd.ntmps40
   go_wp2
   go_ret
   exact ⟨sqI, sqD⟩
 rw [if_neg c2] at H
 have c2b0 : (a0 == 1) = false := beq_eq_false_iff_ne.mpr c2
 have c2b1 : (a0 != 1) = true := bne_iff_ne.mpr c2
 by_cases c3 : a0 = 2
 rotate_left
 · rw [if_neg c3] at H
   have c3b0 : (a0 == 2) = false := beq_eq_false_iff_ne.mpr c3
   have c3b1 : (a0 != 2) = true := bne_iff_ne.mpr c3
   obtain rfl := Option.some.inj H
   go_enter Tryd.func40, Tryd.ntmps40
   go_wp2
   go_ret
   exact ⟨sqI, sqD⟩
 rw [if_pos c3] at H
 have c3b0 : (a0 == 2) = true := beq_iff_eq.mpr c3
 have c3b1 : (a0 != 2) = false := bne_eq_false_iff_eq.mpr c3
 clear c3
 obtain rfl := Option.some.inj H
 go_enter Tryd.func40, Tryd.ntmps40
 go_wp2
 go_ret
 exact ⟨sqI, sqD⟩

/-! ### boarderref23_Num: function 41 -/
def boarderref23_Num.f : Nat → Int → Option (ByteArray)
  | 0, _ => none
  | k + 1, a0 => if a0 < 10 then (some (strOfNums (([(wrap64 (48 + a0)) % 256] : List Int)))) else ((boarderref23_Num.f k (wrap64 (Int.tdiv a0 10))).bind fun t278 => ((boarderref23_Num.f k (Int.tmod a0 10)).bind fun t279 => (if t278.size + t279.size ≤ 9223372036854775807 then (some (t278 ++ t279)) else (none))))
set_option maxHeartbeats 8000000 in
set_option maxRecDepth 100000 in
theorem boarderref23_Num.calls (k : Nat) : ∀ (a0 : Int) (r : ByteArray) (w : World) (h : boarderref23_Num.f k a0 = some r),
    Calls Tryd.prog 41 #[.int .i64 a0] w fun e w' => e = .returned (.string r) ∧ Below w.heap.size w w' := by
 induction k using Nat.strongRecOn with
 | _ k ih =>
 intro a0 r w h
 cases k with
 | zero => exact absurd h (by simp [boarderref23_Num.f])
 | succ k =>
 simp only [boarderref23_Num.f] at h
 have HB := Aside0.mk (Below.refl w.heap.size w)
 have H : (if a0 < 10 then (some (strOfNums (([(wrap64 (48 + a0)) % 256] : List Int)))) else ((boarderref23_Num.f k (wrap64 (Int.tdiv a0 10))).bind fun t278 => ((boarderref23_Num.f k (Int.tmod a0 10)).bind fun t279 => (if t278.size + t279.size ≤ 9223372036854775807 then (some (t278 ++ t279)) else (none))))) = some r := h
 clear h
 by_cases c2 : a0 < 10
 · rw [if_pos c2] at H
   have c2b0 : decide (a0 < 10) = true := decide_eq_true c2
   clear c2
   obtain ⟨y275, hy275⟩ : ∃ y_ : List Int, y_ = (([(wrap64 (48 + a0)) % 256] : List Int)) := ⟨_, rfl⟩
   replace H : (some (strOfNums y275)) = some r := by first | (rw [hy275]; with_reducible exact H) | (have H2_ := (Option.bind_some _ _).symm.trans H; rw [hy275]; with_reducible exact H2_) | (have H2_ := (Option.bind_some _ _).symm.trans H; with_reducible exact H2_) | with_reducible exact H | (rw [hy275]; exact H) | exact H
   have Ny275 := Aside0.mk hy275
   clear hy275
   obtain rfl := Option.some.inj H
   go_enter Tryd.func41, Tryd.ntmps41
   go_wp2_with (first | ((with_reducible refine gate_dst (N := 8) rfl ?_); refine Kd.R_lit (Kd.int .u8) _ 5 ?hg (N := 8) ?hd (xs := ([(wrap64 (48 + a0)) % 256] : List Int)) (inner := [.int .u8 ((wrap64 (48 + a0)) % 256)]) (ok := fun _ => True) (okp := fun _ => True) ?hr ?hp (fun _ hk => hk) trivial (Below.refl _ _) (Nat.le_refl _) (by simp) ?_; (case hd => rfl); (case hg => rfl); (case hr => first | (go_simp; done) | (go_simp; rfl)); (case hp => exact (Reps.one (show Kd.M (Kd.int .u8) _ _ _ ((wrap64 (48 + a0)) % 256) [.int .u8 ((wrap64 (48 + a0)) % 256)] from rfl) (Reps.none _ _))); intro v276 w3 ho4 hb hg_ hnew_; clear hg_ hnew_; (first | rw [← Ny275.out] at ho4 | (simp only [Int.reduceToNat] at ho4; rw [← Ny275.out] at ho4)); have HO277 := sqM (Kd.R_lower ho4 (below_size (sqB HB.out))); replace HB := sqM (below_step (sqB HB.out) hb); clear hb ho4; have hcv5 := own_string (P := Tryd.prog) Tryd.underlying59 Tryd.underlying5 Tryd.underlying9 (Kd.own_of_R HO277.out); have hcw6 := fun n_ => own_string (P := Tryd.prog) Tryd.underlying59 Tryd.underlying5 Tryd.underlying9 (Kd.own_of_R (Kd.R_drewN HO277.out n_))))
   go_ret
   exact ⟨sqE, sqB HB.out⟩
 rw [if_neg c2] at H
 have c2b0 : decide (a0 < 10) = false := decide_eq_false c2
 clear c2
 replace H := Option.bind_eq_some_iff.mp H
 obtain ⟨t278, A70, H⟩ := H
 replace H : ((boarderref23_Num.f k (Int.tmod a0 10)).bind fun t279 => (if t278.size + t279.size ≤ 9223372036854775807 then (some (t278 ++ t279)) else (none))) = some r := H
 have A7 := Aside0.mk A70
 clear A70
 replace H := Option.bind_eq_some_iff.mp H
 obtain ⟨t279, A80, H⟩ := H
 replace H : (if t278.size + t279.size ≤ 9223372036854775807 then (some (t278 ++ t279)) else (none)) = some r := H
 have A8 := Aside0.mk A80
 clear A80
 by_cases c9 : t278.size + t279.size ≤ 9223372036854775807
 rotate_left
 · rw [if_neg c9] at H
   exact absurd H (by simp)
 rw [if_pos c9] at H
 have c9b0 := eq_true c9
 have c9b1 : decide (t278.size + t279.size ≤ 9223372036854775807) = true := decide_eq_true c9
 try have c9b2 : (9223372036854775807 < t278.size + t279.size) = False := eq_false (Nat.not_lt.2 c9)
 (try (have c9q := c9; simp only [ByteArray.size_append, Com.mk_size, List.size_toArray, List.length_cons, List.length_nil, Nat.zero_add] at c9q; have c9b3 := eq_false (Nat.not_lt.2 c9q); have c9b4 := eq_true c9q; clear c9q))
 obtain rfl := Option.some.inj H
 go_enter Tryd.func41, Tryd.ntmps41
 go_wp2_with (first | ((with_reducible refine gate_callee (f := 41) rfl ?_); refine goesL_ (some 12) rfl rfl Tryd.func41 (by kernel_rfl) rfl #[.int .i64 (wrap64 (Int.tdiv a0 10))] rfl sqA ?_; (with_reducible refine (ih k (by omega) (wrap64 (Int.tdiv a0 10)) t278 _ A7.out).mono ?_); rintro e w10 ⟨rfl, hb⟩; refine ⟨_, rfl, ?_⟩; replace HB := sqM (below_step (sqB HB.out) hb); (try clear hb); (try clear hb2); (try clear hk); (try clear hi)) | ((with_reducible refine gate_callee (f := 41) rfl ?_); refine goesL_ (some 15) rfl rfl Tryd.func41 (by kernel_rfl) rfl #[.int .i64 (Int.tmod a0 10)] rfl sqA ?_; (with_reducible refine (ih k (by omega) (Int.tmod a0 10) t279 _ A8.out).mono ?_); rintro e w11 ⟨rfl, hb⟩; refine ⟨_, rfl, ?_⟩; replace HB := sqM (below_step (sqB HB.out) hb); (try clear hb); (try clear hb2); (try clear hk); (try clear hi)))
 go_ret
 exact ⟨sqE, sqB HB.out⟩

/-! ### boarderref07_hex: function 71 -/
def boarderref07_hex.f (a0 : Int) : Option (Int) := if a0 < 10 then (some ((48 + a0) % 256)) else (some ((87 + a0) % 256))
set_option maxHeartbeats 8000000 in
set_option maxRecDepth 100000 in
theorem boarderref07_hex.calls (a0 : Int) (r : Int) (w : World) (h : boarderref07_hex.f a0 = some r) :
    Calls Tryd.prog 71 #[.int .u8 a0] w fun e w' => e = .returned (.int .u8 r) ∧ Drawn0 w w' := by
 have H : (if a0 < 10 then (some ((48 + a0) % 256)) else (some ((87 + a0) % 256))) = some r := h
 clear h
 by_cases c2 : a0 < 10
 · rw [if_pos c2] at H
   have c2b0 : decide (a0 < 10) = true := decide_eq_true c2
   clear c2
   obtain rfl := Option.some.inj H
   go_enter Tryd.func71, Tryd.ntmps71
   go_wp2
   go_ret
   exact ⟨sqI, sqD⟩
 rw [if_neg c2] at H
 have c2b0 : decide (a0 < 10) = false := decide_eq_false c2
 clear c2
 obtain rfl := Option.some.inj H
 go_enter Tryd.func71, Tryd.ntmps71
 go_wp2
 go_ret
 exact ⟨sqI, sqD⟩

/-! ### boarderref07_Text: function 42 -/
def boarderref07_Text.l0 : Nat → ByteArray → List Int → Int → Option (ByteArray)
  | 0, _, _, _ => none
  | k + 1, x0, x3, x4 => if x4 < (x0.size : Int) then (if 0 ≤ x4 then ((boarderref07_hex.f ((Int.tdiv (bt x0 x4) 16) % 256)).bind fun t283 => ((boarderref07_hex.f (Int.tmod (bt x0 x4) 16)).bind fun t284 => ((some (([t283, t284] : List Int) : List Int)).bind fun y285 => (if x3.length + y285.length < 140737488355328 then (boarderref07_Text.l0 k x0 (x3 ++ y285) (wrap64 (x4 + 1))) else (none))))) else (none)) else (some (strOfNums x3))
def boarderref07_Text.f (k : Nat) (a0 : ByteArray) : Option (ByteArray) := if 0 < (a0.size : Int) then (boarderref07_Text.l0 k a0 (([bt a0 0, 45] : List Int)) 1) else (none)
def boarderref07_Text.T5 : Bool × List (List Nat × List Nat) := (true, [([], []), ([], []), ([], []), ([1, 2], [1, 2]), ([3], [3]), ([4], [4]), ([], []), ([], []), ([6, 7], [6, 7]), ([8], [8]), ([9, 5], [9]), ([5, 10], [5, 10]), ([0, 11, 10], [0, 11]), ([12, 12, 0, 1, 2, 3, 4, 5, 6, 7, 8, 9, 10, 11, 12], [0, 12])])
def boarderref07_Text.B5 : List Nat := [0, 0, 0, 6, 14, 30, 0, 0, 192, 448, 1022, 2046, 4095, 8191]
theorem boarderref07_Text.tab5 : rtab .any (opsOf Tryd.f42 5) = boarderref07_Text.T5 := by kernel_rfl
theorem boarderref07_Text.bits5 : waitsOk boarderref07_Text.T5.2 boarderref07_Text.B5 = true := by kernel_rfl
set_option maxHeartbeats 8000000 in
set_option maxRecDepth 100000 in
theorem boarderref07_Text.calls (k : Nat) (a0 : ByteArray) (r : ByteArray) (w : World) (h : boarderref07_Text.f k a0 = some r) :
    Calls Tryd.prog 42 #[.string a0] w fun e w' => e = .returned (.string r) ∧ Below w.heap.size w w' := by
 have HB := Aside0.mk (Below.refl w.heap.size w)
 have H : (if 0 < (a0.size : Int) then (boarderref07_Text.l0 k a0 (([bt a0 0, 45] : List Int)) 1) else (none)) = some r := h
 clear h
 by_cases c2 : 0 < (a0.size : Int)
 rotate_left
 · rw [if_neg c2] at H
   exact absurd H (by simp)
 rw [if_pos c2] at H
 have c2b0 : decide (0 < (a0.size : Int)) = true := decide_eq_true c2
 have c2b1 : decide (0 < a0.size) = true := decide_eq_true (by omega)
 clear c2
 obtain ⟨y280, hy280⟩ : ∃ y_ : List Int, y_ = (([bt a0 0, 45] : List Int)) := ⟨_, rfl⟩
 replace H : (boarderref07_Text.l0 k a0 y280 1) = some r := by first | (rw [hy280]; with_reducible exact H) | (have H2_ := (Option.bind_some _ _).symm.trans H; rw [hy280]; with_reducible exact H2_) | (have H2_ := (Option.bind_some _ _).symm.trans H; with_reducible exact H2_) | with_reducible exact H | (rw [hy280]; exact H) | exact H
 have Ny280 := Aside0.mk hy280
 clear hy280
 have H' := Aside0.mk H
 clear H
 have p3 : 0 ≤ (0 : Int) := (by omega)
 have q3 : 0 < a0.size := (by have : (0 : Int) < (a0.size : Int) := of_decide_eq_true sqH; omega)
 have hx3 : ∀ h : 0 < a0.size, ((a0[0]'h).toNat : Int) = bt a0 0 := bt_at a0 0
 clear p3
 have qi3 : (0 < (a0.size : Int)) = True := eq_true (of_decide_eq_true sqH)
 replace q3 := eq_true q3
 go_enter Tryd.func42, Tryd.ntmps42
 go_wp2_with (first | ((with_reducible refine gate_dst (N := 7) rfl ?_); refine Kd.R_lit (Kd.int .u8) _ 5 ?hg (N := 7) ?hd (xs := ([bt a0 0, 45] : List Int)) (inner := [.int .u8 (bt a0 0), .int .u8 45]) (ok := fun _ => True) (okp := fun _ => True) ?hr ?hp (fun _ hk => hk) trivial (Below.refl _ _) (Nat.le_refl _) (by simp) ?_; (case hd => rfl); (case hg => rfl); (case hr => first | (go_simp; done) | (go_simp; rfl)); (case hp => exact (Reps.one (show Kd.M (Kd.int .u8) _ _ _ (bt a0 0) [.int .u8 (bt a0 0)] from rfl) (Reps.one (show Kd.M (Kd.int .u8) _ _ _ 45 [.int .u8 45] from rfl) (Reps.none _ _)))); intro v281 w4 ho5 hb hg_ hnew_; clear hg_ hnew_; (first | rw [← Ny280.out] at ho5 | (simp only [Int.reduceToNat] at ho5; rw [← Ny280.out] at ho5)); have HO282 := sqM (Kd.R_lower ho5 (below_size (sqB HB.out))); replace HB := sqM (below_step (sqB HB.out) hb); clear hb ho5))
 go_loopg [3, 4] k (fun kq v3 v4 w' => ∃ (x3_1 : List Int) (x4_1 : Int), v4 = .int .i64 x4_1 ∧ Aside0 (boarderref07_Text.l0 kq a0 x3_1 x4_1 = some r) ∧ Aside0 (kq ≤ k) ∧ Aside0 (Kd.R (Kd.int .u8) 5 w' w.heap.size (fun _ => True) v3 x3_1) ∧ Aside0 (Below w.heap.size w w'))
 case atStart => exact ⟨(y280), (1), sqI, H', ⟨Nat.le_refl _⟩, ⟨sqR HO282.out⟩, ⟨sqB HB.out⟩⟩
 clear H'
 try clear c2
 try clear c2b0
 try clear c2b1
 try clear p2
 try clear p3
 try clear q3
 try clear hx3
 try clear qi3
 try clear c4
 try clear p3
 try clear q3
 obtain ⟨x3_1, x4_1, rfl, HA, HK1, HO_3, HB⟩ := hrel
 cases gk with
 | zero => exact absurd HA.out (by simp [boarderref07_Text.l0])
 | succ k1 => ?_
 have H := HA.out
 clear HA
 simp only [boarderref07_Text.l0] at H
 by_cases c6 : x4_1 < (a0.size : Int)
 rotate_left
 · rw [if_neg c6] at H
   have c6b0 : decide (x4_1 < (a0.size : Int)) = false := decide_eq_false c6
   clear c6
   obtain rfl := Option.some.inj H
   have hcv18 := own_string (P := Tryd.prog) Tryd.underlying59 Tryd.underlying5 Tryd.underlying9 (Kd.own_of_R HO_3.out)
   have hcw19 := fun n_ => own_string (P := Tryd.prog) Tryd.underlying59 Tryd.underlying5 Tryd.underlying9 (Kd.own_of_R (Kd.R_drewN HO_3.out n_))
   go_wp2
   go_ret
   exact ⟨sqE, sqB HB.out⟩
 rw [if_pos c6] at H
 have c6b0 : decide (x4_1 < (a0.size : Int)) = true := decide_eq_true c6
 clear c6
 by_cases c7 : 0 ≤ x4_1
 rotate_left
 · rw [if_neg c7] at H
   exact absurd H (by simp)
 rw [if_pos c7] at H
 have c7b0 : decide (0 ≤ x4_1) = true := decide_eq_true c7
 clear c7
 replace H := Option.bind_eq_some_iff.mp H
 obtain ⟨t283, A90, H⟩ := H
 replace H : ((boarderref07_hex.f (Int.tmod (bt a0 x4_1) 16)).bind fun t284 => ((some (([t283, t284] : List Int) : List Int)).bind fun y285 => (if x3_1.length + y285.length < 140737488355328 then (boarderref07_Text.l0 k1 a0 (x3_1 ++ y285) (wrap64 (x4_1 + 1))) else (none)))) = some r := H
 have A9 := Aside0.mk A90
 clear A90
 replace H := Option.bind_eq_some_iff.mp H
 obtain ⟨t284, A110, H⟩ := H
 replace H : ((some (([t283, t284] : List Int) : List Int)).bind fun y285 => (if x3_1.length + y285.length < 140737488355328 then (boarderref07_Text.l0 k1 a0 (x3_1 ++ y285) (wrap64 (x4_1 + 1))) else (none))) = some r := H
 have A11 := Aside0.mk A110
 clear A110
 obtain ⟨y285, hy285⟩ : ∃ y_ : List Int, y_ = (([t283, t284] : List Int)) := ⟨_, rfl⟩
 replace H : (if x3_1.length + y285.length < 140737488355328 then (boarderref07_Text.l0 k1 a0 (x3_1 ++ y285) (wrap64 (x4_1 + 1))) else (none)) = some r := by first | (rw [hy285]; with_reducible exact H) | (have H2_ := (Option.bind_some _ _).symm.trans H; rw [hy285]; with_reducible exact H2_) | (have H2_ := (Option.bind_some _ _).symm.trans H; with_reducible exact H2_) | with_reducible exact H | (rw [hy285]; exact H) | exact H
 have Ny285 := Aside0.mk hy285
 clear hy285
 by_cases c12 : x3_1.length + y285.length < 140737488355328
 rotate_left
 · rw [if_neg c12] at H
   exact absurd H (by simp)
 rw [if_pos c12] at H
 have LMc12 := Aside0.mk c12
 clear c12
 obtain ⟨y288, hy288⟩ : ∃ y_ : List Int, y_ = (x3_1 ++ y285) := ⟨_, rfl⟩
 replace H : (boarderref07_Text.l0 k1 a0 y288 (wrap64 (x4_1 + 1))) = some r := by first | (rw [hy288]; with_reducible exact H) | (have H2_ := (Option.bind_some _ _).symm.trans H; rw [hy288]; with_reducible exact H2_) | (have H2_ := (Option.bind_some _ _).symm.trans H; with_reducible exact H2_) | with_reducible exact H | (rw [hy288]; exact H) | exact H
 have Ny288 := Aside0.mk hy288
 clear hy288
 have H' := Aside0.mk H
 clear H
 try go_wp2
 replace HO_3 := Aside0.mk (Kd.R_drew HO_3.out)
 replace HB := Aside0.mk (below_drew1 HB.out)
 have p8 : 0 ≤ (x4_1 : Int) := of_decide_eq_true sqH
 have q8 : x4_1 < (a0.size : Int) := of_decide_eq_true sqH
 have hx8 := bt_at a0 x4_1
 replace p8 := eq_true p8
 replace q8 := eq_true q8
 have p10 : 0 ≤ (x4_1 : Int) := of_decide_eq_true sqH
 have q10 : x4_1 < (a0.size : Int) := of_decide_eq_true sqH
 have hx10 := bt_at a0 x4_1
 replace p10 := eq_true p10
 replace q10 := eq_true q10
 refine start_ (n := 14) (S := fun w' => True) (ds := []) #[false, false, false, false, false, false, false, false, false, false, false, false, false, false] (by kernel_rfl) rfl rfl trivial (fun hHeld => ?_); refine with_tabW boarderref07_Text.tab5 boarderref07_Text.bits5 (fun HT_ HW_ => ?_)
 generalize wr.drew = w13 at HO_3 HB hHeld ⊢
 refine pure_ (i := 0) (N := some 14) (v := ?_) (a' := ?_) #[true, false, false, false, false, false, false, false, false, false, false, false, false, false] rfl rfl (any_of HT_.out (by kernel_rfl)) (fun _ _ _ h => h) (Or.inl ⟨by rfl, ?_⟩) ?_ ?_
 rotate_left
 · intro w'
   go_simp
   with_reducible rfl
 rotate_left
 · simp only [Act.put, List.setIfInBounds_toArray, List.set_cons_zero, List.set_cons_succ, i64_w, i32_w]
   rfl
 refine pure_ (i := 1) (N := some 15) (v := ?_) (a' := ?_) #[true, true, false, false, false, false, false, false, false, false, false, false, false, false] rfl rfl (any_of HT_.out (by kernel_rfl)) (fun _ _ _ h => h) (Or.inl ⟨by rfl, ?_⟩) ?_ ?_
 rotate_left
 · intro w'
   go_simp
   with_reducible rfl
 rotate_left
 · simp only [Act.put, List.setIfInBounds_toArray, List.set_cons_zero, List.set_cons_succ, i64_w, i32_w]
   rfl
 refine pure_ (i := 2) (N := some 16) (v := ?_) (a' := ?_) #[true, true, true, false, false, false, false, false, false, false, false, false, false, false] rfl rfl (any_of HT_.out (by kernel_rfl)) (fun _ _ _ h => h) (Or.inl ⟨by rfl, ?_⟩) ?_ ?_
 rotate_left
 · intro w'
   go_simp
   with_reducible rfl
 rotate_left
 · simp only [Act.put, List.setIfInBounds_toArray, List.set_cons_zero, List.set_cons_succ, i64_w, i32_w]
   rfl
 refine pure_ (i := 6) (N := some 20) (v := ?_) (a' := ?_) #[true, true, true, false, false, false, true, false, false, false, false, false, false, false] rfl rfl (any_of HT_.out (by kernel_rfl)) (fun _ _ _ h => h) (Or.inl ⟨by rfl, ?_⟩) ?_ ?_
 rotate_left
 · intro w'
   go_simp
   with_reducible rfl
 rotate_left
 · simp only [Act.put, List.setIfInBounds_toArray, List.set_cons_zero, List.set_cons_succ, i64_w, i32_w]
   rfl
 refine pure_ (i := 7) (N := some 21) (v := ?_) (a' := ?_) #[true, true, true, false, false, false, true, true, false, false, false, false, false, false] rfl rfl (any_of HT_.out (by kernel_rfl)) (fun _ _ _ h => h) (Or.inl ⟨by rfl, ?_⟩) ?_ ?_
 rotate_left
 · intro w'
   go_simp
   with_reducible rfl
 rotate_left
 · simp only [Act.put, List.setIfInBounds_toArray, List.set_cons_zero, List.set_cons_succ, i64_w, i32_w]
   rfl
 refine take_ (i := 3) (N := some 17) (v := ?_) (a' := ?_) #[true, true, true, true, false, false, true, true, false, false, false, false, false, false] rfl rfl (take_ofW HT_.out HW_.out (by kernel_rfl)) (fun _ _ _ h => h) (Or.inl ⟨by rfl, ?_⟩) hHeld ?_ ?_
 rotate_left
 · intro w' _
   go_simp
   with_reducible rfl
 rotate_left
 · simp only [Act.put, List.setIfInBounds_toArray, List.set_cons_zero, List.set_cons_succ, i64_w, i32_w]
   rfl
 refine pure_ (i := 4) (N := some 18) (v := ?_) (a' := ?_) #[true, true, true, true, true, false, true, true, false, false, false, false, false, false] rfl rfl (any_of HT_.out (by kernel_rfl)) (fun _ _ _ h => h) (Or.inl ⟨by rfl, ?_⟩) ?_ ?_
 rotate_left
 · intro w'
   go_simp
   with_reducible rfl
 rotate_left
 · simp only [Act.put, List.setIfInBounds_toArray, List.set_cons_zero, List.set_cons_succ, i64_w, i32_w]
   rfl
 refine take_ (i := 8) (N := some 22) (v := ?_) (a' := ?_) #[true, true, true, true, true, false, true, true, true, false, false, false, false, false] rfl rfl (take_ofW HT_.out HW_.out (by kernel_rfl)) (fun _ _ _ h => h) (Or.inl ⟨by rfl, ?_⟩) hHeld ?_ ?_
 rotate_left
 · intro w' _
   go_simp
   with_reducible rfl
 rotate_left
 · simp only [Act.put, List.setIfInBounds_toArray, List.set_cons_zero, List.set_cons_succ, i64_w, i32_w]
   rfl
 refine pure_ (i := 9) (N := some 23) (v := ?_) (a' := ?_) #[true, true, true, true, true, false, true, true, true, true, false, false, false, false] rfl rfl (any_of HT_.out (by kernel_rfl)) (fun _ _ _ h => h) (Or.inl ⟨by rfl, ?_⟩) ?_ ?_
 rotate_left
 · intro w'
   go_simp
   with_reducible rfl
 rotate_left
 · simp only [Act.put, List.setIfInBounds_toArray, List.set_cons_zero, List.set_cons_succ, i64_w, i32_w]
   rfl
 refine one_ (i := 5) (N := some 19) #[true, true, true, true, true, true, true, true, true, true, false, false, false, false] rfl rfl (one_of HT_.out (by kernel_rfl)) (by decide) (fun K hK => ?_)
 refine goes_ Tryd.func71 (by kernel_rfl) rfl #[.int .u8 ((Int.tdiv (bt a0 x4_1) 16) % 256)] (by rfl) rfl rfl sqA ?_
 with_reducible refine (boarderref07_hex.calls _ _ _ A9.out).mono ?_
 rintro e w' ⟨rfl, ⟨nd, rfl⟩⟩
 refine ⟨_, rfl, ?_⟩
 refine hK.out _ _ trivial (fun hHeld => ?_)
 clear hK K
 refine norm_ (a' := ?_) ?_ ?_
 rotate_left
 · show Act.put _ (some 19) _ = _
   simp only [Act.put, List.setIfInBounds_toArray, List.set_cons_zero, List.set_cons_succ, i64_w, i32_w]
   rfl
 refine one_ (i := 10) (N := some 24) #[true, true, true, true, true, true, true, true, true, true, true, false, false, false] rfl rfl (one_of HT_.out (by kernel_rfl)) (by decide) (fun K hK => ?_)
 refine goes_ Tryd.func71 (by kernel_rfl) rfl #[.int .u8 (Int.tmod (bt a0 x4_1) 16)] (by rfl) rfl rfl sqA ?_
 with_reducible refine (boarderref07_hex.calls _ _ _ A11.out).mono ?_
 rintro e w' ⟨rfl, ⟨nd, rfl⟩⟩
 refine ⟨_, rfl, ?_⟩
 refine hK.out _ _ trivial (fun hHeld => ?_)
 clear hK K
 refine norm_ (a' := ?_) ?_ ?_
 rotate_left
 · show Act.put _ (some 24) _ = _
   simp only [Act.put, List.setIfInBounds_toArray, List.set_cons_zero, List.set_cons_succ, i64_w, i32_w]
   rfl
 refine one_ (i := 11) (N := some 25) #[true, true, true, true, true, true, true, true, true, true, true, true, false, false] rfl rfl (one_of HT_.out (by kernel_rfl)) (by decide) (fun K hK => ?_)
 refine Kd.R_lit_step (Kd.int .u8) _ 5 ?hg (N := 25) ?hd (xs := ([t283, t284] : List Int)) (inner := [.int .u8 t283, .int .u8 t284]) (ok := fun _ => True) (okp := fun _ => True) ?hr ?hp (fun _ hk => hk) trivial (Below.refl _ _) (Nat.le_refl _) (by simp) ?_; (case hd => rfl); (case hg => rfl); (case hr => first | (go_simp; done) | (go_simp; rfl)); (case hp => exact (Reps.one (show Kd.M (Kd.int .u8) _ _ _ t283 [.int .u8 t283] from rfl) (Reps.one (show Kd.M (Kd.int .u8) _ _ _ t284 [.int .u8 t284] from rfl) (Reps.none _ _))))
 intro v286 w14 ho15 hb hg_ hnew_
 clear hg_ hnew_
 (first | rw [← Ny285.out] at ho15 | (simp only [Int.reduceToNat] at ho15; rw [← Ny285.out] at ho15))
 have HO287 := sqM (Kd.R_lower (Kd.R_new' ho15 (Kd.R_lt (sqR HO_3.out))) (below_size (sqB HB.out)))
 replace HO_3 := sqM (Kd.R_elder' (sqR HO_3.out) (Kd.R_base ho15) hb)
 replace HB := sqM (below_step (sqB HB.out) hb)
 clear hb ho15
 obtain ⟨Ao17, co17, eo17⟩ := Kd.R_slice HO287.out
 (first | subst eo17 | (injection eo17 with f1_ f2_ f3_; have f4_ := f1_.symm; have f5_ := f3_.symm; clear f1_ f2_ f3_; subst f4_; subst f5_))
 refine hK.out _ _ trivial (fun hHeld => ?_)
 clear hK K
 refine norm_ (a' := ?_) ?_ ?_
 rotate_left
 · show Act.put _ (some 25) _ = _
   simp only [Act.put, List.setIfInBounds_toArray, List.set_cons_zero, List.set_cons_succ, i64_w, i32_w]
   rfl
 refine one_ (i := 12) (N := some 26) #[true, true, true, true, true, true, true, true, true, true, true, true, true, false] rfl rfl (one_of HT_.out (by kernel_rfl)) (by decide) (fun K hK => ?_)
 refine Kd.R_append_rows_step (Kd.int .u8) (w0 := w) w.heap.size (by rfl) (.tmp 14) (.tmp 25) 59 5 (.int .u8 0) 1 rfl Tryd.underlying59 info5 rfl (by decide) (by omega) u3 x3_1 y285 _ _ _ (fun k_ => some k_ ≠ (.slice Ao17 y285.length co17 : Value).ownBlock) (fun _ => False) rfl rfl ?aO ?aR (fun _ _ h => h) (fun _ h => h.elim) ?aF ?aB ?aS ?aL ?_
 (case aR => repeat (first | exact (Kd.R_reads' HO287.out).2.2 | (with_reducible refine Kd.C_alloc ?_ _) | (with_reducible refine Kd.C_drewN ?_ _) | (with_reducible refine Kd.C_drew ?_)))
 (case aB => exact (sqB HB.out))
 (case aF => exact (fun k_ hk => Kd.fresh' (Kd.R_lt (sqR HO287.out)) k_ hk))
 (case aO => exact (by refine sqR ?_; exact Kd.R_mono HO_3.out (fun _ hk => hk.2)))
 (case aS => exact (below_size (sqB HB.out)))
 (case aL => have := LMc12.out; omega)
 intro v289 w16 ho hb hg hat
 rw [← Ny288.out] at ho
 have HO290 := Aside0.mk (ho)
 replace HO287 := sqM (Kd.R_after (ok := (fun _ => True)) (sqR HO287.out) hg hat)
 replace HB := Aside0.mk (hb)
 clear HO_3
 clear ho hb hg hat
 refine hK.out _ _ trivial (fun hHeld => ?_)
 clear hK K
 refine norm_ (a' := ?_) ?_ ?_
 rotate_left
 · show Act.put _ (some 26) _ = _
   simp only [Act.put, List.setIfInBounds_toArray, List.set_cons_zero, List.set_cons_succ, i64_w, i32_w]
   rfl
 refine pure_ (i := 13) (N := some 3) (v := ?_) (a' := ?_) #[true, true, true, true, true, true, true, true, true, true, true, true, true, true] rfl rfl (any_of HT_.out (by kernel_rfl)) (fun _ _ _ h => h) (Or.inl ⟨by rfl, ?_⟩) ?_ ?_
 rotate_left
 · intro w'
   go_simp
   with_reducible rfl
 rotate_left
 · simp only [Act.put, List.setIfInBounds_toArray, List.set_cons_zero, List.set_cons_succ, i64_w, i32_w]
   rfl
 refine done_ (done_of HT_.out (by kernel_rfl)) ?_
 try go_wp2
 go_roundg k1
 case measure => have := HK1.out; omega
 case rel => exact ⟨(y288), (wrap64 (x4_1 + 1)), sqI, H', ⟨by have := HK1.out; omega⟩, ⟨by refine sqR ?_; exact Kd.R_mono HO290.out (fun _ hk => trivial)⟩, ⟨sqB HB.out⟩⟩

/-! ### boarderref24_Line: function 15 -/
def boarderref24_Line.f (k : Nat) (a0_0 : Int) (a0_1 : Int) (a0_2 : Int) (a0_3 : ByteArray) : Option (ByteArray) := (boarderref01_Text.f k a0_0).bind fun t292 => (if t292.size + 1 ≤ 9223372036854775807 then ((boarderref24_word.f a0_1).bind fun t293 => (if (t292 ++ (⟨#[32]⟩ : ByteArray)).size + t293.size ≤ 9223372036854775807 then (if ((t292 ++ (⟨#[32]⟩ : ByteArray)) ++ t293).size + 1 ≤ 9223372036854775807 then ((boarderref23_Num.f k a0_2).bind fun t294 => (if (((t292 ++ (⟨#[32]⟩ : ByteArray)) ++ t293) ++ (⟨#[32]⟩ : ByteArray)).size + t294.size ≤ 9223372036854775807 then (if ((((t292 ++ (⟨#[32]⟩ : ByteArray)) ++ t293) ++ (⟨#[32]⟩ : ByteArray)) ++ t294).size + 1 ≤ 9223372036854775807 then ((boarderref07_Text.f k a0_3).bind fun t295 => (if (((((t292 ++ (⟨#[32]⟩ : ByteArray)) ++ t293) ++ (⟨#[32]⟩ : ByteArray)) ++ t294) ++ (⟨#[32]⟩ : ByteArray)).size + t295.size ≤ 9223372036854775807 then (some ((((((t292 ++ (⟨#[32]⟩ : ByteArray)) ++ t293) ++ (⟨#[32]⟩ : ByteArray)) ++ t294) ++ (⟨#[32]⟩ : ByteArray)) ++ t295)) else (none))) else (none)) else (none))) else (none)) else (none))) else (none))
def boarderref24_Line.T1 : Bool × List (List Nat × List Nat) := (true, [([], []), ([0], [0]), ([1], [1]), ([2], [2]), ([], []), ([4], [4]), ([5, 2], [5]), ([3, 6], [3, 6]), ([7], [7]), ([], []), ([9], [9]), ([10, 6], [10]), ([8, 11], [8, 11]), ([12], [12]), ([], []), ([14], [14]), ([15, 11], [15]), ([13, 16], [13, 16]), ([17, 16, 0, 1, 2, 3, 4, 5, 6, 7, 8, 9, 10, 11, 12, 13, 14, 15, 16, 17], [17])])
def boarderref24_Line.B1 : List Nat := [0, 1, 3, 7, 0, 16, 55, 127, 255, 0, 512, 1655, 4095, 8191, 0, 16384, 52855, 131071, 262143]
theorem boarderref24_Line.tab1 : rtab .any (opsOf Tryd.f15 1) = boarderref24_Line.T1 := by kernel_rfl
theorem boarderref24_Line.bits1 : waitsOk boarderref24_Line.T1.2 boarderref24_Line.B1 = true := by kernel_rfl
set_option maxHeartbeats 8000000 in
set_option maxRecDepth 100000 in
theorem boarderref24_Line.calls (k : Nat) (a0_0 : Int) (a0_1 : Int) (a0_2 : Int) (a0_3 : ByteArray) (r : ByteArray) (w : World) (h : boarderref24_Line.f k a0_0 a0_1 a0_2 a0_3 = some r) :
    Calls Tryd.prog 15 #[.agg #[.int .i64 a0_0, .int .i64 a0_1, .int .i64 a0_2, .string a0_3]] w fun e w' => e = .returned (.string r) ∧ Below w.heap.size w w' := by
 have hu23 := Tryd.underlying23
 have HB := Aside0.mk (Below.refl w.heap.size w)
 have H : ((boarderref01_Text.f k a0_0).bind fun t292 => (if t292.size + 1 ≤ 9223372036854775807 then ((boarderref24_word.f a0_1).bind fun t293 => (if (t292 ++ (⟨#[32]⟩ : ByteArray)).size + t293.size ≤ 9223372036854775807 then (if ((t292 ++ (⟨#[32]⟩ : ByteArray)) ++ t293).size + 1 ≤ 9223372036854775807 then ((boarderref23_Num.f k a0_2).bind fun t294 => (if (((t292 ++ (⟨#[32]⟩ : ByteArray)) ++ t293) ++ (⟨#[32]⟩ : ByteArray)).size + t294.size ≤ 9223372036854775807 then (if ((((t292 ++ (⟨#[32]⟩ : ByteArray)) ++ t293) ++ (⟨#[32]⟩ : ByteArray)) ++ t294).size + 1 ≤ 9223372036854775807 then ((boarderref07_Text.f k a0_3).bind fun t295 => (if (((((t292 ++ (⟨#[32]⟩ : ByteArray)) ++ t293) ++ (⟨#[32]⟩ : ByteArray)) ++ t294) ++ (⟨#[32]⟩ : ByteArray)).size + t295.size ≤ 9223372036854775807 then (some ((((((t292 ++ (⟨#[32]⟩ : ByteArray)) ++ t293) ++ (⟨#[32]⟩ : ByteArray)) ++ t294) ++ (⟨#[32]⟩ : ByteArray)) ++ t295)) else (none))) else (none)) else (none))) else (none)) else (none))) else (none))) = some r := h
 clear h
 replace H := Option.bind_eq_some_iff.mp H
 obtain ⟨t292, A20, H⟩ := H
 replace H : (if t292.size + 1 ≤ 9223372036854775807 then ((boarderref24_word.f a0_1).bind fun t293 => (if (t292 ++ (⟨#[32]⟩ : ByteArray)).size + t293.size ≤ 9223372036854775807 then (if ((t292 ++ (⟨#[32]⟩ : ByteArray)) ++ t293).size + 1 ≤ 9223372036854775807 then ((boarderref23_Num.f k a0_2).bind fun t294 => (if (((t292 ++ (⟨#[32]⟩ : ByteArray)) ++ t293) ++ (⟨#[32]⟩ : ByteArray)).size + t294.size ≤ 9223372036854775807 then (if ((((t292 ++ (⟨#[32]⟩ : ByteArray)) ++ t293) ++ (⟨#[32]⟩ : ByteArray)) ++ t294).size + 1 ≤ 9223372036854775807 then ((boarderref07_Text.f k a0_3).bind fun t295 => (if (((((t292 ++ (⟨#[32]⟩ : ByteArray)) ++ t293) ++ (⟨#[32]⟩ : ByteArray)) ++ t294) ++ (⟨#[32]⟩ : ByteArray)).size + t295.size ≤ 9223372036854775807 then (some ((((((t292 ++ (⟨#[32]⟩ : ByteArray)) ++ t293) ++ (⟨#[32]⟩ : ByteArray)) ++ t294) ++ (⟨#[32]⟩ : ByteArray)) ++ t295)) else (none))) else (none)) else (none))) else (none)) else (none))) else (none)) = some r := H
 have A2 := Aside0.mk A20
 clear A20
 by_cases c3 : t292.size + 1 ≤ 9223372036854775807
 rotate_left
 · rw [if_neg c3] at H
   exact absurd H (by simp)
 rw [if_pos c3] at H
 have c3b0 := eq_true c3
 have c3b1 : decide (t292.size + 1 ≤ 9223372036854775807) = true := decide_eq_true c3
 try have c3b2 : (9223372036854775807 < t292.size + 1) = False := eq_false (Nat.not_lt.2 c3)
 (try (have c3q := c3; simp only [ByteArray.size_append, Com.mk_size, List.size_toArray, List.length_cons, List.length_nil, Nat.zero_add] at c3q; have c3b3 := eq_false (Nat.not_lt.2 c3q); have c3b4 := eq_true c3q; clear c3q))
 replace H := Option.bind_eq_some_iff.mp H
 obtain ⟨t293, A40, H⟩ := H
 replace H : (if (t292 ++ (⟨#[32]⟩ : ByteArray)).size + t293.size ≤ 9223372036854775807 then (if ((t292 ++ (⟨#[32]⟩ : ByteArray)) ++ t293).size + 1 ≤ 9223372036854775807 then ((boarderref23_Num.f k a0_2).bind fun t294 => (if (((t292 ++ (⟨#[32]⟩ : ByteArray)) ++ t293) ++ (⟨#[32]⟩ : ByteArray)).size + t294.size ≤ 9223372036854775807 then (if ((((t292 ++ (⟨#[32]⟩ : ByteArray)) ++ t293) ++ (⟨#[32]⟩ : ByteArray)) ++ t294).size + 1 ≤ 9223372036854775807 then ((boarderref07_Text.f k a0_3).bind fun t295 => (if (((((t292 ++ (⟨#[32]⟩ : ByteArray)) ++ t293) ++ (⟨#[32]⟩ : ByteArray)) ++ t294) ++ (⟨#[32]⟩ : ByteArray)).size + t295.size ≤ 9223372036854775807 then (some ((((((t292 ++ (⟨#[32]⟩ : ByteArray)) ++ t293) ++ (⟨#[32]⟩ : ByteArray)) ++ t294) ++ (⟨#[32]⟩ : ByteArray)) ++ t295)) else (none))) else (none)) else (none))) else (none)) else (none)) = some r := H
 have A4 := Aside0.mk A40
 clear A40
 by_cases c5 : (t292 ++ (⟨#[32]⟩ : ByteArray)).size + t293.size ≤ 9223372036854775807
 rotate_left
 · rw [if_neg c5] at H
   exact absurd H (by simp)
 rw [if_pos c5] at H
 have c5b0 := eq_true c5
 have c5b1 : decide ((t292 ++ (⟨#[32]⟩ : ByteArray)).size + t293.size ≤ 9223372036854775807) = true := decide_eq_true c5
 try have c5b2 : (9223372036854775807 < (t292 ++ (⟨#[32]⟩ : ByteArray)).size + t293.size) = False := eq_false (Nat.not_lt.2 c5)
 (try (have c5q := c5; simp only [ByteArray.size_append, Com.mk_size, List.size_toArray, List.length_cons, List.length_nil, Nat.zero_add] at c5q; have c5b3 := eq_false (Nat.not_lt.2 c5q); have c5b4 := eq_true c5q; clear c5q))
 by_cases c6 : ((t292 ++ (⟨#[32]⟩ : ByteArray)) ++ t293).size + 1 ≤ 9223372036854775807
 rotate_left
 · rw [if_neg c6] at H
   exact absurd H (by simp)
 rw [if_pos c6] at H
 have c6b0 := eq_true c6
 have c6b1 : decide (((t292 ++ (⟨#[32]⟩ : ByteArray)) ++ t293).size + 1 ≤ 9223372036854775807) = true := decide_eq_true c6
 try have c6b2 : (9223372036854775807 < ((t292 ++ (⟨#[32]⟩ : ByteArray)) ++ t293).size + 1) = False := eq_false (Nat.not_lt.2 c6)
 (try (have c6q := c6; simp only [ByteArray.size_append, Com.mk_size, List.size_toArray, List.length_cons, List.length_nil, Nat.zero_add] at c6q; have c6b3 := eq_false (Nat.not_lt.2 c6q); have c6b4 := eq_true c6q; clear c6q))
 replace H := Option.bind_eq_some_iff.mp H
 obtain ⟨t294, A70, H⟩ := H
 replace H : (if (((t292 ++ (⟨#[32]⟩ : ByteArray)) ++ t293) ++ (⟨#[32]⟩ : ByteArray)).size + t294.size ≤ 9223372036854775807 then (if ((((t292 ++ (⟨#[32]⟩ : ByteArray)) ++ t293) ++ (⟨#[32]⟩ : ByteArray)) ++ t294).size + 1 ≤ 9223372036854775807 then ((boarderref07_Text.f k a0_3).bind fun t295 => (if (((((t292 ++ (⟨#[32]⟩ : ByteArray)) ++ t293) ++ (⟨#[32]⟩ : ByteArray)) ++ t294) ++ (⟨#[32]⟩ : ByteArray)).size + t295.size ≤ 9223372036854775807 then (some ((((((t292 ++ (⟨#[32]⟩ : ByteArray)) ++ t293) ++ (⟨#[32]⟩ : ByteArray)) ++ t294) ++ (⟨#[32]⟩ : ByteArray)) ++ t295)) else (none))) else (none)) else (none)) = some r := H
 have A7 := Aside0.mk A70
 clear A70
 by_cases c8 : (((t292 ++ (⟨#[32]⟩ : ByteArray)) ++ t293) ++ (⟨#[32]⟩ : ByteArray)).size + t294.size ≤ 9223372036854775807
 rotate_left
 · rw [if_neg c8] at H
   exact absurd H (by simp)
 rw [if_pos c8] at H
 have c8b0 := eq_true c8
 have c8b1 : decide ((((t292 ++ (⟨#[32]⟩ : ByteArray)) ++ t293) ++ (⟨#[32]⟩ : ByteArray)).size + t294.size ≤ 9223372036854775807) = true := decide_eq_true c8
 try have c8b2 : (9223372036854775807 < (((t292 ++ (⟨#[32]⟩ : ByteArray)) ++ t293) ++ (⟨#[32]⟩ : ByteArray)).size + t294.size) = False := eq_false (Nat.not_lt.2 c8)
 (try (have c8q := c8; simp only [ByteArray.size_append, Com.mk_size, List.size_toArray, List.length_cons, List.length_nil, Nat.zero_add] at c8q; have c8b3 := eq_false (Nat.not_lt.2 c8q); have c8b4 := eq_true c8q; clear c8q))
 by_cases c9 : ((((t292 ++ (⟨#[32]⟩ : ByteArray)) ++ t293) ++ (⟨#[32]⟩ : ByteArray)) ++ t294).size + 1 ≤ 9223372036854775807
 rotate_left
 · rw [if_neg c9] at H
   exact absurd H (by simp)
 rw [if_pos c9] at H
 have c9b0 := eq_true c9
 have c9b1 : decide (((((t292 ++ (⟨#[32]⟩ : ByteArray)) ++ t293) ++ (⟨#[32]⟩ : ByteArray)) ++ t294).size + 1 ≤ 9223372036854775807) = true := decide_eq_true c9
 try have c9b2 : (9223372036854775807 < ((((t292 ++ (⟨#[32]⟩ : ByteArray)) ++ t293) ++ (⟨#[32]⟩ : ByteArray)) ++ t294).size + 1) = False := eq_false (Nat.not_lt.2 c9)
 (try (have c9q := c9; simp only [ByteArray.size_append, Com.mk_size, List.size_toArray, List.length_cons, List.length_nil, Nat.zero_add] at c9q; have c9b3 := eq_false (Nat.not_lt.2 c9q); have c9b4 := eq_true c9q; clear c9q))
 replace H := Option.bind_eq_some_iff.mp H
 obtain ⟨t295, A100, H⟩ := H
 replace H : (if (((((t292 ++ (⟨#[32]⟩ : ByteArray)) ++ t293) ++ (⟨#[32]⟩ : ByteArray)) ++ t294) ++ (⟨#[32]⟩ : ByteArray)).size + t295.size ≤ 9223372036854775807 then (some ((((((t292 ++ (⟨#[32]⟩ : ByteArray)) ++ t293) ++ (⟨#[32]⟩ : ByteArray)) ++ t294) ++ (⟨#[32]⟩ : ByteArray)) ++ t295)) else (none)) = some r := H
 have A10 := Aside0.mk A100
 clear A100
 by_cases c11 : (((((t292 ++ (⟨#[32]⟩ : ByteArray)) ++ t293) ++ (⟨#[32]⟩ : ByteArray)) ++ t294) ++ (⟨#[32]⟩ : ByteArray)).size + t295.size ≤ 9223372036854775807
 rotate_left
 · rw [if_neg c11] at H
   exact absurd H (by simp)
 rw [if_pos c11] at H
 have c11b0 := eq_true c11
 have c11b1 : decide ((((((t292 ++ (⟨#[32]⟩ : ByteArray)) ++ t293) ++ (⟨#[32]⟩ : ByteArray)) ++ t294) ++ (⟨#[32]⟩ : ByteArray)).size + t295.size ≤ 9223372036854775807) = true := decide_eq_true c11
 try have c11b2 : (9223372036854775807 < (((((t292 ++ (⟨#[32]⟩ : ByteArray)) ++ t293) ++ (⟨#[32]⟩ : ByteArray)) ++ t294) ++ (⟨#[32]⟩ : ByteArray)).size + t295.size) = False := eq_false (Nat.not_lt.2 c11)
 (try (have c11q := c11; simp only [ByteArray.size_append, Com.mk_size, List.size_toArray, List.length_cons, List.length_nil, Nat.zero_add] at c11q; have c11b3 := eq_false (Nat.not_lt.2 c11q); have c11b4 := eq_true c11q; clear c11q))
 obtain rfl := Option.some.inj H
 go_enter Tryd.func15, Tryd.ntmps15
 try go_wp2_with (first | ((with_reducible refine gate_dst (N := 1) rfl ?_); refine box_event rfl (N := 1) rfl (cs := #[.int .i64 a0_0, .int .i64 a0_1, .int .i64 a0_2, .string a0_3]) (t := 23) sqs ?_; intro gb291 hg w12 hbox hb; have BK291 := sqM (hbox); have GW291 := sqM (sqZ hg (sqB HB.out)); have GE291 := sqM (sqZ hg (sqB HB.out)); replace HB := sqM (below_step (sqB HB.out) hb); clear hb hbox hg))
 replace BK291 := Aside0.mk (blk_drew BK291.out)
 replace HB := Aside0.mk (below_drew1 HB.out)
 refine start_ (n := 19) (S := fun w' => w'.cell? ⟨gb291, 0, none⟩ = some (.int .i64 a0_0) ∧ w'.cell? ⟨gb291, 1, none⟩ = some (.int .i64 a0_1) ∧ w'.cell? ⟨gb291, 2, none⟩ = some (.int .i64 a0_2) ∧ w'.cell? ⟨gb291, 3, none⟩ = some (.string a0_3)) (ds := []) #[false, false, false, false, false, false, false, false, false, false, false, false, false, false, false, false, false, false, false] (by kernel_rfl) rfl rfl ⟨(blk_cell BK291.out 0).trans rfl, (blk_cell BK291.out 1).trans rfl, (blk_cell BK291.out 2).trans rfl, (blk_cell BK291.out 3).trans rfl⟩ (fun hHeld => ?_); refine with_tabW boarderref24_Line.tab1 boarderref24_Line.bits1 (fun HT_ HW_ => ?_)
 generalize w12.drew = w13 at BK291 HB hHeld ⊢
 refine pure_ (i := 0) (N := some 3) (v := ?_) (a' := ?_) #[true, false, false, false, false, false, false, false, false, false, false, false, false, false, false, false, false, false, false] rfl rfl (any_of HT_.out (by kernel_rfl)) (fun _ _ _ h => h) (Or.inl ⟨by rfl, ?_⟩) ?_ ?_
 rotate_left
 · intro w'
   go_simp
   with_reducible rfl
 rotate_left
 · simp only [Act.put, List.setIfInBounds_toArray, List.set_cons_zero, List.set_cons_succ, i64_w, i32_w]
   rfl
 refine pure_ (i := 4) (N := some 7) (v := ?_) (a' := ?_) #[true, false, false, false, true, false, false, false, false, false, false, false, false, false, false, false, false, false, false] rfl rfl (any_of HT_.out (by kernel_rfl)) (fun _ _ _ h => h) (Or.inl ⟨by rfl, ?_⟩) ?_ ?_
 rotate_left
 · intro w'
   go_simp
   with_reducible rfl
 rotate_left
 · simp only [Act.put, List.setIfInBounds_toArray, List.set_cons_zero, List.set_cons_succ, i64_w, i32_w]
   rfl
 refine pure_ (i := 9) (N := some 12) (v := ?_) (a' := ?_) #[true, false, false, false, true, false, false, false, false, true, false, false, false, false, false, false, false, false, false] rfl rfl (any_of HT_.out (by kernel_rfl)) (fun _ _ _ h => h) (Or.inl ⟨by rfl, ?_⟩) ?_ ?_
 rotate_left
 · intro w'
   go_simp
   with_reducible rfl
 rotate_left
 · simp only [Act.put, List.setIfInBounds_toArray, List.set_cons_zero, List.set_cons_succ, i64_w, i32_w]
   rfl
 refine pure_ (i := 14) (N := some 17) (v := ?_) (a' := ?_) #[true, false, false, false, true, false, false, false, false, true, false, false, false, false, true, false, false, false, false] rfl rfl (any_of HT_.out (by kernel_rfl)) (fun _ _ _ h => h) (Or.inl ⟨by rfl, ?_⟩) ?_ ?_
 rotate_left
 · intro w'
   go_simp
   with_reducible rfl
 rotate_left
 · simp only [Act.put, List.setIfInBounds_toArray, List.set_cons_zero, List.set_cons_succ, i64_w, i32_w]
   rfl
 refine take_ (i := 1) (N := some 4) (v := ?_) (a' := ?_) #[true, true, false, false, true, false, false, false, false, true, false, false, false, false, true, false, false, false, false] rfl rfl (take_ofW HT_.out HW_.out (by kernel_rfl)) (fun _ _ _ h => h) (Or.inl ⟨by rfl, ?_⟩) hHeld ?_ ?_
 rotate_left
 · rintro w' ⟨s0, s1, s2, s3⟩
   go_simp
   with_reducible rfl
 rotate_left
 · simp only [Act.put, List.setIfInBounds_toArray, List.set_cons_zero, List.set_cons_succ, i64_w, i32_w]
   rfl
 refine take_ (i := 5) (N := some 8) (v := ?_) (a' := ?_) #[true, true, false, false, true, true, false, false, false, true, false, false, false, false, true, false, false, false, false] rfl rfl (take_ofW HT_.out HW_.out (by kernel_rfl)) (fun _ _ _ h => h) (Or.inl ⟨by rfl, ?_⟩) hHeld ?_ ?_
 rotate_left
 · rintro w' ⟨s0, s1, s2, s3⟩
   go_simp
   with_reducible rfl
 rotate_left
 · simp only [Act.put, List.setIfInBounds_toArray, List.set_cons_zero, List.set_cons_succ, i64_w, i32_w]
   rfl
 refine take_ (i := 10) (N := some 13) (v := ?_) (a' := ?_) #[true, true, false, false, true, true, false, false, false, true, true, false, false, false, true, false, false, false, false] rfl rfl (take_ofW HT_.out HW_.out (by kernel_rfl)) (fun _ _ _ h => h) (Or.inl ⟨by rfl, ?_⟩) hHeld ?_ ?_
 rotate_left
 · rintro w' ⟨s0, s1, s2, s3⟩
   go_simp
   with_reducible rfl
 rotate_left
 · simp only [Act.put, List.setIfInBounds_toArray, List.set_cons_zero, List.set_cons_succ, i64_w, i32_w]
   rfl
 refine take_ (i := 15) (N := some 18) (v := ?_) (a' := ?_) #[true, true, false, false, true, true, false, false, false, true, true, false, false, false, true, true, false, false, false] rfl rfl (take_ofW HT_.out HW_.out (by kernel_rfl)) (fun _ _ _ h => h) (Or.inl ⟨by rfl, ?_⟩) hHeld ?_ ?_
 rotate_left
 · rintro w' ⟨s0, s1, s2, s3⟩
   go_simp
   with_reducible rfl
 rotate_left
 · simp only [Act.put, List.setIfInBounds_toArray, List.set_cons_zero, List.set_cons_succ, i64_w, i32_w]
   rfl
 refine one_ (i := 2) (N := some 5) #[true, true, true, false, true, true, false, false, false, true, true, false, false, false, true, true, false, false, false] rfl rfl (one_of HT_.out (by kernel_rfl)) (by decide) (fun K hK => ?_)
 refine goes_ Tryd.func39 (by kernel_rfl) rfl #[.int .i64 a0_0] (by rfl) rfl rfl sqA ?_
 with_reducible refine (boarderref01_Text.calls _ _ _ _ A2.out).mono ?_
 rintro e w14 ⟨rfl, hb⟩
 refine ⟨_, rfl, ?_⟩
 replace BK291 := sqM (blk_below (sqK BK291.out) hb)
 replace HB := sqM (below_step (sqB1 HB.out GE291.out) hb)
 (try clear hb)
 (try clear hb2)
 (try clear hk)
 (try clear hi)
 refine hK.out _ _ ⟨(blk_cell BK291.out 0).trans rfl, (blk_cell BK291.out 1).trans rfl, (blk_cell BK291.out 2).trans rfl, (blk_cell BK291.out 3).trans rfl⟩ (fun hHeld => ?_)
 clear hK K
 refine norm_ (a' := ?_) ?_ ?_
 rotate_left
 · show Act.put _ (some 5) _ = _
   simp only [Act.put, List.setIfInBounds_toArray, List.set_cons_zero, List.set_cons_succ, i64_w, i32_w]
   rfl
 refine pure_ (i := 3) (N := some 6) (v := ?_) (a' := ?_) #[true, true, true, true, true, true, false, false, false, true, true, false, false, false, true, true, false, false, false] rfl rfl (any_of HT_.out (by kernel_rfl)) (fun _ _ _ h => h) (Or.inl ⟨by rfl, ?_⟩) ?_ ?_
 rotate_left
 · intro w'
   go_simp
   with_reducible rfl
 rotate_left
 · simp only [Act.put, List.setIfInBounds_toArray, List.set_cons_zero, List.set_cons_succ, i64_w, i32_w]
   rfl
 refine one_ (i := 6) (N := some 9) #[true, true, true, true, true, true, true, false, false, true, true, false, false, false, true, true, false, false, false] rfl rfl (one_of HT_.out (by kernel_rfl)) (by decide) (fun K hK => ?_)
 refine goes_ Tryd.func40 (by kernel_rfl) rfl #[.int .i64 a0_1] (by rfl) rfl rfl sqA ?_
 with_reducible refine (boarderref24_word.calls _ _ _ A4.out).mono ?_
 rintro e w' ⟨rfl, ⟨nd, rfl⟩⟩
 refine ⟨_, rfl, ?_⟩
 refine hK.out _ _ ⟨(blk_cell BK291.out 0).trans rfl, (blk_cell BK291.out 1).trans rfl, (blk_cell BK291.out 2).trans rfl, (blk_cell BK291.out 3).trans rfl⟩ (fun hHeld => ?_)
 clear hK K
 refine norm_ (a' := ?_) ?_ ?_
 rotate_left
 · show Act.put _ (some 9) _ = _
   simp only [Act.put, List.setIfInBounds_toArray, List.set_cons_zero, List.set_cons_succ, i64_w, i32_w]
   rfl
 refine pure_ (i := 7) (N := some 10) (v := ?_) (a' := ?_) #[true, true, true, true, true, true, true, true, false, true, true, false, false, false, true, true, false, false, false] rfl rfl (any_of HT_.out (by kernel_rfl)) (fun _ _ _ h => h) (Or.inl ⟨by rfl, ?_⟩) ?_ ?_
 rotate_left
 · intro w'
   go_simp
   with_reducible rfl
 rotate_left
 · simp only [Act.put, List.setIfInBounds_toArray, List.set_cons_zero, List.set_cons_succ, i64_w, i32_w]
   rfl
 refine pure_ (i := 8) (N := some 11) (v := ?_) (a' := ?_) #[true, true, true, true, true, true, true, true, true, true, true, false, false, false, true, true, false, false, false] rfl rfl (any_of HT_.out (by kernel_rfl)) (fun _ _ _ h => h) (Or.inl ⟨by rfl, ?_⟩) ?_ ?_
 rotate_left
 · intro w'
   go_simp
   with_reducible rfl
 rotate_left
 · simp only [Act.put, List.setIfInBounds_toArray, List.set_cons_zero, List.set_cons_succ, i64_w, i32_w]
   rfl
 refine one_ (i := 11) (N := some 14) #[true, true, true, true, true, true, true, true, true, true, true, true, false, false, true, true, false, false, false] rfl rfl (one_of HT_.out (by kernel_rfl)) (by decide) (fun K hK => ?_)
 refine goes_ Tryd.func41 (by kernel_rfl) rfl #[.int .i64 a0_2] (by rfl) rfl rfl sqA ?_
 with_reducible refine (boarderref23_Num.calls _ _ _ _ A7.out).mono ?_
 rintro e w15 ⟨rfl, hb⟩
 refine ⟨_, rfl, ?_⟩
 replace BK291 := sqM (blk_below (sqK BK291.out) hb)
 replace HB := sqM (below_step (sqB1 HB.out GE291.out) hb)
 (try clear hb)
 (try clear hb2)
 (try clear hk)
 (try clear hi)
 refine hK.out _ _ ⟨(blk_cell BK291.out 0).trans rfl, (blk_cell BK291.out 1).trans rfl, (blk_cell BK291.out 2).trans rfl, (blk_cell BK291.out 3).trans rfl⟩ (fun hHeld => ?_)
 clear hK K
 refine norm_ (a' := ?_) ?_ ?_
 rotate_left
 · show Act.put _ (some 14) _ = _
   simp only [Act.put, List.setIfInBounds_toArray, List.set_cons_zero, List.set_cons_succ, i64_w, i32_w]
   rfl
 refine pure_ (i := 12) (N := some 15) (v := ?_) (a' := ?_) #[true, true, true, true, true, true, true, true, true, true, true, true, true, false, true, true, false, false, false] rfl rfl (any_of HT_.out (by kernel_rfl)) (fun _ _ _ h => h) (Or.inl ⟨by rfl, ?_⟩) ?_ ?_
 rotate_left
 · intro w'
   go_simp
   with_reducible rfl
 rotate_left
 · simp only [Act.put, List.setIfInBounds_toArray, List.set_cons_zero, List.set_cons_succ, i64_w, i32_w]
   rfl
 refine pure_ (i := 13) (N := some 16) (v := ?_) (a' := ?_) #[true, true, true, true, true, true, true, true, true, true, true, true, true, true, true, true, false, false, false] rfl rfl (any_of HT_.out (by kernel_rfl)) (fun _ _ _ h => h) (Or.inl ⟨by rfl, ?_⟩) ?_ ?_
 rotate_left
 · intro w'
   go_simp
   with_reducible rfl
 rotate_left
 · simp only [Act.put, List.setIfInBounds_toArray, List.set_cons_zero, List.set_cons_succ, i64_w, i32_w]
   rfl
 refine one_ (i := 16) (N := some 19) #[true, true, true, true, true, true, true, true, true, true, true, true, true, true, true, true, true, false, false] rfl rfl (one_of HT_.out (by kernel_rfl)) (by decide) (fun K hK => ?_)
 refine goes_ Tryd.func42 (by kernel_rfl) rfl #[.string a0_3] (by rfl) rfl rfl sqA ?_
 with_reducible refine (boarderref07_Text.calls _ _ _ _ A10.out).mono ?_
 rintro e w16 ⟨rfl, hb⟩
 refine ⟨_, rfl, ?_⟩
 replace BK291 := sqM (blk_below (sqK BK291.out) hb)
 replace HB := sqM (below_step (sqB1 HB.out GE291.out) hb)
 (try clear hb)
 (try clear hb2)
 (try clear hk)
 (try clear hi)
 refine hK.out _ _ ⟨(blk_cell BK291.out 0).trans rfl, (blk_cell BK291.out 1).trans rfl, (blk_cell BK291.out 2).trans rfl, (blk_cell BK291.out 3).trans rfl⟩ (fun hHeld => ?_)
 clear hK K
 refine norm_ (a' := ?_) ?_ ?_
 rotate_left
 · show Act.put _ (some 19) _ = _
   simp only [Act.put, List.setIfInBounds_toArray, List.set_cons_zero, List.set_cons_succ, i64_w, i32_w]
   rfl
 refine pure_ (i := 17) (N := some 20) (v := ?_) (a' := ?_) #[true, true, true, true, true, true, true, true, true, true, true, true, true, true, true, true, true, true, false] rfl rfl (any_of HT_.out (by kernel_rfl)) (fun _ _ _ h => h) (Or.inl ⟨by rfl, ?_⟩) ?_ ?_
 rotate_left
 · intro w'
   go_simp
   with_reducible rfl
 rotate_left
 · simp only [Act.put, List.setIfInBounds_toArray, List.set_cons_zero, List.set_cons_succ, i64_w, i32_w]
   rfl
 refine pure_ (i := 18) (N := some 2) (v := ?_) (a' := ?_) #[true, true, true, true, true, true, true, true, true, true, true, true, true, true, true, true, true, true, true] rfl rfl (any_of HT_.out (by kernel_rfl)) (fun _ _ _ h => h) (Or.inl ⟨by rfl, ?_⟩) ?_ ?_
 rotate_left
 · intro w'
   go_simp
   with_reducible rfl
 rotate_left
 · simp only [Act.put, List.setIfInBounds_toArray, List.set_cons_zero, List.set_cons_succ, i64_w, i32_w]
   rfl
 refine done_ (done_of HT_.out (by kernel_rfl)) ?_
 try go_wp2
 go_ret
 exact ⟨sqE, sqB1 HB.out GE291.out⟩

end Go.Proofs.YtdajdpgnhjlbaaaDoor.PLease
