/- Lean functions for Go functions of the given program, and proofs that the code computes them, each under its theorem's own conditions. Written by a program of this session. -/
import Derived.Test.YtdajdpgnhjlbaaaDoorPLeasex0
import Derived.Test.YtdajdpgnhjlbaaaDoorPLeasex1
import Derived.Test.YtdajdpgnhjlbaaaDoorPLeasex2
import Derived.Test.YtdajdpgnhjlbaaaDoorPLeasex3
import Derived.Test.YtdajdpgnhjlbaaaDoorPLeasex4
namespace Go.Proofs.YtdajdpgnhjlbaaaDoor.PLease
open Go.RowKit Go.Proofs.YtdajdpgnhjlbaaaDoorW.PrintWords Go.Proofs.YtdajdpgnhjlbaaaDoorW.PrintLast Go.Proofs.YtdajdpgnhjlbaaaDoorW.PrintMore
attribute [local go_sem] max2_int min2_int max_two min_two max_three min_three max_four min_four   -- for this text's walks alone
set_option linter.unusedVariables false
set_option linter.unusedSimpArgs false

attribute [local go_sem high] eqA23
/-! ### boarderlaw24_knows: function 12 -/
def boarderlaw24_knows.f (k : Nat)  : Option (Bool) := (ltext_Line.f k 1 1 258 (⟨#[105, 48, 49]⟩ : ByteArray)).bind fun bt245 => ((ltext_Lease.f k bt245.1).bind fun bt247 => ((ltext_Print.f k (([(⟨1, 1, 258, (⟨#[105, 48, 49]⟩ : ByteArray)⟩ : S23)] : List (S23)))).bind fun bt256 => ((ltext_Parse.f k bt256.1).bind fun bt258 => (if bt245.1.toList = ([48, 46, 48, 46, 48, 46, 49, 32, 98, 111, 117, 110, 100, 32, 50, 53, 56, 32, 105, 45, 51, 48, 51, 49] : List UInt8) then (if bt245.2 = 0 then (if (bt247.1 == 1 && (bt247.2.1 == 1 && (bt247.2.2.1 == 258 && (bt247.2.2.2.1.toList == ([105, 48, 49] : List UInt8))))) = true then (if bt247.2.2.2.2 = 0 then (if bt245.1.size + 1 ≤ 9223372036854775807 then (if bt256.1.toList = (bt245.1 ++ (⟨#[10]⟩ : ByteArray)).toList then (if bt256.2 = 0 then (if (bt258.1.length : Int) = 1 then (if bt258.2.1 = 0 then (some (bt258.2.2 == 0)) else (none)) else (none)) else (none)) else (none)) else (none)) else (none)) else (none)) else (none)) else (none)))))
theorem boarderlaw24_knows.mono : ∀ k, LeO (boarderlaw24_knows.f k ) (boarderlaw24_knows.f (k + 1) ) := by
 intro  k
 unfold boarderlaw24_knows.f
 repeat' first
  | (with_reducible exact ltext_Lease.mono _ _)
  | (with_reducible exact ltext_Line.mono _ _ _ _ _)
  | (with_reducible exact ltext_Parse.mono _ _)
  | (with_reducible exact ltext_Print.mono _ _)
  | (with_reducible exact LeO.refl _)
  | (with_reducible exact LeO.none _)
  | (with_reducible refine LeO.ite ?_ ?_)
  | (with_reducible refine LeO.bind ?_ (fun _ => ?_))
set_option maxHeartbeats 8000000 in
set_option maxRecDepth 100000 in
theorem boarderlaw24_knows.calls (k : Nat)  (r : Bool) (w : World) (hT : TabW w) (h : boarderlaw24_knows.f k  = some r) :
    Calls Tryd.prog 12 #[] w fun e w' => e = .returned (.bool r) ∧ Below w.heap.size w w' := by
 have hu23 := Tryd.underlying23
 have HT := Aside0.mk hT
 clear hT
 have HRT1 := Aside0.mk HT.out.t1
 have HRT0 := Aside0.mk HT.out.t0
 have HB := Aside0.mk (Below.refl w.heap.size w)
 have H : ((ltext_Line.f k 1 1 258 (⟨#[105, 48, 49]⟩ : ByteArray)).bind fun bt245 => ((ltext_Lease.f k bt245.1).bind fun bt247 => ((ltext_Print.f k (([(⟨1, 1, 258, (⟨#[105, 48, 49]⟩ : ByteArray)⟩ : S23)] : List (S23)))).bind fun bt256 => ((ltext_Parse.f k bt256.1).bind fun bt258 => (if bt245.1.toList = ([48, 46, 48, 46, 48, 46, 49, 32, 98, 111, 117, 110, 100, 32, 50, 53, 56, 32, 105, 45, 51, 48, 51, 49] : List UInt8) then (if bt245.2 = 0 then (if (bt247.1 == 1 && (bt247.2.1 == 1 && (bt247.2.2.1 == 258 && (bt247.2.2.2.1.toList == ([105, 48, 49] : List UInt8))))) = true then (if bt247.2.2.2.2 = 0 then (if bt245.1.size + 1 ≤ 9223372036854775807 then (if bt256.1.toList = (bt245.1 ++ (⟨#[10]⟩ : ByteArray)).toList then (if bt256.2 = 0 then (if (bt258.1.length : Int) = 1 then (if bt258.2.1 = 0 then (some (bt258.2.2 == 0)) else (none)) else (none)) else (none)) else (none)) else (none)) else (none)) else (none)) else (none)) else (none)))))) = some r := h
 clear h
 replace H := Option.bind_eq_some_iff.mp H
 obtain ⟨⟨t245, t246⟩, A10, H⟩ := H
 replace H : ((ltext_Lease.f k t245).bind fun bt247 => ((ltext_Print.f k (([(⟨1, 1, 258, (⟨#[105, 48, 49]⟩ : ByteArray)⟩ : S23)] : List (S23)))).bind fun bt256 => ((ltext_Parse.f k bt256.1).bind fun bt258 => (if t245.toList = ([48, 46, 48, 46, 48, 46, 49, 32, 98, 111, 117, 110, 100, 32, 50, 53, 56, 32, 105, 45, 51, 48, 51, 49] : List UInt8) then (if t246 = 0 then (if (bt247.1 == 1 && (bt247.2.1 == 1 && (bt247.2.2.1 == 258 && (bt247.2.2.2.1.toList == ([105, 48, 49] : List UInt8))))) = true then (if bt247.2.2.2.2 = 0 then (if t245.size + 1 ≤ 9223372036854775807 then (if bt256.1.toList = (t245 ++ (⟨#[10]⟩ : ByteArray)).toList then (if bt256.2 = 0 then (if (bt258.1.length : Int) = 1 then (if bt258.2.1 = 0 then (some (bt258.2.2 == 0)) else (none)) else (none)) else (none)) else (none)) else (none)) else (none)) else (none)) else (none)) else (none))))) = some r := H
 have A1 := Aside0.mk A10
 clear A10
 replace H := Option.bind_eq_some_iff.mp H
 obtain ⟨⟨t247, t248, t249, t250, t251⟩, A20, H⟩ := H
 replace H : ((ltext_Print.f k (([(⟨1, 1, 258, (⟨#[105, 48, 49]⟩ : ByteArray)⟩ : S23)] : List (S23)))).bind fun bt256 => ((ltext_Parse.f k bt256.1).bind fun bt258 => (if t245.toList = ([48, 46, 48, 46, 48, 46, 49, 32, 98, 111, 117, 110, 100, 32, 50, 53, 56, 32, 105, 45, 51, 48, 51, 49] : List UInt8) then (if t246 = 0 then (if (t247 == 1 && (t248 == 1 && (t249 == 258 && (t250.toList == ([105, 48, 49] : List UInt8))))) = true then (if t251 = 0 then (if t245.size + 1 ≤ 9223372036854775807 then (if bt256.1.toList = (t245 ++ (⟨#[10]⟩ : ByteArray)).toList then (if bt256.2 = 0 then (if (bt258.1.length : Int) = 1 then (if bt258.2.1 = 0 then (some (bt258.2.2 == 0)) else (none)) else (none)) else (none)) else (none)) else (none)) else (none)) else (none)) else (none)) else (none)))) = some r := H
 have A2 := Aside0.mk A20
 clear A20
 obtain ⟨y253, hy253⟩ : ∃ y_ : List (S23), y_ = (([(⟨1, 1, 258, (⟨#[105, 48, 49]⟩ : ByteArray)⟩ : S23)] : List (S23))) := ⟨_, rfl⟩
 replace H : ((ltext_Print.f k y253).bind fun bt256 => ((ltext_Parse.f k bt256.1).bind fun bt258 => (if t245.toList = ([48, 46, 48, 46, 48, 46, 49, 32, 98, 111, 117, 110, 100, 32, 50, 53, 56, 32, 105, 45, 51, 48, 51, 49] : List UInt8) then (if t246 = 0 then (if (t247 == 1 && (t248 == 1 && (t249 == 258 && (t250.toList == ([105, 48, 49] : List UInt8))))) = true then (if t251 = 0 then (if t245.size + 1 ≤ 9223372036854775807 then (if bt256.1.toList = (t245 ++ (⟨#[10]⟩ : ByteArray)).toList then (if bt256.2 = 0 then (if (bt258.1.length : Int) = 1 then (if bt258.2.1 = 0 then (some (bt258.2.2 == 0)) else (none)) else (none)) else (none)) else (none)) else (none)) else (none)) else (none)) else (none)) else (none)))) = some r := by first | (rw [hy253]; with_reducible exact H) | (have H2_ := (Option.bind_some _ _).symm.trans H; rw [hy253]; with_reducible exact H2_) | (have H2_ := (Option.bind_some _ _).symm.trans H; with_reducible exact H2_) | with_reducible exact H | (rw [hy253]; exact H) | exact H
 have Ny253 := Aside0.mk hy253
 clear hy253
 replace H := Option.bind_eq_some_iff.mp H
 obtain ⟨⟨t256, t257⟩, A30, H⟩ := H
 replace H : ((ltext_Parse.f k t256).bind fun bt258 => (if t245.toList = ([48, 46, 48, 46, 48, 46, 49, 32, 98, 111, 117, 110, 100, 32, 50, 53, 56, 32, 105, 45, 51, 48, 51, 49] : List UInt8) then (if t246 = 0 then (if (t247 == 1 && (t248 == 1 && (t249 == 258 && (t250.toList == ([105, 48, 49] : List UInt8))))) = true then (if t251 = 0 then (if t245.size + 1 ≤ 9223372036854775807 then (if t256.toList = (t245 ++ (⟨#[10]⟩ : ByteArray)).toList then (if t257 = 0 then (if (bt258.1.length : Int) = 1 then (if bt258.2.1 = 0 then (some (bt258.2.2 == 0)) else (none)) else (none)) else (none)) else (none)) else (none)) else (none)) else (none)) else (none)) else (none))) = some r := H
 have A3 := Aside0.mk A30
 clear A30
 replace H := Option.bind_eq_some_iff.mp H
 obtain ⟨⟨t258, t259, t260⟩, A40, H⟩ := H
 replace H : (if t245.toList = ([48, 46, 48, 46, 48, 46, 49, 32, 98, 111, 117, 110, 100, 32, 50, 53, 56, 32, 105, 45, 51, 48, 51, 49] : List UInt8) then (if t246 = 0 then (if (t247 == 1 && (t248 == 1 && (t249 == 258 && (t250.toList == ([105, 48, 49] : List UInt8))))) = true then (if t251 = 0 then (if t245.size + 1 ≤ 9223372036854775807 then (if t256.toList = (t245 ++ (⟨#[10]⟩ : ByteArray)).toList then (if t257 = 0 then (if (t258.length : Int) = 1 then (if t259 = 0 then (some (t260 == 0)) else (none)) else (none)) else (none)) else (none)) else (none)) else (none)) else (none)) else (none)) else (none)) = some r := H
 have A4 := Aside0.mk A40
 clear A40
 by_cases c5 : t245.toList = ([48, 46, 48, 46, 48, 46, 49, 32, 98, 111, 117, 110, 100, 32, 50, 53, 56, 32, 105, 45, 51, 48, 51, 49] : List UInt8)
 rotate_left
 · rw [if_neg c5] at H
   exact absurd H (by simp)
 rw [if_pos c5] at H
 have c5b0 : (t245.toList == ([48, 46, 48, 46, 48, 46, 49, 32, 98, 111, 117, 110, 100, 32, 50, 53, 56, 32, 105, 45, 51, 48, 51, 49] : List UInt8)) = true := beq_iff_eq.mpr c5
 have c5b1 : (t245.toList != ([48, 46, 48, 46, 48, 46, 49, 32, 98, 111, 117, 110, 100, 32, 50, 53, 56, 32, 105, 45, 51, 48, 51, 49] : List UInt8)) = false := bne_eq_false_iff_eq.mpr c5
 clear c5
 by_cases c6 : t246 = 0
 rotate_left
 · rw [if_neg c6] at H
   exact absurd H (by simp)
 rw [if_pos c6] at H
 have c6b0 : (t246 == 0) = true := beq_iff_eq.mpr c6
 have c6b1 : (t246 != 0) = false := bne_eq_false_iff_eq.mpr c6
 clear c6
 by_cases c7 : (t247 == 1 && (t248 == 1 && (t249 == 258 && (t250.toList == ([105, 48, 49] : List UInt8))))) = true
 rotate_left
 · rw [if_neg c7] at H
   exact absurd H (by simp)
 rw [if_pos c7] at H
 have c7b0 : (t247 == 1 && (t248 == 1 && (t249 == 258 && (t250.toList == ([105, 48, 49] : List UInt8))))) = true := c7
 (try (have c7b1 : decide (t247 = 1 && (t248 == 1 && (t249 == 258 && (t250.toList == ([105, 48, 49] : List UInt8))))) = true := by simpa using c7))
 (try (have c7b2 : (t247 == 1 && (t248 == 1 && (t249 == 258 && (t250.toList == ([105, 48, 49] : List UInt8))))) = true := by simpa using c7))
 clear c7
 by_cases c8 : t251 = 0
 rotate_left
 · rw [if_neg c8] at H
   exact absurd H (by simp)
 rw [if_pos c8] at H
 have c8b0 : (t251 == 0) = true := beq_iff_eq.mpr c8
 have c8b1 : (t251 != 0) = false := bne_eq_false_iff_eq.mpr c8
 clear c8
 by_cases c9 : t245.size + 1 ≤ 9223372036854775807
 rotate_left
 · rw [if_neg c9] at H
   exact absurd H (by simp)
 rw [if_pos c9] at H
 have c9b0 := eq_true c9
 have c9b1 : decide (t245.size + 1 ≤ 9223372036854775807) = true := decide_eq_true c9
 try have c9b2 : (9223372036854775807 < t245.size + 1) = False := eq_false (Nat.not_lt.2 c9)
 (try (have c9q := c9; simp only [ByteArray.size_append, Com.mk_size, List.size_toArray, List.length_cons, List.length_nil, Nat.zero_add] at c9q; have c9b3 := eq_false (Nat.not_lt.2 c9q); have c9b4 := eq_true c9q; clear c9q))
 by_cases c10 : t256.toList = (t245 ++ (⟨#[10]⟩ : ByteArray)).toList
 rotate_left
 · rw [if_neg c10] at H
   exact absurd H (by simp)
 rw [if_pos c10] at H
 have c10b0 : (t256.toList == (t245 ++ (⟨#[10]⟩ : ByteArray)).toList) = true := beq_iff_eq.mpr c10
 have c10b1 : (t256.toList != (t245 ++ (⟨#[10]⟩ : ByteArray)).toList) = false := bne_eq_false_iff_eq.mpr c10
 clear c10
 by_cases c11 : t257 = 0
 rotate_left
 · rw [if_neg c11] at H
   exact absurd H (by simp)
 rw [if_pos c11] at H
 have c11b0 : (t257 == 0) = true := beq_iff_eq.mpr c11
 have c11b1 : (t257 != 0) = false := bne_eq_false_iff_eq.mpr c11
 clear c11
 by_cases c12 : (t258.length : Int) = 1
 rotate_left
 · rw [if_neg c12] at H
   exact absurd H (by simp)
 rw [if_pos c12] at H
 have c12b0 : ((t258.length : Int) == 1) = true := beq_iff_eq.mpr c12
 have c12b1 : ((t258.length : Int) != 1) = false := bne_eq_false_iff_eq.mpr c12
 clear c12
 by_cases c13 : t259 = 0
 rotate_left
 · rw [if_neg c13] at H
   exact absurd H (by simp)
 rw [if_pos c13] at H
 have c13b0 : (t259 == 0) = true := beq_iff_eq.mpr c13
 have c13b1 : (t259 != 0) = false := bne_eq_false_iff_eq.mpr c13
 clear c13
 obtain rfl := Option.some.inj H
 go_enter Tryd.func12, Tryd.ntmps12
 go_wp2_with (first | ((with_reducible refine gate_dst (N := 1) rfl ?_); (try (refine gate_guard (by rfl) ?_; dsimp only)); refine box_event rfl (N := 1) rfl (cs := #[.int .i64 0, .int .i64 0, .int .i64 0, .string (⟨#[]⟩ : ByteArray)]) (t := 23) sqs ?_; intro gb244 hg w14 hbox hb; have BK244 := sqM (hbox); have GW244 := sqM (sqZ hg (sqB HB.out)); have GE244 := sqM (sqZ hg (sqB HB.out)); replace HB := sqM (below_step (sqB HB.out) hb); clear hb hbox hg; obtain ⟨hcz15_0, hcz15_1, hcz15_2, hcz15_3, hfz15_0, hfz15_1, hfz15_2, hfz15_3⟩ := sqF4 BK244.out) | ((with_reducible refine gate_callee (f := 13) rfl ?_); refine goesL_ (some 14) rfl rfl Tryd.func13 (by kernel_rfl) rfl #[.agg #[.int .i64 1, .int .i64 1, .int .i64 258, .string (⟨#[105, 48, 49]⟩ : ByteArray)]] rfl sqA ?_; (with_reducible refine (ltext_Line.calls _ _ _ _ _ _ _ _ ?side1 A1.out).mono ?_); (case side1 => first | exact HT.out | exact TabW.below HT.out (sqB1 HB.out GE244.out) | exact TabW.drawn HT.out ⟨_, rfl⟩); rintro e w16 ⟨rfl, hb⟩; refine ⟨_, rfl, ?_⟩; replace BK244 := sqM (blk_below (sqK (sqP4 BK244.out)) hb); replace HB := sqM (below_step (sqB1 HB.out GE244.out) hb); (try clear hb); (try clear hb2); (try clear hk); (try clear hi)) | ((with_reducible refine gate_callee (f := 16) rfl ?_); refine goesL_ (some 19) rfl rfl Tryd.func16 (by kernel_rfl) rfl #[.string t245] rfl sqA ?_; (with_reducible refine (ltext_Lease.calls _ _ _ _ _ _ _ _ ?side1 A2.out).mono ?_); (case side1 => first | exact HT.out | exact TabW.below HT.out (sqB1 HB.out GE244.out) | exact TabW.drawn HT.out ⟨_, rfl⟩); rintro e w17 ⟨rfl, hb⟩; refine ⟨_, rfl, ?_⟩; replace BK244 := sqM (blk_below (sqK BK244.out) hb); replace HB := sqM (below_step (sqB1 HB.out GE244.out) hb); (try clear hb); (try clear hb2); (try clear hk); (try clear hi)) | ((with_reducible refine gate_dst (N := 4) rfl ?_); (try (refine gate_guard (by rfl) ?_; dsimp only)); refine box_event rfl (N := 4) rfl (cs := #[.int .i64 0, .int .i64 0, .int .i64 0, .string (⟨#[]⟩ : ByteArray)]) (t := 23) sqs ?_; intro gb252 hg w18 hbox hb; have BK252 := sqM (hbox); have GW252 := sqM (sqZ hg (sqB1 HB.out GE244.out)); have GE252 := sqM (sqZ hg (sqB1 HB.out GE244.out)); have NB244_252 := sqM (sqL hg (sqK BK244.out)); have NB252_244 := sqM (sqG hg (sqK BK244.out)); replace BK244 := sqM (blk_below (sqK BK244.out) hb); replace HB := sqM (below_step (sqB1 HB.out GE244.out) hb); clear hb hbox hg; have hnb19 := NB252_244.out; have hnc19 := NB244_252.out; obtain ⟨hcz20_0, hcz20_1, hcz20_2, hcz20_3, hfz20_0, hfz20_1, hfz20_2, hfz20_3⟩ := sqF4 BK252.out; obtain ⟨hcz21_0, hcz21_1, hcz21_2, hcz21_3, hfz21_0, hfz21_1, hfz21_2, hfz21_3⟩ := sqF4 BK244.out) | ((with_reducible refine gate_dst (N := 24) rfl ?_); (try (refine gate_guard (by rfl) ?_; dsimp only)); refine Kd.R_lit k23 _ 23 ?hg (N := 24) ?hd (xs := ([(⟨1, 1, 258, (⟨#[105, 48, 49]⟩ : ByteArray)⟩ : S23)] : List (S23))) (inner := [.int .i64 1, .int .i64 1, .int .i64 258, .string (⟨#[105, 48, 49]⟩ : ByteArray)]) (ok := fun _ => True) (okp := fun _ => True) ?hr ?hp (fun _ hk => hk) trivial (Below.refl _ _) (Nat.le_refl _) (by simp) ?_; (case hd => rfl); (case hg => rfl); (case hr => first | (go_simp; done) | (go_simp; rfl)); (case hp => exact (Reps.c4 (show Kd.M k23 _ _ _ (⟨1, 1, 258, (⟨#[105, 48, 49]⟩ : ByteArray)⟩ : S23) [.int .i64 1, .int .i64 1, .int .i64 258, .string (⟨#[105, 48, 49]⟩ : ByteArray)] from (k23_mkM _ _ _ (⟨1, 1, 258, (⟨#[105, 48, 49]⟩ : ByteArray)⟩ : S23) )) (Reps.none _ _))); intro v254 w22 ho23 hb hg_ hnew_; clear hg_ hnew_; (first | rw [← Ny253.out] at ho23 | (simp only [Int.reduceToNat] at ho23; rw [← Ny253.out] at ho23)); have HO255 := sqM (Kd.R_lower (Kd.R_newB (Kd.R_newB ho23 (g := gb244) (o := .cells #[.int .i64 1, .int .i64 1, .int .i64 258, .string (⟨#[105, 48, 49]⟩ : ByteArray)] 23 (0, 0)) (by exact (sqK (sqX4 BK244.out NB244_252.out)))) (g := gb252) (o := .cells #[.int .i64 t247, .int .i64 t248, .int .i64 t249, .string t250] 23 (0, 0)) (by exact (sqK (sqP4 BK252.out)))) (below_size (sqB2 HB.out GE244.out GE252.out))); replace BK244 := sqM (blk_below (sqK (sqX4 BK244.out NB244_252.out)) hb); replace BK252 := sqM (blk_below (sqK (sqP4 BK252.out)) hb); replace HB := sqM (below_step (sqB2 HB.out GE244.out GE252.out) hb); clear hb ho23; obtain ⟨Ao24, co24, eo24⟩ := Kd.R_slice HO255.out; subst eo24) | ((with_reducible refine gate_callee (f := 19) rfl ?_); refine goesL_ (some 25) rfl rfl Tryd.func19 (by kernel_rfl) rfl #[.slice Ao24 y253.length co24] rfl sqA ?_; (with_reducible refine (ltext_Print.calls _ _ _ _ _ _ _ ?side1 ?side2 ?side3 A3.out).mono ?_); (case side1 => repeat (first | exact (Kd.R_reads' HO255.out).2.2 | (with_reducible refine Kd.C_alloc ?_ _) | (with_reducible refine Kd.C_drewN ?_ _) | (with_reducible refine Kd.C_drew ?_))); (case side2 => exact (Kd.R_reads' HO255.out).2.1); (case side3 => first | exact HT.out | exact TabW.below HT.out (sqB2 HB.out GE244.out GE252.out) | exact TabW.drawn HT.out ⟨_, rfl⟩); rintro e w25 ⟨rfl, hb⟩; refine ⟨_, rfl, ?_⟩; replace HO255 := sqM (Kd.R_below (sqR HO255.out) hb); replace BK244 := sqM (blk_below (sqK BK244.out) hb); replace BK252 := sqM (blk_below (sqK BK252.out) hb); replace HB := sqM (below_step (sqB2 HB.out GE244.out GE252.out) hb); (try clear hb); (try clear hb2); (try clear hk); (try clear hi)) | ((with_reducible refine gate_callee (f := 21) rfl ?_); refine goesL_ (some 30) rfl rfl Tryd.func21 (by kernel_rfl) rfl #[.string t256] rfl sqA ?_; (with_reducible refine (ltext_Parse.calls _ _ _ _ _ _ ?side1 A4.out).mono ?_); (case side1 => first | exact HT.out | exact TabW.below HT.out (sqB2 HB.out GE244.out GE252.out) | exact TabW.drawn HT.out ⟨_, rfl⟩); rintro e w26 ⟨v261, rfl, ho0, hb⟩; refine ⟨_, rfl, ?_⟩; have HO262 := sqM (Kd.R_lower (Kd.R_newB (Kd.R_newB (Kd.R_new' ho0 (Kd.R_lt (sqR HO255.out))) (g := gb244) (o := .cells #[.int .i64 1, .int .i64 1, .int .i64 258, .string (⟨#[105, 48, 49]⟩ : ByteArray)] 23 (0, 0)) (sqK BK244.out)) (g := gb252) (o := .cells #[.int .i64 t247, .int .i64 t248, .int .i64 t249, .string t250] 23 (0, 0)) (sqK BK252.out)) (below_size (sqB2 HB.out GE244.out GE252.out))); replace HO255 := sqM (Kd.R_elder' (sqR HO255.out) (Kd.R_base ho0) hb); replace BK244 := sqM (blk_below (sqK BK244.out) hb); replace BK252 := sqM (blk_below (sqK BK252.out) hb); replace HB := sqM (below_step (sqB2 HB.out GE244.out GE252.out) hb); (try clear hb); (try clear hb2); (try clear hk); (try clear hi); (try clear ho0); obtain ⟨Ao27, co27, eo27⟩ := Kd.R_slice HO262.out; subst eo27; obtain ⟨hcz28_0, hcz28_1, hcz28_2, hcz28_3, hfz28_0, hfz28_1, hfz28_2, hfz28_3⟩ := sqF4 BK252.out; obtain ⟨hcz29_0, hcz29_1, hcz29_2, hcz29_3, hfz29_0, hfz29_1, hfz29_2, hfz29_3⟩ := sqF4 BK244.out))
 go_ret
 exact ⟨sqE, sqB2 HB.out GE244.out GE252.out⟩

end Go.Proofs.YtdajdpgnhjlbaaaDoor.PLease
