/- Lean functions for Go functions of the given program, and proofs that the code computes them, each under its theorem's own conditions. Written by a program of this session. -/
import Derived.Test.YtdajdpgnhjlbaaaDoorPLeasex0
import Derived.Test.YtdajdpgnhjlbaaaDoorPLeasex6
import Derived.Test.YtdajdpgnhjlbaaaDoorPLeasex7
import Derived.Test.YtdajdpgnhjlbaaaDoorPLeasex9
namespace Go.Proofs.YtdajdpgnhjlbaaaDoor.PLease
open Go.RowKit Go.Proofs.YtdajdpgnhjlbaaaDoorW.PrintWords Go.Proofs.YtdajdpgnhjlbaaaDoorW.PrintLast Go.Proofs.YtdajdpgnhjlbaaaDoorW.PrintMore
attribute [local go_sem] max2_int min2_int max_two min_two max_three min_three max_four min_four   -- for this text's walks alone
set_option linter.unusedVariables false
set_option linter.unusedSimpArgs false

/-! ### boarderref24_Lease: function 17 -/
def boarderref24_Lease.l0 : Nat → ByteArray → List ByteArray → Int → Bool → ByteArray → Bool → Int → Option (Int × Int × Int × ByteArray × Bool)
  | 0, _, _, _, _, _, _, _ => none
  | k + 1, x0, x4, x5, x6, x7, x8, x9 => if x9 ≤ 3 then (if 2 < (x4.length : Int) then ((boarderref23_Number.f k (rdOf ByteArray.empty x4 2)).bind fun t333 => (if x6 = true then (if x8 = true then ((boarderref09_Right.f x5 x9 t333 x7).bind fun t335 => (if t335 = true then ((boarderref24_Line.f k x5 x9 t333 x7).bind fun t336 => (if t336.toList = x0.toList then (some (x5, x9, t333, x7, true)) else (boarderref24_Lease.l0 k x0 x4 x5 x6 x7 x8 (wrap64 (x9 + 1))))) else (boarderref24_Lease.l0 k x0 x4 x5 x6 x7 x8 (wrap64 (x9 + 1))))) else (boarderref24_Lease.l0 k x0 x4 x5 x6 x7 x8 (wrap64 (x9 + 1)))) else (boarderref24_Lease.l0 k x0 x4 x5 x6 x7 x8 (wrap64 (x9 + 1))))) else (none)) else (some (0, 0, 0, (⟨#[]⟩ : ByteArray), false))
def boarderref24_Lease.f (k : Nat) (a0 : ByteArray) : Option (Int × Int × Int × ByteArray × Bool) := (boarderref23_Words.f k a0).bind fun t323 => (if (t323.length : Int) = 4 then (if 0 < (t323.length : Int) then ((boarderref01_Parse.f k (rdOf ByteArray.empty t323 0)).bind fun bt327 => (if 3 < (t323.length : Int) then ((boarderref07_Parse.f k (rdOf ByteArray.empty t323 3)).bind fun bt330 => (boarderref24_Lease.l0 k a0 t323 bt327.1 bt327.2 bt330.1 bt330.2 1)) else (none))) else (none)) else (some (0, 0, 0, (⟨#[]⟩ : ByteArray), false)))
set_option maxHeartbeats 8000000 in
set_option maxRecDepth 100000 in
theorem boarderref24_Lease.calls (k : Nat) (a0 : ByteArray) (r1 : Int) (r2 : Int) (r3 : Int) (r4 : ByteArray) (r5 : Bool) (w : World) (h : boarderref24_Lease.f k a0 = some (r1, r2, r3, r4, r5)) :
    Calls Tryd.prog 17 #[.string a0] w fun e w' => e = .returned (.tuple #[.agg #[.int .i64 r1, .int .i64 r2, .int .i64 r3, .string r4], .bool r5]) ∧ Below w.heap.size w w' := by
 have hu23 := Tryd.underlying23
 have HB := Aside0.mk (Below.refl w.heap.size w)
 have H : ((boarderref23_Words.f k a0).bind fun t323 => (if (t323.length : Int) = 4 then (if 0 < (t323.length : Int) then ((boarderref01_Parse.f k (rdOf ByteArray.empty t323 0)).bind fun bt327 => (if 3 < (t323.length : Int) then ((boarderref07_Parse.f k (rdOf ByteArray.empty t323 3)).bind fun bt330 => (boarderref24_Lease.l0 k a0 t323 bt327.1 bt327.2 bt330.1 bt330.2 1)) else (none))) else (none)) else (some (0, 0, 0, (⟨#[]⟩ : ByteArray), false)))) = some (r1, r2, r3, r4, r5) := h
 clear h
 replace H := Option.bind_eq_some_iff.mp H
 obtain ⟨t323, A20, H⟩ := H
 replace H : (if (t323.length : Int) = 4 then (if 0 < (t323.length : Int) then ((boarderref01_Parse.f k (rdOf ByteArray.empty t323 0)).bind fun bt327 => (if 3 < (t323.length : Int) then ((boarderref07_Parse.f k (rdOf ByteArray.empty t323 3)).bind fun bt330 => (boarderref24_Lease.l0 k a0 t323 bt327.1 bt327.2 bt330.1 bt330.2 1)) else (none))) else (none)) else (some (0, 0, 0, (⟨#[]⟩ : ByteArray), false))) = some (r1, r2, r3, r4, r5) := H
 have A2 := Aside0.mk A20
 clear A20
 by_cases c3 : (t323.length : Int) = 4
 rotate_left
 · rw [if_neg c3] at H
   have c3b0 : ((t323.length : Int) == 4) = false := beq_eq_false_iff_ne.mpr c3
   have c3b1 : ((t323.length : Int) != 4) = true := bne_iff_ne.mpr c3
   simp only [Option.some.injEq, Prod.mk.injEq] at H
   obtain ⟨rfl, rfl, rfl, rfl, rfl⟩ := H
   go_enter Tryd.func17, Tryd.ntmps17
   go_wp2_with (first | ((with_reducible refine gate_dst (N := 2) rfl ?_); refine box_event rfl (N := 2) rfl (cs := #[.int .i64 0, .int .i64 0, .int .i64 0, .string (⟨#[]⟩ : ByteArray)]) (t := 23) sqs ?_; intro gb322 hg w52 hbox hb; have BK322 := sqM (hbox); have GW322 := sqM (sqZ hg (sqB HB.out)); have GE322 := sqM (sqZ hg (sqB HB.out)); replace HB := sqM (below_step (sqB HB.out) hb); clear hb hbox hg) | ((with_reducible refine gate_callee (f := 47) rfl ?_); refine goesL_ (some 12) rfl rfl Tryd.func47 (by kernel_rfl) rfl #[.string a0] rfl sqA ?_; (with_reducible refine (boarderref23_Words.calls _ _ _ _ A2.out).mono ?_); rintro e w53 ⟨v324, rfl, ho0, hb⟩; refine ⟨_, rfl, ?_⟩; have HO325 := sqM (Kd.R_lower ho0 (below_size (sqB1 HB.out GE322.out))); replace BK322 := sqM (blk_below (sqK BK322.out) hb); replace HB := sqM (below_step (sqB1 HB.out GE322.out) hb); (try clear hb); (try clear hb2); (try clear hk); (try clear hi); (try clear ho0); obtain ⟨Ao54, co54, eo54⟩ := Kd.R_slice HO325.out; subst eo54; obtain ⟨hcz55_0, hcz55_1, hcz55_2, hcz55_3, hfz55_0, hfz55_1, hfz55_2, hfz55_3⟩ := sqF4 BK322.out))
   refine bodyPost_ret (results_ct rfl _ _ gb322 23 #[.int .i64 0, .int .i64 0, .int .i64 0, .string (⟨#[]⟩ : ByteArray)] (0, 0) _ rfl (by exact (sqK (sqP4 BK322.out))) Tryd.underlying23 rfl (by kernel_rfl)) rfl ?_
   exact ⟨sqE, sqB1 HB.out GE322.out⟩
 rw [if_pos c3] at H
 have c3b0 : ((t323.length : Int) == 4) = true := beq_iff_eq.mpr c3
 have c3b1 : ((t323.length : Int) != 4) = false := bne_eq_false_iff_eq.mpr c3
 clear c3
 by_cases c4 : 0 < (t323.length : Int)
 rotate_left
 · rw [if_neg c4] at H
   exact absurd H (by simp)
 rw [if_pos c4] at H
 have c4b0 : decide (0 < (t323.length : Int)) = true := decide_eq_true c4
 have c4b1 : decide (0 < t323.length) = true := decide_eq_true (by omega)
 clear c4
 replace H := Option.bind_eq_some_iff.mp H
 obtain ⟨⟨t327, t328⟩, A50, H⟩ := H
 replace H : (if 3 < (t323.length : Int) then ((boarderref07_Parse.f k (rdOf ByteArray.empty t323 3)).bind fun bt330 => (boarderref24_Lease.l0 k a0 t323 t327 t328 bt330.1 bt330.2 1)) else (none)) = some (r1, r2, r3, r4, r5) := H
 have A5 := Aside0.mk A50
 clear A50
 by_cases c6 : 3 < (t323.length : Int)
 rotate_left
 · rw [if_neg c6] at H
   exact absurd H (by simp)
 rw [if_pos c6] at H
 have c6b0 : decide (3 < (t323.length : Int)) = true := decide_eq_true c6
 have c6b1 : decide (3 < t323.length) = true := decide_eq_true (by omega)
 clear c6
 replace H := Option.bind_eq_some_iff.mp H
 obtain ⟨⟨t330, t331⟩, A70, H⟩ := H
 replace H : (boarderref24_Lease.l0 k a0 t323 t327 t328 t330 t331 1) = some (r1, r2, r3, r4, r5) := H
 have A7 := Aside0.mk A70
 clear A70
 have H' := Aside0.mk H
 clear H
 go_enter Tryd.func17, Tryd.ntmps17
 go_wp2_with (first | ((with_reducible refine gate_dst (N := 2) rfl ?_); refine box_event rfl (N := 2) rfl (cs := #[.int .i64 0, .int .i64 0, .int .i64 0, .string (⟨#[]⟩ : ByteArray)]) (t := 23) sqs ?_; intro gb322 hg w8 hbox hb; have BK322 := sqM (hbox); have GW322 := sqM (sqZ hg (sqB HB.out)); have GE322 := sqM (sqZ hg (sqB HB.out)); replace HB := sqM (below_step (sqB HB.out) hb); clear hb hbox hg) | ((with_reducible refine gate_callee (f := 47) rfl ?_); refine goesL_ (some 12) rfl rfl Tryd.func47 (by kernel_rfl) rfl #[.string a0] rfl sqA ?_; (with_reducible refine (boarderref23_Words.calls _ _ _ _ A2.out).mono ?_); rintro e w9 ⟨v324, rfl, ho0, hb⟩; refine ⟨_, rfl, ?_⟩; have HO325 := sqM (Kd.R_lower ho0 (below_size (sqB1 HB.out GE322.out))); replace BK322 := sqM (blk_below (sqK BK322.out) hb); replace HB := sqM (below_step (sqB1 HB.out GE322.out) hb); (try clear hb); (try clear hb2); (try clear hk); (try clear hi); (try clear ho0); obtain ⟨Ao10, co10, eo10⟩ := Kd.R_slice HO325.out; subst eo10; have p326 : 0 ≤ (0 : Int) := (by omega); have q326 : 0 < (t323.length : Int) := of_decide_eq_true sqH; obtain ⟨ad326, e326, hx326_0⟩ := Kd.at_string (Kd.R_reads' HO325.out).2.2 0 p326 q326; cases e326; have qi326 : (0 < t323.length) = True := eq_true (by omega); (try rw [show ((0 : Int)).toNat = 0 from rfl] at hx326_0); (try rw [Addr.add_zero'] at hx326_0); replace p326 := eq_true p326; replace q326 := eq_true q326) | ((with_reducible refine gate_callee (f := 48) rfl ?_); refine goesL_ (some 21) rfl rfl Tryd.func48 (by kernel_rfl) rfl #[.string (rdOf ByteArray.empty t323 0)] rfl sqA ?_; (with_reducible refine (boarderref01_Parse.calls _ _ _ _ _ A5.out).mono ?_); rintro e w11 ⟨rfl, hb⟩; refine ⟨_, rfl, ?_⟩; replace HO325 := sqM (Kd.R_below (sqR HO325.out) hb); replace BK322 := sqM (blk_below (sqK BK322.out) hb); replace HB := sqM (below_step (sqB1 HB.out GE322.out) hb); (try clear hb); (try clear hb2); (try clear hk); (try clear hi); have p329 : 0 ≤ (3 : Int) := (by omega); have q329 : 3 < (t323.length : Int) := of_decide_eq_true sqH; obtain ⟨ad329, e329, hx329_0⟩ := Kd.at_string (Kd.R_reads' HO325.out).2.2 3 p329 q329; obtain rfl : ad326 = ad329 := (by injection e329); (try simp only [show (3 : Int).toNat = 3 from rfl, Nat.reduceMul, Nat.reduceEqDiff, Go.Addr.add, ↓reduceIte] at hx329_0); have qi329 : (3 < t323.length) = True := eq_true (by omega); (try rw [show ((3 : Int)).toNat = 3 from rfl] at hx329_0); replace p329 := eq_true p329; replace q329 := eq_true q329) | ((with_reducible refine gate_callee (f := 49) rfl ?_); refine goesL_ (some 28) rfl rfl Tryd.func49 (by kernel_rfl) rfl #[.string (rdOf ByteArray.empty t323 3)] rfl sqA ?_; (with_reducible refine (boarderref07_Parse.calls _ _ _ _ _ A7.out).mono ?_); rintro e w12 ⟨rfl, hb⟩; refine ⟨_, rfl, ?_⟩; replace HO325 := sqM (Kd.R_below (sqR HO325.out) hb); replace BK322 := sqM (blk_below (sqK BK322.out) hb); replace HB := sqM (below_step (sqB1 HB.out GE322.out) hb); (try clear hb); (try clear hb2); (try clear hk); (try clear hi)))
 go_loopg [9] k (fun kq v9 w' => ∃ (x9_1 : Int) (x323000_1 : Int) (x323001_1 : Int) (x323002_1 : Int) (x323003_1 : ByteArray), v9 = .int .i64 x9_1 ∧ Aside0 (boarderref24_Lease.l0 kq a0 t323 t327 t328 t330 t331 x9_1 = some (r1, r2, r3, r4, r5)) ∧ Aside0 (kq ≤ k) ∧ Aside0 (Kd.R Kd.string 9 w' w.heap.size (fun _ => True) (.slice (some ad326) t323.length co10) t323) ∧ Aside0 (w'.heap[gb322]? = some (.cells #[.int .i64 x323000_1, .int .i64 x323001_1, .int .i64 x323002_1, .string x323003_1] 23 (0, 0))) ∧ Aside0 (Below w.heap.size w w'))
 case atStart => exact ⟨(1), (0), (0), (0), ((⟨#[]⟩ : ByteArray)), sqI, H', ⟨Nat.le_refl _⟩, ⟨sqR HO325.out⟩, ⟨sqK BK322.out⟩, ⟨sqB1 HB.out GE322.out⟩⟩
 clear H'
 try clear c1
 try clear p2
 try clear c3
 try clear c3b0
 try clear c3b1
 try clear p3
 try clear q3
 try clear hx3
 try clear qi3
 try clear c4
 try clear c4b0
 try clear c4b1
 try clear c6
 try clear c6b0
 try clear c6b1
 try clear hx326_0
 try clear hx329_0
 try clear p326
 try clear p329
 try clear q326
 try clear q329
 obtain ⟨x9_1, x323000_1, x323001_1, x323002_1, x323003_1, rfl, HA, HK1, HO_4, BK322, HB⟩ := hrel
 cases gk with
 | zero => exact absurd HA.out (by simp [boarderref24_Lease.l0])
 | succ k1 => ?_
 have H := HA.out
 clear HA
 simp only [boarderref24_Lease.l0] at H
 by_cases c13 : x9_1 ≤ 3
 rotate_left
 · rw [if_neg c13] at H
   have c13b0 : decide (x9_1 ≤ 3) = false := decide_eq_false c13
   clear c13
   simp only [Option.some.injEq, Prod.mk.injEq] at H
   obtain ⟨rfl, rfl, rfl, rfl, rfl⟩ := H
   obtain ⟨hcz51_0, hcz51_1, hcz51_2, hcz51_3, hfz51_0, hfz51_1, hfz51_2, hfz51_3⟩ := sqF4 BK322.out
   go_wp2
   refine bodyPost_ret (results_ct rfl _ _ gb322 23 #[.int .i64 0, .int .i64 0, .int .i64 0, .string (⟨#[]⟩ : ByteArray)] (0, 0) _ rfl (by exact (sqK (sqP4 BK322.out))) Tryd.underlying23 rfl (by kernel_rfl)) rfl ?_
   exact ⟨sqE, sqB1 HB.out GE322.out⟩
 rw [if_pos c13] at H
 have c13b0 : decide (x9_1 ≤ 3) = true := decide_eq_true c13
 clear c13
 by_cases c14 : 2 < (t323.length : Int)
 rotate_left
 · rw [if_neg c14] at H
   exact absurd H (by simp)
 rw [if_pos c14] at H
 have c14b0 : decide (2 < (t323.length : Int)) = true := decide_eq_true c14
 have c14b1 : decide (2 < t323.length) = true := decide_eq_true (by omega)
 clear c14
 replace H := Option.bind_eq_some_iff.mp H
 obtain ⟨t333, A150, H⟩ := H
 replace H : (if t328 = true then (if t331 = true then ((boarderref09_Right.f t327 x9_1 t333 t330).bind fun t335 => (if t335 = true then ((boarderref24_Line.f k1 t327 x9_1 t333 t330).bind fun t336 => (if t336.toList = a0.toList then (some (t327, x9_1, t333, t330, true)) else (boarderref24_Lease.l0 k1 a0 t323 t327 t328 t330 t331 (wrap64 (x9_1 + 1))))) else (boarderref24_Lease.l0 k1 a0 t323 t327 t328 t330 t331 (wrap64 (x9_1 + 1))))) else (boarderref24_Lease.l0 k1 a0 t323 t327 t328 t330 t331 (wrap64 (x9_1 + 1)))) else (boarderref24_Lease.l0 k1 a0 t323 t327 t328 t330 t331 (wrap64 (x9_1 + 1)))) = some (r1, r2, r3, r4, r5) := H
 have A15 := Aside0.mk A150
 clear A150
 by_cases c16 : t328 = true
 rotate_left
 · replace c16 := Bool.eq_false_iff.mpr c16
   subst c16
   have H1 : (boarderref24_Lease.l0 k1 a0 t323 t327 false t330 t331 (wrap64 (x9_1 + 1))) = some (r1, r2, r3, r4, r5) := by rw [if_neg (show ¬ (false = true) by decide)] at H; exact H
   clear H
   have H := H1
   clear H1
   have H' := Aside0.mk H
   clear H
   have p332 : 0 ≤ (2 : Int) := (by omega)
   have q332 : 2 < (t323.length : Int) := of_decide_eq_true sqH
   obtain ⟨ad332, e332, hx332_0⟩ := Kd.at_string (Kd.R_reads' HO_4.out).2.2 2 p332 q332
   obtain rfl : ad326 = ad332 := (by injection e332)
   (try simp only [show (2 : Int).toNat = 2 from rfl, Nat.reduceMul, Nat.reduceEqDiff, Go.Addr.add, ↓reduceIte] at hx332_0)
   have qi332 : (2 < t323.length) = True := eq_true (by omega)
   (try rw [show ((2 : Int)).toNat = 2 from rfl] at hx332_0)
   replace p332 := eq_true p332
   replace q332 := eq_true q332
   go_wp2_with (first | ((with_reducible refine gate_callee (f := 50) rfl ?_); refine goesL_ (some 40) rfl rfl Tryd.func50 (by kernel_rfl) rfl #[.string (rdOf ByteArray.empty t323 2)] rfl sqA ?_; (with_reducible refine (boarderref23_Number.calls _ _ _ _ A15.out).mono ?_); rintro e w47 ⟨rfl, hb⟩; refine ⟨_, rfl, ?_⟩; replace HO_4 := sqM (Kd.R_below (sqR HO_4.out) hb); replace BK322 := sqM (blk_below (sqK BK322.out) hb); replace HB := sqM (below_step (sqB1 HB.out GE322.out) hb); (try clear hb); (try clear hb2); (try clear hk); (try clear hi)) | ((with_reducible refine gate_dst (N := 10) rfl ?_); refine box_event rfl (N := 10) rfl (cs := #[.int .i64 0, .int .i64 0, .int .i64 0, .string (⟨#[]⟩ : ByteArray)]) (t := 23) sqs ?_; intro gb334 hg w48 hbox hb; have BK334 := sqM (hbox); have GW334 := sqM (sqZ hg (sqB1 HB.out GE322.out)); have GE334 := sqM (sqZ hg (sqB1 HB.out GE322.out)); have NB322_334 := sqM (sqL hg (sqK BK322.out)); have NB334_322 := sqM (sqG hg (sqK BK322.out)); replace HO_4 := sqM (Kd.R_below (sqR HO_4.out) hb); replace BK322 := sqM (blk_below (sqK BK322.out) hb); replace HB := sqM (below_step (sqB1 HB.out GE322.out) hb); clear hb hbox hg; have hnb49 := NB334_322.out; have hnc49 := NB322_334.out; obtain ⟨hcz50_0, hcz50_1, hcz50_2, hcz50_3, hfz50_0, hfz50_1, hfz50_2, hfz50_3⟩ := sqF4 BK334.out))
   go_roundg k1
   case measure => have := HK1.out; omega
   case rel => exact ⟨(wrap64 (x9_1 + 1)), (x323000_1), (x323001_1), (x323002_1), (x323003_1), sqI, H', ⟨by have := HK1.out; omega⟩, ⟨by refine sqR ?_; exact Kd.R_mono (sqR4 (Kd.R_types HO_4.out BK334.out (by decide)) (fun _ hk => hk.2)) (fun _ hk => trivial)⟩, ⟨(sqK (sqX4 BK322.out NB322_334.out))⟩, ⟨sqB2 HB.out GE322.out GE334.out⟩⟩
 subst c16
 have H1 : (if t331 = true then ((boarderref09_Right.f t327 x9_1 t333 t330).bind fun t335 => (if t335 = true then ((boarderref24_Line.f k1 t327 x9_1 t333 t330).bind fun t336 => (if t336.toList = a0.toList then (some (t327, x9_1, t333, t330, true)) else (boarderref24_Lease.l0 k1 a0 t323 t327 true t330 t331 (wrap64 (x9_1 + 1))))) else (boarderref24_Lease.l0 k1 a0 t323 t327 true t330 t331 (wrap64 (x9_1 + 1))))) else (boarderref24_Lease.l0 k1 a0 t323 t327 true t330 t331 (wrap64 (x9_1 + 1)))) = some (r1, r2, r3, r4, r5) := by rw [if_pos rfl] at H; exact H
 clear H
 have H := H1
 clear H1
 by_cases c17 : t331 = true
 rotate_left
 · replace c17 := Bool.eq_false_iff.mpr c17
   subst c17
   have H1 : (boarderref24_Lease.l0 k1 a0 t323 t327 true t330 false (wrap64 (x9_1 + 1))) = some (r1, r2, r3, r4, r5) := by rw [if_neg (show ¬ (false = true) by decide)] at H; exact H
   clear H
   have H := H1
   clear H1
   have H' := Aside0.mk H
   clear H
   have p332 : 0 ≤ (2 : Int) := (by omega)
   have q332 : 2 < (t323.length : Int) := of_decide_eq_true sqH
   obtain ⟨ad332, e332, hx332_0⟩ := Kd.at_string (Kd.R_reads' HO_4.out).2.2 2 p332 q332
   obtain rfl : ad326 = ad332 := (by injection e332)
   (try simp only [show (2 : Int).toNat = 2 from rfl, Nat.reduceMul, Nat.reduceEqDiff, Go.Addr.add, ↓reduceIte] at hx332_0)
   have qi332 : (2 < t323.length) = True := eq_true (by omega)
   (try rw [show ((2 : Int)).toNat = 2 from rfl] at hx332_0)
   replace p332 := eq_true p332
   replace q332 := eq_true q332
   go_wp2_with (first | ((with_reducible refine gate_callee (f := 50) rfl ?_); refine goesL_ (some 40) rfl rfl Tryd.func50 (by kernel_rfl) rfl #[.string (rdOf ByteArray.empty t323 2)] rfl sqA ?_; (with_reducible refine (boarderref23_Number.calls _ _ _ _ A15.out).mono ?_); rintro e w43 ⟨rfl, hb⟩; refine ⟨_, rfl, ?_⟩; replace HO_4 := sqM (Kd.R_below (sqR HO_4.out) hb); replace BK322 := sqM (blk_below (sqK BK322.out) hb); replace HB := sqM (below_step (sqB1 HB.out GE322.out) hb); (try clear hb); (try clear hb2); (try clear hk); (try clear hi)) | ((with_reducible refine gate_dst (N := 10) rfl ?_); refine box_event rfl (N := 10) rfl (cs := #[.int .i64 0, .int .i64 0, .int .i64 0, .string (⟨#[]⟩ : ByteArray)]) (t := 23) sqs ?_; intro gb334 hg w44 hbox hb; have BK334 := sqM (hbox); have GW334 := sqM (sqZ hg (sqB1 HB.out GE322.out)); have GE334 := sqM (sqZ hg (sqB1 HB.out GE322.out)); have NB322_334 := sqM (sqL hg (sqK BK322.out)); have NB334_322 := sqM (sqG hg (sqK BK322.out)); replace HO_4 := sqM (Kd.R_below (sqR HO_4.out) hb); replace BK322 := sqM (blk_below (sqK BK322.out) hb); replace HB := sqM (below_step (sqB1 HB.out GE322.out) hb); clear hb hbox hg; have hnb45 := NB334_322.out; have hnc45 := NB322_334.out; obtain ⟨hcz46_0, hcz46_1, hcz46_2, hcz46_3, hfz46_0, hfz46_1, hfz46_2, hfz46_3⟩ := sqF4 BK334.out))
   go_roundg k1
   case measure => have := HK1.out; omega
   case rel => exact ⟨(wrap64 (x9_1 + 1)), (x323000_1), (x323001_1), (x323002_1), (x323003_1), sqI, H', ⟨by have := HK1.out; omega⟩, ⟨by refine sqR ?_; exact Kd.R_mono (sqR4 (Kd.R_types HO_4.out BK334.out (by decide)) (fun _ hk => hk.2)) (fun _ hk => trivial)⟩, ⟨(sqK (sqX4 BK322.out NB322_334.out))⟩, ⟨sqB2 HB.out GE322.out GE334.out⟩⟩
 subst c17
 have H1 : ((boarderref09_Right.f t327 x9_1 t333 t330).bind fun t335 => (if t335 = true then ((boarderref24_Line.f k1 t327 x9_1 t333 t330).bind fun t336 => (if t336.toList = a0.toList then (some (t327, x9_1, t333, t330, true)) else (boarderref24_Lease.l0 k1 a0 t323 t327 true t330 true (wrap64 (x9_1 + 1))))) else (boarderref24_Lease.l0 k1 a0 t323 t327 true t330 true (wrap64 (x9_1 + 1))))) = some (r1, r2, r3, r4, r5) := by rw [if_pos rfl] at H; exact H
 clear H
 have H := H1
 clear H1
 replace H := Option.bind_eq_some_iff.mp H
 obtain ⟨t335, A180, H⟩ := H
 replace H : (if t335 = true then ((boarderref24_Line.f k1 t327 x9_1 t333 t330).bind fun t336 => (if t336.toList = a0.toList then (some (t327, x9_1, t333, t330, true)) else (boarderref24_Lease.l0 k1 a0 t323 t327 true t330 true (wrap64 (x9_1 + 1))))) else (boarderref24_Lease.l0 k1 a0 t323 t327 true t330 true (wrap64 (x9_1 + 1)))) = some (r1, r2, r3, r4, r5) := H
 have A18 := Aside0.mk A180
 clear A180
 by_cases c19 : t335 = true
 rotate_left
 · replace c19 := Bool.eq_false_iff.mpr c19
   subst c19
   have H1 : (boarderref24_Lease.l0 k1 a0 t323 t327 true t330 true (wrap64 (x9_1 + 1))) = some (r1, r2, r3, r4, r5) := by rw [if_neg (show ¬ (false = true) by decide)] at H; exact H
   clear H
   have H := H1
   clear H1
   have H' := Aside0.mk H
   clear H
   have p332 : 0 ≤ (2 : Int) := (by omega)
   have q332 : 2 < (t323.length : Int) := of_decide_eq_true sqH
   obtain ⟨ad332, e332, hx332_0⟩ := Kd.at_string (Kd.R_reads' HO_4.out).2.2 2 p332 q332
   obtain rfl : ad326 = ad332 := (by injection e332)
   (try simp only [show (2 : Int).toNat = 2 from rfl, Nat.reduceMul, Nat.reduceEqDiff, Go.Addr.add, ↓reduceIte] at hx332_0)
   have qi332 : (2 < t323.length) = True := eq_true (by omega)
   (try rw [show ((2 : Int)).toNat = 2 from rfl] at hx332_0)
   replace p332 := eq_true p332
   replace q332 := eq_true q332
   go_wp2_with (first | ((with_reducible refine gate_callee (f := 50) rfl ?_); refine goesL_ (some 40) rfl rfl Tryd.func50 (by kernel_rfl) rfl #[.string (rdOf ByteArray.empty t323 2)] rfl sqA ?_; (with_reducible refine (boarderref23_Number.calls _ _ _ _ A15.out).mono ?_); rintro e w38 ⟨rfl, hb⟩; refine ⟨_, rfl, ?_⟩; replace HO_4 := sqM (Kd.R_below (sqR HO_4.out) hb); replace BK322 := sqM (blk_below (sqK BK322.out) hb); replace HB := sqM (below_step (sqB1 HB.out GE322.out) hb); (try clear hb); (try clear hb2); (try clear hk); (try clear hi)) | ((with_reducible refine gate_dst (N := 10) rfl ?_); refine box_event rfl (N := 10) rfl (cs := #[.int .i64 0, .int .i64 0, .int .i64 0, .string (⟨#[]⟩ : ByteArray)]) (t := 23) sqs ?_; intro gb334 hg w39 hbox hb; have BK334 := sqM (hbox); have GW334 := sqM (sqZ hg (sqB1 HB.out GE322.out)); have GE334 := sqM (sqZ hg (sqB1 HB.out GE322.out)); have NB322_334 := sqM (sqL hg (sqK BK322.out)); have NB334_322 := sqM (sqG hg (sqK BK322.out)); replace HO_4 := sqM (Kd.R_below (sqR HO_4.out) hb); replace BK322 := sqM (blk_below (sqK BK322.out) hb); replace HB := sqM (below_step (sqB1 HB.out GE322.out) hb); clear hb hbox hg; have hnb40 := NB334_322.out; have hnc40 := NB322_334.out; obtain ⟨hcz41_0, hcz41_1, hcz41_2, hcz41_3, hfz41_0, hfz41_1, hfz41_2, hfz41_3⟩ := sqF4 BK334.out) | (go_at_call 14; (with_reducible refine (boarderref09_Right.calls _ _ _ _ _ _ A18.out).mono ?_); rintro e w42 ⟨rfl, hb⟩; replace HO_4 := sqM (Kd.R_below (by refine sqR ?_; exact (Kd.R_mono (sqR4 (Kd.R_types HO_4.out BK334.out (by decide)) (fun _ hk => hk.2)) (fun _ h_ => h_.1))) hb); replace BK322 := sqM (blk_below (sqK (sqX4 BK322.out NB322_334.out)) hb); replace BK334 := sqM (blk_below (sqK (sqP4 BK334.out)) hb); replace HB := sqM (below_step (sqB2 HB.out GE322.out GE334.out) hb); (try clear hb); (try clear hb2); (try clear hk); (try clear hi)))
   go_roundg k1
   case measure => have := HK1.out; omega
   case rel => exact ⟨(wrap64 (x9_1 + 1)), (x323000_1), (x323001_1), (x323002_1), (x323003_1), sqI, H', ⟨by have := HK1.out; omega⟩, ⟨sqR HO_4.out⟩, ⟨sqK BK322.out⟩, ⟨sqB2 HB.out GE322.out GE334.out⟩⟩
 subst c19
 have H1 : ((boarderref24_Line.f k1 t327 x9_1 t333 t330).bind fun t336 => (if t336.toList = a0.toList then (some (t327, x9_1, t333, t330, true)) else (boarderref24_Lease.l0 k1 a0 t323 t327 true t330 true (wrap64 (x9_1 + 1))))) = some (r1, r2, r3, r4, r5) := by rw [if_pos rfl] at H; exact H
 clear H
 have H := H1
 clear H1
 replace H := Option.bind_eq_some_iff.mp H
 obtain ⟨t336, A200, H⟩ := H
 replace H : (if t336.toList = a0.toList then (some (t327, x9_1, t333, t330, true)) else (boarderref24_Lease.l0 k1 a0 t323 t327 true t330 true (wrap64 (x9_1 + 1)))) = some (r1, r2, r3, r4, r5) := H
 have A20 := Aside0.mk A200
 clear A200
 by_cases c21 : t336.toList = a0.toList
 · rw [if_pos c21] at H
   have c21b0 : (t336.toList == a0.toList) = true := beq_iff_eq.mpr c21
   have c21b1 : (t336.toList != a0.toList) = false := bne_eq_false_iff_eq.mpr c21
   clear c21
   simp only [Option.some.injEq, Prod.mk.injEq] at H
   obtain ⟨rfl, rfl, rfl, rfl, rfl⟩ := H
   have p332 : 0 ≤ (2 : Int) := (by omega)
   have q332 : 2 < (t323.length : Int) := of_decide_eq_true sqH
   obtain ⟨ad332, e332, hx332_0⟩ := Kd.at_string (Kd.R_reads' HO_4.out).2.2 2 p332 q332
   obtain rfl : ad326 = ad332 := (by injection e332)
   (try simp only [show (2 : Int).toNat = 2 from rfl, Nat.reduceMul, Nat.reduceEqDiff, Go.Addr.add, ↓reduceIte] at hx332_0)
   have qi332 : (2 < t323.length) = True := eq_true (by omega)
   (try rw [show ((2 : Int)).toNat = 2 from rfl] at hx332_0)
   replace p332 := eq_true p332
   replace q332 := eq_true q332
   go_wp2_with (first | ((with_reducible refine gate_callee (f := 50) rfl ?_); refine goesL_ (some 40) rfl rfl Tryd.func50 (by kernel_rfl) rfl #[.string (rdOf ByteArray.empty t323 2)] rfl sqA ?_; (with_reducible refine (boarderref23_Number.calls _ _ _ _ A15.out).mono ?_); rintro e w22 ⟨rfl, hb⟩; refine ⟨_, rfl, ?_⟩; replace HO_4 := sqM (Kd.R_below (sqR HO_4.out) hb); replace BK322 := sqM (blk_below (sqK BK322.out) hb); replace HB := sqM (below_step (sqB1 HB.out GE322.out) hb); (try clear hb); (try clear hb2); (try clear hk); (try clear hi)) | ((with_reducible refine gate_dst (N := 10) rfl ?_); refine box_event rfl (N := 10) rfl (cs := #[.int .i64 0, .int .i64 0, .int .i64 0, .string (⟨#[]⟩ : ByteArray)]) (t := 23) sqs ?_; intro gb334 hg w23 hbox hb; have BK334 := sqM (hbox); have GW334 := sqM (sqZ hg (sqB1 HB.out GE322.out)); have GE334 := sqM (sqZ hg (sqB1 HB.out GE322.out)); have NB322_334 := sqM (sqL hg (sqK BK322.out)); have NB334_322 := sqM (sqG hg (sqK BK322.out)); replace HO_4 := sqM (Kd.R_below (sqR HO_4.out) hb); replace BK322 := sqM (blk_below (sqK BK322.out) hb); replace HB := sqM (below_step (sqB1 HB.out GE322.out) hb); clear hb hbox hg; have hnb24 := NB334_322.out; have hnc24 := NB322_334.out; obtain ⟨hcz25_0, hcz25_1, hcz25_2, hcz25_3, hfz25_0, hfz25_1, hfz25_2, hfz25_3⟩ := sqF4 BK334.out) | (go_at_call 14; (with_reducible refine (boarderref09_Right.calls _ _ _ _ _ _ A18.out).mono ?_); rintro e w26 ⟨rfl, hb⟩; replace HO_4 := sqM (Kd.R_below (by refine sqR ?_; exact (Kd.R_mono (sqR4 (Kd.R_types HO_4.out BK334.out (by decide)) (fun _ hk => hk.2)) (fun _ h_ => h_.1))) hb); replace BK322 := sqM (blk_below (sqK (sqX4 BK322.out NB322_334.out)) hb); replace BK334 := sqM (blk_below (sqK (sqP4 BK334.out)) hb); replace HB := sqM (below_step (sqB2 HB.out GE322.out GE334.out) hb); (try clear hb); (try clear hb2); (try clear hk); (try clear hi); obtain ⟨hcz27_0, hcz27_1, hcz27_2, hcz27_3, hfz27_0, hfz27_1, hfz27_2, hfz27_3⟩ := sqF4 BK334.out) | (go_at_call 15; (with_reducible refine (boarderref24_Line.calls _ _ _ _ _ _ _ A20.out).mono ?_); rintro e w28 ⟨rfl, hb⟩; replace HO_4 := sqM (Kd.R_below (sqR HO_4.out) hb); replace BK322 := sqM (blk_below (sqK BK322.out) hb); replace BK334 := sqM (blk_below (sqK BK334.out) hb); replace HB := sqM (below_step (sqB2 HB.out GE322.out GE334.out) hb); (try clear hb); (try clear hb2); (try clear hk); (try clear hi); obtain ⟨hcz29_0, hcz29_1, hcz29_2, hcz29_3, hfz29_0, hfz29_1, hfz29_2, hfz29_3⟩ := sqF4 BK334.out; obtain ⟨hcz30_0, hcz30_1, hcz30_2, hcz30_3, hfz30_0, hfz30_1, hfz30_2, hfz30_3⟩ := sqF4 BK322.out))
   refine bodyPost_ret (results_ct rfl _ _ gb322 23 #[.int .i64 t327, .int .i64 x9_1, .int .i64 t333, .string t330] (0, 0) _ rfl (by exact (sqK (sqP4 BK322.out))) Tryd.underlying23 rfl (by kernel_rfl)) rfl ?_
   exact ⟨sqE, sqB2 HB.out GE322.out GE334.out⟩
 rw [if_neg c21] at H
 have c21b0 : (t336.toList == a0.toList) = false := beq_eq_false_iff_ne.mpr c21
 have c21b1 : (t336.toList != a0.toList) = true := bne_iff_ne.mpr c21
 have H' := Aside0.mk H
 clear H
 have p332 : 0 ≤ (2 : Int) := (by omega)
 have q332 : 2 < (t323.length : Int) := of_decide_eq_true sqH
 obtain ⟨ad332, e332, hx332_0⟩ := Kd.at_string (Kd.R_reads' HO_4.out).2.2 2 p332 q332
 obtain rfl : ad326 = ad332 := (by injection e332)
 (try simp only [show (2 : Int).toNat = 2 from rfl, Nat.reduceMul, Nat.reduceEqDiff, Go.Addr.add, ↓reduceIte] at hx332_0)
 have qi332 : (2 < t323.length) = True := eq_true (by omega)
 (try rw [show ((2 : Int)).toNat = 2 from rfl] at hx332_0)
 replace p332 := eq_true p332
 replace q332 := eq_true q332
 go_wp2_with (first | ((with_reducible refine gate_callee (f := 50) rfl ?_); refine goesL_ (some 40) rfl rfl Tryd.func50 (by kernel_rfl) rfl #[.string (rdOf ByteArray.empty t323 2)] rfl sqA ?_; (with_reducible refine (boarderref23_Number.calls _ _ _ _ A15.out).mono ?_); rintro e w31 ⟨rfl, hb⟩; refine ⟨_, rfl, ?_⟩; replace HO_4 := sqM (Kd.R_below (sqR HO_4.out) hb); replace BK322 := sqM (blk_below (sqK BK322.out) hb); replace HB := sqM (below_step (sqB1 HB.out GE322.out) hb); (try clear hb); (try clear hb2); (try clear hk); (try clear hi)) | ((with_reducible refine gate_dst (N := 10) rfl ?_); refine box_event rfl (N := 10) rfl (cs := #[.int .i64 0, .int .i64 0, .int .i64 0, .string (⟨#[]⟩ : ByteArray)]) (t := 23) sqs ?_; intro gb334 hg w32 hbox hb; have BK334 := sqM (hbox); have GW334 := sqM (sqZ hg (sqB1 HB.out GE322.out)); have GE334 := sqM (sqZ hg (sqB1 HB.out GE322.out)); have NB322_334 := sqM (sqL hg (sqK BK322.out)); have NB334_322 := sqM (sqG hg (sqK BK322.out)); replace HO_4 := sqM (Kd.R_below (sqR HO_4.out) hb); replace BK322 := sqM (blk_below (sqK BK322.out) hb); replace HB := sqM (below_step (sqB1 HB.out GE322.out) hb); clear hb hbox hg; have hnb33 := NB334_322.out; have hnc33 := NB322_334.out; obtain ⟨hcz34_0, hcz34_1, hcz34_2, hcz34_3, hfz34_0, hfz34_1, hfz34_2, hfz34_3⟩ := sqF4 BK334.out) | (go_at_call 14; (with_reducible refine (boarderref09_Right.calls _ _ _ _ _ _ A18.out).mono ?_); rintro e w35 ⟨rfl, hb⟩; replace HO_4 := sqM (Kd.R_below (by refine sqR ?_; exact (Kd.R_mono (sqR4 (Kd.R_types HO_4.out BK334.out (by decide)) (fun _ hk => hk.2)) (fun _ h_ => h_.1))) hb); replace BK322 := sqM (blk_below (sqK (sqX4 BK322.out NB322_334.out)) hb); replace BK334 := sqM (blk_below (sqK (sqP4 BK334.out)) hb); replace HB := sqM (below_step (sqB2 HB.out GE322.out GE334.out) hb); (try clear hb); (try clear hb2); (try clear hk); (try clear hi); obtain ⟨hcz36_0, hcz36_1, hcz36_2, hcz36_3, hfz36_0, hfz36_1, hfz36_2, hfz36_3⟩ := sqF4 BK334.out) | (go_at_call 15; (with_reducible refine (boarderref24_Line.calls _ _ _ _ _ _ _ A20.out).mono ?_); rintro e w37 ⟨rfl, hb⟩; replace HO_4 := sqM (Kd.R_below (sqR HO_4.out) hb); replace BK322 := sqM (blk_below (sqK BK322.out) hb); replace BK334 := sqM (blk_below (sqK BK334.out) hb); replace HB := sqM (below_step (sqB2 HB.out GE322.out GE334.out) hb); (try clear hb); (try clear hb2); (try clear hk); (try clear hi)))
 go_roundg k1
 case measure => have := HK1.out; omega
 case rel => exact ⟨(wrap64 (x9_1 + 1)), (x323000_1), (x323001_1), (x323002_1), (x323003_1), sqI, H', ⟨by have := HK1.out; omega⟩, ⟨sqR HO_4.out⟩, ⟨sqK BK322.out⟩, ⟨sqB2 HB.out GE322.out GE334.out⟩⟩

end Go.Proofs.YtdajdpgnhjlbaaaDoor.PLease
