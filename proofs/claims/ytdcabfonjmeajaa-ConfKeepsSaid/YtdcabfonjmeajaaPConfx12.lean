/- Lean functions for Go functions of the given program, and proofs that the code computes them, each under its theorem's own conditions. Written by a program of this session. -/
import Derived.Test.YtdcabfonjmeajaaPConfx0
import Derived.Test.YtdcabfonjmeajaaPConfx11
namespace Go.Proofs.Ytdcabfonjmeajaa.PConf
open Go.RowKit Go.Proofs.YtdcabfonjmeajaaW.PrintWords Go.Proofs.YtdcabfonjmeajaaW.PrintLast Go.Proofs.YtdcabfonjmeajaaW.PrintMore
attribute [local go_sem] max2_int min2_int max_two min_two max_three min_three max_four min_four   -- for this text's walks alone
set_option linter.unusedVariables false
set_option linter.unusedSimpArgs false

/-! ### boarderref13_Twice: function 45 -/
mutual
def boarderref13_Twice.l0 : Nat → List (S57) → List Int → List (S59) → List Int → Int → Option (Bool)
  | 0, _, _, _, _, _ => none
  | k + 1, x3, x4, x5, x6, x7 => if x7 < (x3.length : Int) then (if 0 ≤ x7 then ((boarderref13_Pooled.f k ((rd_T57 x3 x7).f0) ((rd_T57 x3 x7).f1) ((rd_T57 x3 x7).f2) ((rd_T57 x3 x7).f3) ((rd_T57 x3 x7).f4) ((rd_T57 x3 x7).f5) ((rd_T57 x3 x7).f6)).bind fun t308 => (if t308 = true then (some true) else (boarderref13_Twice.l1 k x3 x4 x5 x6 x7 0))) else (none)) else (boarderref13_Twice.l3 k x5 x6 0)
def boarderref13_Twice.l1 : Nat → List (S57) → List Int → List (S59) → List Int → Int → Int → Option (Bool)
  | 0, _, _, _, _, _, _ => none
  | k + 1, x3, x4, x5, x6, x7, x8 => if x8 < x7 then (if 0 ≤ x7 then (if x7 < (x3.length : Int) then (if 0 ≤ x8 then (if x8 < (x3.length : Int) then ((boarderref01_Meet.f k ((rd_T57 x3 x7).f0) ((rd_T57 x3 x7).f1) ((rd_T57 x3 x8).f0) ((rd_T57 x3 x8).f1)).bind fun t313 => (if t313 = true then (some true) else (if x7 < (x4.length : Int) then (if x8 < (x4.length : Int) then (if (rd x4 x7) = (rd x4 x8) then (boarderref13_Twice.l1 k x3 x4 x5 x6 x7 (wrap64 (x8 + 1))) else (if ((rd_T57 x3 x7).f4) > 0 then (if ((rd_T57 x3 x7).f4) = ((rd_T57 x3 x8).f4) then (some true) else (boarderref13_Twice.l1 k x3 x4 x5 x6 x7 (wrap64 (x8 + 1)))) else (boarderref13_Twice.l1 k x3 x4 x5 x6 x7 (wrap64 (x8 + 1))))) else (none)) else (none)))) else (none)) else (none)) else (none)) else (none)) else (boarderref13_Twice.l2 k x3 x4 x5 x6 x7 0)
def boarderref13_Twice.l2 : Nat → List (S57) → List Int → List (S59) → List Int → Int → Int → Option (Bool)
  | 0, _, _, _, _, _, _ => none
  | k + 1, x3, x4, x5, x6, x7, x9 => if 0 ≤ x7 then (if x7 < (x3.length : Int) then (if x9 < (((rd_T57 x3 x7).f3).length : Int) then (if 0 ≤ x9 then (if x5.length < 5864062014805 then (if x7 < (x4.length : Int) then (if x6.length < 17592186044416 then (boarderref13_Twice.l2 k x3 x4 (x5 ++ [(⟨(rd_T59 ((rd_T57 x3 x7).f3) x9).f0, (rd_T59 ((rd_T57 x3 x7).f3) x9).f1⟩ : S59)]) (x6 ++ [rd x4 x7]) x7 (wrap64 (x9 + 1))) else (none)) else (none)) else (none)) else (none)) else (boarderref13_Twice.l0 k x3 x4 x5 x6 (wrap64 (x7 + 1)))) else (none)) else (none)
def boarderref13_Twice.l3 : Nat → List (S59) → List Int → Int → Option (Bool)
  | 0, _, _, _ => none
  | k + 1, x5, x6, x10 => if x10 < (x5.length : Int) then (boarderref13_Twice.l4 k x5 x6 x10 0) else (some false)
def boarderref13_Twice.l4 : Nat → List (S59) → List Int → Int → Int → Option (Bool)
  | 0, _, _, _, _ => none
  | k + 1, x5, x6, x10, x11 => if x11 < x10 then (if 0 ≤ x10 then (if x10 < (x5.length : Int) then (if 0 ≤ x11 then (if x11 < (x5.length : Int) then (if ((rd_T59 x5 x10).f1) = ((rd_T59 x5 x11).f1) then (some true) else (if x10 < (x6.length : Int) then (if x11 < (x6.length : Int) then (if (rd x6 x10) = (rd x6 x11) then (if ((rd_T59 x5 x10).f0).toList = ((rd_T59 x5 x11).f0).toList then (some true) else (boarderref13_Twice.l4 k x5 x6 x10 (wrap64 (x11 + 1)))) else (boarderref13_Twice.l4 k x5 x6 x10 (wrap64 (x11 + 1)))) else (none)) else (none))) else (none)) else (none)) else (none)) else (none)) else (boarderref13_Twice.l3 k x5 x6 (wrap64 (x10 + 1)))
end
def boarderref13_Twice.f (k : Nat) (a0_0 : Int) (a0_1 : Int) (l0_2 : List (S41)) : Option (Bool) := (boarderref13_Flat.f k a0_0 a0_1 l0_2).bind fun bt301 => (boarderref13_Twice.l0 k bt301.1 bt301.2 ([] : List (S59)) ([] : List Int) 0)
set_option maxHeartbeats 8000000 in
set_option maxRecDepth 100000 in
theorem boarderref13_Twice.calls (k : Nat) (a0_0 : Int) (a0_1 : Int) (A0_2 : Option Addr) (c0_2 : Nat) (l0_2 : List (S41)) (r : Bool) (w : World) (hr0_2 : Kd.C k41 w A0_2 l0_2.length l0_2) (hc0_2 : l0_2.length ≤ c0_2) (h : boarderref13_Twice.f k a0_0 a0_1 l0_2 = some r) :
    Calls Try.prog 45 #[.agg #[.int .i64 a0_0, .int .i64 a0_1, .slice A0_2 l0_2.length c0_2]] w fun e w' => e = .returned (.bool r) ∧ Below w.heap.size w w' := by
 have hu24 := Try.underlying24
 have hu57 := Try.underlying57
 have hu59 := Try.underlying59
 have HR0_2 := Aside0.mk hr0_2
 have HC0_2 := Aside0.mk hc0_2
 clear hr0_2 hc0_2
 have HB := Aside0.mk (Below.refl w.heap.size w)
 have H : ((boarderref13_Flat.f k a0_0 a0_1 l0_2).bind fun bt301 => (boarderref13_Twice.l0 k bt301.1 bt301.2 ([] : List (S59)) ([] : List Int) 0)) = some r := h
 clear h
 replace H := Option.bind_eq_some_iff.mp H
 obtain ⟨⟨t301, t304⟩, A20, H⟩ := H
 replace H : (boarderref13_Twice.l0 k t301 t304 ([] : List (S59)) ([] : List Int) 0) = some r := H
 have A2 := Aside0.mk A20
 clear A20
 have H' := Aside0.mk H
 clear H
 go_enter Try.func45, Try.ntmps45
 go_wp2_with (first | ((with_reducible refine gate_dst (N := 1) rfl ?_); refine box_event rfl (N := 1) rfl (cs := #[.int .i64 a0_0, .int .i64 a0_1, .slice A0_2 l0_2.length c0_2]) (t := 24) sqs ?_; intro gb300 hg w3 hbox hb; have BK300 := sqM (hbox); have GW300 := sqM (sqZ hg (sqB HB.out)); have GE300 := sqM (sqZ hg (sqB HB.out)); replace HB := sqM (below_step (sqB HB.out) hb); clear hb hbox hg; obtain ⟨hcz4_0, hcz4_1, hcz4_2, hfz4_0, hfz4_1, hfz4_2⟩ := sqF3 BK300.out) | (go_at_call 47; (with_reducible refine (boarderref13_Flat.calls _ _ _ (fun k_ => k_ < w.heap.size) _ _ _ _ _ _ ?side1 A2.out).mono ?_); (case side1 => exact Kd.V_mk HC0_2.out (Kd.F_below (Kd.C_F k41_heap HR0_2.out) (sqB1 HB.out GE300.out))); rintro e w5 ⟨v302, v305, rfl, ho0, ho1, hb⟩; have HO303 := sqM (Kd.N_lower (Kd.N_mono (ok' := fun k_ => some k_ ≠ (v305 : Value).ownBlock ∧ k_ ≠ gb300) ho0 (fun k_ hk_ => ⟨hk_.2, Or.elim hk_.1 (fun hs_ => fun e_ => Nat.not_le.2 hs_ (by rw [e_]; exact GW300.out)) (fun hn_ => (Kd.freshB (g := gb300) (o := .cells #[.int .i64 a0_0, .int .i64 a0_1, .slice A0_2 l0_2.length c0_2] 24 (0, 0)) (sqK BK300.out) k_ hn_))⟩)) (below_size (sqB1 HB.out GE300.out))); have HO306 := sqM (Kd.R_lower (Kd.R_mono (ok' := fun k_ => True) ho1 (fun _ hk_ => trivial)) (below_size (sqB1 HB.out GE300.out))); replace BK300 := sqM (blk_below (sqK BK300.out) hb); replace HB := sqM (below_step (sqB1 HB.out GE300.out) hb); (try clear hb); (try clear hb2); (try clear hk); (try clear hi); (try clear ho0); (try clear ho1)))
 go_loopg [5, 6, 7] k (fun kq v5 v6 v7 w' => ∃ (x5_1 : List (S59)) (x6_1 : List Int) (x7_1 : Int), v7 = .int .i64 x7_1 ∧ Aside0 (boarderref13_Twice.l0 kq t301 t304 x5_1 x6_1 x7_1 = some r) ∧ Aside0 (kq ≤ k) ∧ Aside0 (Kd.N k57 57 w' w.heap.size (fun k_ => some k_ ≠ (v305 : Value).ownBlock ∧ some k_ ≠ (v5 : Value).ownBlock ∧ some k_ ≠ (v6 : Value).ownBlock ∧ k_ ≠ gb300) v302 t301) ∧ Aside0 (Kd.R (Kd.int .i64) 3 w' w.heap.size (fun k_ => some k_ ≠ (v6 : Value).ownBlock) v305 t304) ∧ Aside0 (Kd.R k59 59 w' w.heap.size (fun _ => True) v5 x5_1) ∧ Aside0 (Kd.R (Kd.int .i64) 3 w' w.heap.size (fun k_ => some k_ ≠ (v305 : Value).ownBlock) v6 x6_1) ∧ Aside0 (w'.heap[gb300]? = some (.cells #[.int .i64 a0_0, .int .i64 a0_1, (.slice A0_2 l0_2.length c0_2)] 24 (0, 0))) ∧ Aside0 (Below w.heap.size w w'))
 case atStart => exact ⟨(([] : List (S59))), (([] : List Int)), (0), sqI, H', ⟨Nat.le_refl _⟩, ⟨by refine sqN ?_; exact Kd.N_mono HO303.out (fun _ hk => ⟨hk.1, ⟨(by simp [Value.ownBlock]), ⟨(by simp [Value.ownBlock]), hk.2⟩⟩⟩)⟩, ⟨by refine sqR ?_; exact Kd.R_mono HO306.out (fun _ hk => (by simp [Value.ownBlock]))⟩, ⟨by first | exact Kd.R_nil _ _ _ _ _ | exact Kd.N_nil _ _ _ _ _ | exact Kd.V_nil _ _ _ _ _ | exact Kd.Q_nil _ _ _ _ _ | exact Kd.S_nil _ _ _ _ _⟩, ⟨by first | exact Kd.R_nil _ _ _ _ _ | exact Kd.N_nil _ _ _ _ _ | exact Kd.V_nil _ _ _ _ _ | exact Kd.Q_nil _ _ _ _ _ | exact Kd.S_nil _ _ _ _ _⟩, ⟨sqK BK300.out⟩, ⟨sqB1 HB.out GE300.out⟩⟩
 clear H'
 try clear p2
 try clear c4
 try clear hcz4_0 hcz4_1 hcz4_2 hfz4_0 hfz4_1 hfz4_2
 obtain ⟨x5_1, x6_1, x7_1, rfl, HA, HK1, HO_3, HO_4, HO_5, HO_6, BK300, HB⟩ := hrel
 cases gk with
 | zero => exact absurd HA.out (by simp [boarderref13_Twice.l0])
 | succ k1 => ?_
 have H := HA.out
 clear HA
 simp only [boarderref13_Twice.l0] at H
 by_cases c6 : x7_1 < (t301.length : Int)
 rotate_left
 · rw [if_neg c6] at H
   have c6b0 : decide (x7_1 < (t301.length : Int)) = false := decide_eq_false c6
   clear c6
   have H' := Aside0.mk H
   clear H
   obtain ⟨Ao40, co40, eo40⟩ := Kd.N_slice HO_3.out
   subst eo40
   go_wp2
   repeat (go_quiet (fail); try go_wp2)
   go_loopg [10] k1 (fun kq v10 w' => ∃ (x10_2 : Int), v10 = .int .i64 x10_2 ∧ Aside0 (boarderref13_Twice.l3 kq x5_1 x6_1 x10_2 = some r) ∧ Aside0 (kq ≤ k1) ∧ Aside0 (Kd.R k59 59 w' w.heap.size (fun _ => True) u5 x5_1) ∧ Aside0 (Kd.R (Kd.int .i64) 3 w' w.heap.size (fun _ => True) u6 x6_1) ∧ Aside0 (w'.heap[gb300]? = some (.cells #[.int .i64 a0_0, .int .i64 a0_1, (.slice A0_2 l0_2.length c0_2)] 24 (0, 0))) ∧ Aside0 (Below w.heap.size w w'))
   case atStart => exact ⟨(0), sqI, H', ⟨Nat.le_refl _⟩, ⟨sqR HO_5.out⟩, ⟨by refine sqR ?_; exact Kd.R_mono HO_6.out (fun _ hk => trivial)⟩, ⟨sqK BK300.out⟩, ⟨sqB1 HB.out GE300.out⟩⟩
   clear H'
   try clear c1
   try clear c2
   try clear p2
   try clear c3
   try clear p3
   try clear q3
   try clear hx3
   try clear c6
   try clear c6b0
   try clear p6
   try clear c7
   try clear c14
   try clear c14b0
   try clear c15
   try clear c16
   try clear c17
   try clear c18
   try clear c21
   try clear c22
   try clear c23
   try clear c23b0
   try clear c23b1
   try clear c25
   try clear c25b0
   try clear c26
   try clear c26b0
   try clear c26b1
   try clear c30
   try clear c30b0
   try clear p30
   try clear q30
   try clear hx30
   try clear c31
   try clear c31b0
   try clear p31
   try clear q31
   try clear hx31
   try clear c32
   try clear c32b0
   try clear p32
   try clear q32
   try clear hx32
   try clear c33
   try clear c33b0
   try clear c34
   try clear c35
   try clear c35b0
   try clear c36
   try clear hx309_0 hx309_1 hx309_2 hx309_3 hx309_4 hx309_5 hx309_6
   try clear hx310_0 hx310_1 hx310_2 hx310_3 hx310_4 hx310_5 hx310_6
   try clear hx311_0 hx311_1 hx311_2 hx311_3 hx311_4 hx311_5 hx311_6
   try clear hx312_0 hx312_1 hx312_2 hx312_3 hx312_4 hx312_5 hx312_6
   try clear hx314_0
   try clear hx315_0
   try clear hx316_0 hx316_1 hx316_2 hx316_3 hx316_4 hx316_5 hx316_6
   try clear hx317_0 hx317_1 hx317_2 hx317_3 hx317_4 hx317_5 hx317_6
   try clear hx318_0 hx318_1 hx318_2 hx318_3 hx318_4 hx318_5 hx318_6
   try clear hx319_0 hx319_1 hx319_2 hx319_3 hx319_4 hx319_5 hx319_6
   try clear hx320_0 hx320_1 hx320_2 hx320_3 hx320_4 hx320_5 hx320_6
   try clear hx321_0 hx321_1
   try clear hx325_0
   try clear p2
   try clear p3
   try clear p309
   try clear p310
   try clear p311
   try clear p312
   try clear p314
   try clear p315
   try clear p316
   try clear p317
   try clear p318
   try clear p319
   try clear p320
   try clear p321
   try clear p325
   try clear p6
   try clear q3
   try clear q309
   try clear q310
   try clear q311
   try clear q312
   try clear q314
   try clear q315
   try clear q316
   try clear q317
   try clear q318
   try clear q319
   try clear q320
   try clear q321
   try clear q325
   obtain ⟨x10_2, rfl, HA, HK2, HO_5, HO_6, BK300, HB⟩ := hrel
   cases gk with
   | zero => exact absurd HA.out (by simp [boarderref13_Twice.l3])
   | succ k2 => ?_
   have H := HA.out
   clear HA
   simp only [boarderref13_Twice.l3] at H
   by_cases c41 : x10_2 < (x5_1.length : Int)
   rotate_left
   · rw [if_neg c41] at H
     have c41b0 : decide (x10_2 < (x5_1.length : Int)) = false := decide_eq_false c41
     clear c41
     obtain rfl := Option.some.inj H
     obtain ⟨Ao56, co56, eo56⟩ := Kd.R_slice HO_5.out
     subst eo56
     go_wp2
     repeat (go_quiet (fail); try go_wp2)
     go_ret
     exact ⟨sqE, sqB1 HB.out GE300.out⟩
   rw [if_pos c41] at H
   have c41b0 : decide (x10_2 < (x5_1.length : Int)) = true := decide_eq_true c41
   clear c41
   have H' := Aside0.mk H
   clear H
   obtain ⟨Ao42, co42, eo42⟩ := Kd.R_slice HO_5.out
   subst eo42
   go_wp2
   repeat (go_quiet (fail); try go_wp2)
   go_loopg [11] k2 (fun kq v11 w' => ∃ (x11_3 : Int), v11 = .int .i64 x11_3 ∧ Aside0 (boarderref13_Twice.l4 kq x5_1 x6_1 x10_2 x11_3 = some r) ∧ Aside0 (kq ≤ k2) ∧ Aside0 (Kd.R k59 59 w' w.heap.size (fun _ => True) (.slice Ao42 x5_1.length co42) x5_1) ∧ Aside0 (Kd.R (Kd.int .i64) 3 w' w.heap.size (fun _ => True) u6 x6_1) ∧ Aside0 (w'.heap[gb300]? = some (.cells #[.int .i64 a0_0, .int .i64 a0_1, (.slice A0_2 l0_2.length c0_2)] 24 (0, 0))) ∧ Aside0 (Below w.heap.size w w'))
   case atStart => exact ⟨(0), sqI, H', ⟨Nat.le_refl _⟩, ⟨sqR HO_5.out⟩, ⟨sqR HO_6.out⟩, ⟨sqK BK300.out⟩, ⟨sqB1 HB.out GE300.out⟩⟩
   clear H'
   try clear c1
   try clear c2
   try clear p2
   try clear c3
   try clear p3
   try clear q3
   try clear hx3
   try clear c4
   try clear c6
   try clear c6b0
   try clear p6
   try clear c7
   try clear c14
   try clear c14b0
   try clear c15
   try clear c16
   try clear c17
   try clear c18
   try clear c21
   try clear c22
   try clear c23
   try clear c23b0
   try clear c23b1
   try clear c25
   try clear c25b0
   try clear c26
   try clear c26b0
   try clear c26b1
   try clear c30
   try clear c30b0
   try clear p30
   try clear q30
   try clear hx30
   try clear c31
   try clear c31b0
   try clear p31
   try clear q31
   try clear hx31
   try clear c32
   try clear c32b0
   try clear p32
   try clear q32
   try clear hx32
   try clear c33
   try clear c33b0
   try clear c34
   try clear c35
   try clear c35b0
   try clear c36
   try clear c41
   try clear c41b0
   try clear hx309_0 hx309_1 hx309_2 hx309_3 hx309_4 hx309_5 hx309_6
   try clear hx310_0 hx310_1 hx310_2 hx310_3 hx310_4 hx310_5 hx310_6
   try clear hx311_0 hx311_1 hx311_2 hx311_3 hx311_4 hx311_5 hx311_6
   try clear hx312_0 hx312_1 hx312_2 hx312_3 hx312_4 hx312_5 hx312_6
   try clear hx314_0
   try clear hx315_0
   try clear hx316_0 hx316_1 hx316_2 hx316_3 hx316_4 hx316_5 hx316_6
   try clear hx317_0 hx317_1 hx317_2 hx317_3 hx317_4 hx317_5 hx317_6
   try clear hx318_0 hx318_1 hx318_2 hx318_3 hx318_4 hx318_5 hx318_6
   try clear hx319_0 hx319_1 hx319_2 hx319_3 hx319_4 hx319_5 hx319_6
   try clear hx320_0 hx320_1 hx320_2 hx320_3 hx320_4 hx320_5 hx320_6
   try clear hx321_0 hx321_1
   try clear hx325_0
   try clear p2
   try clear p3
   try clear p30
   try clear p309
   try clear p31
   try clear p310
   try clear p311
   try clear p312
   try clear p314
   try clear p315
   try clear p316
   try clear p317
   try clear p318
   try clear p319
   try clear p32
   try clear p320
   try clear p321
   try clear p325
   try clear p6
   try clear q3
   try clear q30
   try clear q309
   try clear q31
   try clear q310
   try clear q311
   try clear q312
   try clear q314
   try clear q315
   try clear q316
   try clear q317
   try clear q318
   try clear q319
   try clear q32
   try clear q320
   try clear q321
   try clear q325
   obtain ⟨x11_3, rfl, HA, HK3, HO_5, HO_6, BK300, HB⟩ := hrel
   cases gk with
   | zero => exact absurd HA.out (by simp [boarderref13_Twice.l4])
   | succ k3 => ?_
   have H := HA.out
   clear HA
   simp only [boarderref13_Twice.l4] at H
   by_cases c43 : x11_3 < x10_2
   rotate_left
   · rw [if_neg c43] at H
     have c43b0 : decide (x11_3 < x10_2) = false := decide_eq_false c43
     clear c43
     have H' := Aside0.mk H
     clear H
     go_wp2
     repeat (go_quiet (fail); try go_wp2)
     go_roundg k3
     case measure => have := HK1.out; have := HK2.out; have := HK3.out; omega
     case rel => exact ⟨(wrap64 (x10_2 + 1)), sqI, H', ⟨by have := HK1.out; have := HK2.out; have := HK3.out; omega⟩, ⟨sqR HO_5.out⟩, ⟨sqR HO_6.out⟩, ⟨sqK BK300.out⟩, ⟨sqB1 HB.out GE300.out⟩⟩
   rw [if_pos c43] at H
   have c43b0 : decide (x11_3 < x10_2) = true := decide_eq_true c43
   clear c43
   by_cases c44 : 0 ≤ x10_2
   rotate_left
   · rw [if_neg c44] at H
     exact absurd H (by simp)
   rw [if_pos c44] at H
   have c44b0 : decide (0 ≤ x10_2) = true := decide_eq_true c44
   clear c44
   by_cases c45 : x10_2 < (x5_1.length : Int)
   rotate_left
   · rw [if_neg c45] at H
     exact absurd H (by simp)
   rw [if_pos c45] at H
   have c45b0 : decide (x10_2 < (x5_1.length : Int)) = true := decide_eq_true c45
   clear c45
   by_cases c46 : 0 ≤ x11_3
   rotate_left
   · rw [if_neg c46] at H
     exact absurd H (by simp)
   rw [if_pos c46] at H
   have c46b0 : decide (0 ≤ x11_3) = true := decide_eq_true c46
   clear c46
   by_cases c47 : x11_3 < (x5_1.length : Int)
   rotate_left
   · rw [if_neg c47] at H
     exact absurd H (by simp)
   rw [if_pos c47] at H
   have c47b0 : decide (x11_3 < (x5_1.length : Int)) = true := decide_eq_true c47
   clear c47
   by_cases c48 : ((rd_T59 x5_1 x10_2).f1) = ((rd_T59 x5_1 x11_3).f1)
   · rw [if_pos c48] at H
     have c48b0 : (((rd_T59 x5_1 x10_2).f1) == ((rd_T59 x5_1 x11_3).f1)) = true := beq_iff_eq.mpr c48
     have c48b1 : (((rd_T59 x5_1 x10_2).f1) != ((rd_T59 x5_1 x11_3).f1)) = false := bne_eq_false_iff_eq.mpr c48
     clear c48
     obtain rfl := Option.some.inj H
     have p329 : 0 ≤ (x10_2 : Int) := of_decide_eq_true sqH
     have q329 : x10_2 < (x5_1.length : Int) := of_decide_eq_true sqH
     obtain ⟨ad329, e329, hx329_0, hx329_1⟩ := at_T59 (Kd.R_reads' HO_5.out).2.2 x10_2 p329 q329
     cases e329
     replace p329 := eq_true p329
     replace q329 := eq_true q329
     have p330 : 0 ≤ (x11_3 : Int) := of_decide_eq_true sqH
     have q330 : x11_3 < (x5_1.length : Int) := of_decide_eq_true sqH
     obtain ⟨ad330, e330, hx330_0, hx330_1⟩ := at_T59 (Kd.R_reads' HO_5.out).2.2 x11_3 p330 q330
     obtain rfl : ad329 = ad330 := (by injection e330)
     replace p330 := eq_true p330
     replace q330 := eq_true q330
     go_wp2
     repeat (go_quiet (fail); try go_wp2)
     go_ret
     exact ⟨sqE, sqB1 HB.out GE300.out⟩
   rw [if_neg c48] at H
   have c48b0 : (((rd_T59 x5_1 x10_2).f1) == ((rd_T59 x5_1 x11_3).f1)) = false := beq_eq_false_iff_ne.mpr c48
   have c48b1 : (((rd_T59 x5_1 x10_2).f1) != ((rd_T59 x5_1 x11_3).f1)) = true := bne_iff_ne.mpr c48
   by_cases c49 : x10_2 < (x6_1.length : Int)
   rotate_left
   · rw [if_neg c49] at H
     exact absurd H (by simp)
   rw [if_pos c49] at H
   have c49b0 : decide (x10_2 < (x6_1.length : Int)) = true := decide_eq_true c49
   clear c49
   by_cases c50 : x11_3 < (x6_1.length : Int)
   rotate_left
   · rw [if_neg c50] at H
     exact absurd H (by simp)
   rw [if_pos c50] at H
   have c50b0 : decide (x11_3 < (x6_1.length : Int)) = true := decide_eq_true c50
   clear c50
   by_cases c51 : (rd x6_1 x10_2) = (rd x6_1 x11_3)
   rotate_left
   · rw [if_neg c51] at H
     have c51b0 : ((rd x6_1 x10_2) == (rd x6_1 x11_3)) = false := beq_eq_false_iff_ne.mpr c51
     have c51b1 : ((rd x6_1 x10_2) != (rd x6_1 x11_3)) = true := bne_iff_ne.mpr c51
     have H' := Aside0.mk H
     clear H
     have p329 : 0 ≤ (x10_2 : Int) := of_decide_eq_true sqH
     have q329 : x10_2 < (x5_1.length : Int) := of_decide_eq_true sqH
     obtain ⟨ad329, e329, hx329_0, hx329_1⟩ := at_T59 (Kd.R_reads' HO_5.out).2.2 x10_2 p329 q329
     cases e329
     replace p329 := eq_true p329
     replace q329 := eq_true q329
     have p330 : 0 ≤ (x11_3 : Int) := of_decide_eq_true sqH
     have q330 : x11_3 < (x5_1.length : Int) := of_decide_eq_true sqH
     obtain ⟨ad330, e330, hx330_0, hx330_1⟩ := at_T59 (Kd.R_reads' HO_5.out).2.2 x11_3 p330 q330
     obtain rfl : ad329 = ad330 := (by injection e330)
     replace p330 := eq_true p330
     replace q330 := eq_true q330
     obtain ⟨Ao55, co55, eo55⟩ := Kd.R_slice HO_6.out
     subst eo55
     have p331 : 0 ≤ (x10_2 : Int) := of_decide_eq_true sqH
     have q331 : x10_2 < (x6_1.length : Int) := of_decide_eq_true sqH
     obtain ⟨ad331, e331, hx331_0⟩ := Kd.at_int (Kd.R_reads' HO_6.out).2.2 x10_2 p331 q331
     cases e331
     replace p331 := eq_true p331
     replace q331 := eq_true q331
     have p332 : 0 ≤ (x11_3 : Int) := of_decide_eq_true sqH
     have q332 : x11_3 < (x6_1.length : Int) := of_decide_eq_true sqH
     obtain ⟨ad332, e332, hx332_0⟩ := Kd.at_int (Kd.R_reads' HO_6.out).2.2 x11_3 p332 q332
     obtain rfl : ad331 = ad332 := (by injection e332)
     replace p332 := eq_true p332
     replace q332 := eq_true q332
     go_wp2
     repeat (go_quiet (fail); try go_wp2)
     go_roundg k3
     case measure => have := HK1.out; have := HK2.out; have := HK3.out; omega
     case rel => exact ⟨(wrap64 (x11_3 + 1)), sqI, H', ⟨by have := HK1.out; have := HK2.out; have := HK3.out; omega⟩, ⟨sqR HO_5.out⟩, ⟨sqR HO_6.out⟩, ⟨sqK BK300.out⟩, ⟨sqB1 HB.out GE300.out⟩⟩
   rw [if_pos c51] at H
   have c51b0 : ((rd x6_1 x10_2) == (rd x6_1 x11_3)) = true := beq_iff_eq.mpr c51
   have c51b1 : ((rd x6_1 x10_2) != (rd x6_1 x11_3)) = false := bne_eq_false_iff_eq.mpr c51
   clear c51
   by_cases c52 : ((rd_T59 x5_1 x10_2).f0).toList = ((rd_T59 x5_1 x11_3).f0).toList
   · rw [if_pos c52] at H
     have c52b0 : (((rd_T59 x5_1 x10_2).f0).toList == ((rd_T59 x5_1 x11_3).f0).toList) = true := beq_iff_eq.mpr c52
     have c52b1 : (((rd_T59 x5_1 x10_2).f0).toList != ((rd_T59 x5_1 x11_3).f0).toList) = false := bne_eq_false_iff_eq.mpr c52
     clear c52
     obtain rfl := Option.some.inj H
     have p329 : 0 ≤ (x10_2 : Int) := of_decide_eq_true sqH
     have q329 : x10_2 < (x5_1.length : Int) := of_decide_eq_true sqH
     obtain ⟨ad329, e329, hx329_0, hx329_1⟩ := at_T59 (Kd.R_reads' HO_5.out).2.2 x10_2 p329 q329
     cases e329
     replace p329 := eq_true p329
     replace q329 := eq_true q329
     have p330 : 0 ≤ (x11_3 : Int) := of_decide_eq_true sqH
     have q330 : x11_3 < (x5_1.length : Int) := of_decide_eq_true sqH
     obtain ⟨ad330, e330, hx330_0, hx330_1⟩ := at_T59 (Kd.R_reads' HO_5.out).2.2 x11_3 p330 q330
     obtain rfl : ad329 = ad330 := (by injection e330)
     replace p330 := eq_true p330
     replace q330 := eq_true q330
     obtain ⟨Ao53, co53, eo53⟩ := Kd.R_slice HO_6.out
     subst eo53
     have p331 : 0 ≤ (x10_2 : Int) := of_decide_eq_true sqH
     have q331 : x10_2 < (x6_1.length : Int) := of_decide_eq_true sqH
     obtain ⟨ad331, e331, hx331_0⟩ := Kd.at_int (Kd.R_reads' HO_6.out).2.2 x10_2 p331 q331
     cases e331
     replace p331 := eq_true p331
     replace q331 := eq_true q331
     have p332 : 0 ≤ (x11_3 : Int) := of_decide_eq_true sqH
     have q332 : x11_3 < (x6_1.length : Int) := of_decide_eq_true sqH
     obtain ⟨ad332, e332, hx332_0⟩ := Kd.at_int (Kd.R_reads' HO_6.out).2.2 x11_3 p332 q332
     obtain rfl : ad331 = ad332 := (by injection e332)
     replace p332 := eq_true p332
     replace q332 := eq_true q332
     have p333 : 0 ≤ (x10_2 : Int) := of_decide_eq_true sqH
     have q333 : x10_2 < (x5_1.length : Int) := of_decide_eq_true sqH
     obtain ⟨ad333, e333, hx333_0, hx333_1⟩ := at_T59 (Kd.R_reads' HO_5.out).2.2 x10_2 p333 q333
     obtain rfl : ad329 = ad333 := (by injection e333)
     replace p333 := eq_true p333
     replace q333 := eq_true q333
     have p334 : 0 ≤ (x11_3 : Int) := of_decide_eq_true sqH
     have q334 : x11_3 < (x5_1.length : Int) := of_decide_eq_true sqH
     obtain ⟨ad334, e334, hx334_0, hx334_1⟩ := at_T59 (Kd.R_reads' HO_5.out).2.2 x11_3 p334 q334
     obtain rfl : ad329 = ad334 := (by injection e334)
     replace p334 := eq_true p334
     replace q334 := eq_true q334
     go_wp2
     repeat (go_quiet (fail); try go_wp2)
     go_ret
     exact ⟨sqE, sqB1 HB.out GE300.out⟩
   rw [if_neg c52] at H
   have c52b0 : (((rd_T59 x5_1 x10_2).f0).toList == ((rd_T59 x5_1 x11_3).f0).toList) = false := beq_eq_false_iff_ne.mpr c52
   have c52b1 : (((rd_T59 x5_1 x10_2).f0).toList != ((rd_T59 x5_1 x11_3).f0).toList) = true := bne_iff_ne.mpr c52
   have H' := Aside0.mk H
   clear H
   have p329 : 0 ≤ (x10_2 : Int) := of_decide_eq_true sqH
   have q329 : x10_2 < (x5_1.length : Int) := of_decide_eq_true sqH
   obtain ⟨ad329, e329, hx329_0, hx329_1⟩ := at_T59 (Kd.R_reads' HO_5.out).2.2 x10_2 p329 q329
   cases e329
   replace p329 := eq_true p329
   replace q329 := eq_true q329
   have p330 : 0 ≤ (x11_3 : Int) := of_decide_eq_true sqH
   have q330 : x11_3 < (x5_1.length : Int) := of_decide_eq_true sqH
   obtain ⟨ad330, e330, hx330_0, hx330_1⟩ := at_T59 (Kd.R_reads' HO_5.out).2.2 x11_3 p330 q330
   obtain rfl : ad329 = ad330 := (by injection e330)
   replace p330 := eq_true p330
   replace q330 := eq_true q330
   obtain ⟨Ao54, co54, eo54⟩ := Kd.R_slice HO_6.out
   subst eo54
   have p331 : 0 ≤ (x10_2 : Int) := of_decide_eq_true sqH
   have q331 : x10_2 < (x6_1.length : Int) := of_decide_eq_true sqH
   obtain ⟨ad331, e331, hx331_0⟩ := Kd.at_int (Kd.R_reads' HO_6.out).2.2 x10_2 p331 q331
   cases e331
   replace p331 := eq_true p331
   replace q331 := eq_true q331
   have p332 : 0 ≤ (x11_3 : Int) := of_decide_eq_true sqH
   have q332 : x11_3 < (x6_1.length : Int) := of_decide_eq_true sqH
   obtain ⟨ad332, e332, hx332_0⟩ := Kd.at_int (Kd.R_reads' HO_6.out).2.2 x11_3 p332 q332
   obtain rfl : ad331 = ad332 := (by injection e332)
   replace p332 := eq_true p332
   replace q332 := eq_true q332
   have p333 : 0 ≤ (x10_2 : Int) := of_decide_eq_true sqH
   have q333 : x10_2 < (x5_1.length : Int) := of_decide_eq_true sqH
   obtain ⟨ad333, e333, hx333_0, hx333_1⟩ := at_T59 (Kd.R_reads' HO_5.out).2.2 x10_2 p333 q333
   obtain rfl : ad329 = ad333 := (by injection e333)
   replace p333 := eq_true p333
   replace q333 := eq_true q333
   have p334 : 0 ≤ (x11_3 : Int) := of_decide_eq_true sqH
   have q334 : x11_3 < (x5_1.length : Int) := of_decide_eq_true sqH
   obtain ⟨ad334, e334, hx334_0, hx334_1⟩ := at_T59 (Kd.R_reads' HO_5.out).2.2 x11_3 p334 q334
   obtain rfl : ad329 = ad334 := (by injection e334)
   replace p334 := eq_true p334
   replace q334 := eq_true q334
   go_wp2
   repeat (go_quiet (fail); try go_wp2)
   go_roundg k3
   case measure => have := HK1.out; have := HK2.out; have := HK3.out; omega
   case rel => exact ⟨(wrap64 (x11_3 + 1)), sqI, H', ⟨by have := HK1.out; have := HK2.out; have := HK3.out; omega⟩, ⟨sqR HO_5.out⟩, ⟨sqR HO_6.out⟩, ⟨sqK BK300.out⟩, ⟨sqB1 HB.out GE300.out⟩⟩
 rw [if_pos c6] at H
 have c6b0 : decide (x7_1 < (t301.length : Int)) = true := decide_eq_true c6
 clear c6
 by_cases c7 : 0 ≤ x7_1
 rotate_left
 · rw [if_neg c7] at H
   exact absurd H (by simp)
 rw [if_pos c7] at H
 have c7b0 : decide (0 ≤ x7_1) = true := decide_eq_true c7
 clear c7
 replace H := Option.bind_eq_some_iff.mp H
 obtain ⟨t308, A80, H⟩ := H
 replace H : (if t308 = true then (some true) else (boarderref13_Twice.l1 k1 t301 t304 x5_1 x6_1 x7_1 0)) = some r := H
 have A8 := Aside0.mk A80
 clear A80
 by_cases c9 : t308 = true
 · subst c9
   have H1 : (some true) = some r := by rw [if_pos rfl] at H; exact H
   clear H
   have H := H1
   clear H1
   obtain rfl := Option.some.inj H
   obtain ⟨Ao10, co10, eo10⟩ := Kd.N_slice HO_3.out
   subst eo10
   have p307 : 0 ≤ (x7_1 : Int) := of_decide_eq_true sqH
   have q307 : x7_1 < (t301.length : Int) := of_decide_eq_true sqH
   obtain ⟨ad307, A307_2, c307_2, A307_3, c307_3, e307, hx307_0, hx307_1, hx307_2, hx307_3, hx307_4, hx307_5, hx307_6, hl307_2, hi307_2, hl307_3, hi307_3⟩ := at_T57 (Kd.N_reads' HO_3.out).2.2 x7_1 p307 q307
   cases e307
   obtain ⟨ce307, hce307, hMe307, hcc307⟩ := Kd.N_get HO_3.out z57 x7_1 p307 (by first | exact q307 | exact of_decide_eq_true sqH | (have e_ := (Kd.N_reads' HO_3.out).1; omega))
   obtain ⟨ua307_2, uc307_2, ua307_3, uc307_3, rfl, ul307_2, ge307_2, ul307_3, ge307_3⟩ := k57_openF hMe307
   have hv307_2 := hcc307 2 _ rfl
   rw [add_field _ _ 2 (by omega)] at hv307_2
   replace hv307_2 := Option.some.inj (hv307_2.symm.trans hx307_2)
   injection hv307_2 with hva_ hvn_ hvc_
   rw [hva_] at ge307_2
   rw [hvc_] at ul307_2
   have HL307_2 := sqM (show Kd.V k62 62 _ w.heap.size _ _ ((rd_T57 t301 x7_1).f2) from Kd.V_mk ul307_2 ge307_2)
   clear hva_ hvn_ hvc_ ge307_2 ul307_2
   have hv307_3 := hcc307 3 _ rfl
   rw [add_field _ _ 3 (by omega)] at hv307_3
   replace hv307_3 := Option.some.inj (hv307_3.symm.trans hx307_3)
   injection hv307_3 with hva_ hvn_ hvc_
   rw [hva_] at ge307_3
   rw [hvc_] at ul307_3
   have HL307_3 := sqM (show Kd.V k59 59 _ w.heap.size _ _ ((rd_T57 t301 x7_1).f3) from Kd.V_mk ul307_3 ge307_3)
   clear hva_ hvn_ hvc_ ge307_3 ul307_3
   clear hcc307 hce307
   have HR307_2 := Aside0.mk hi307_2
   have HC307_2 := Aside0.mk hl307_2
   clear hi307_2 hl307_2
   have HR307_3 := Aside0.mk hi307_3
   have HC307_3 := Aside0.mk hl307_3
   clear hi307_3 hl307_3
   replace p307 := eq_true p307
   replace q307 := eq_true q307
   go_wp2_with (first | (go_at_call 73; (with_reducible refine (boarderref13_Pooled.calls _ _ _ _ _ _ _ _ _ _ _ _ _ _ ?side1 ?side2 ?side3 ?side4 A8.out).mono ?_); (case side1 => repeat (first | exact (sqC HR307_2.out) | (with_reducible refine Kd.C_alloc ?_ _) | (with_reducible refine Kd.C_drewN ?_ _) | (with_reducible refine Kd.C_drew ?_))); (case side2 => exact HC307_2.out); (case side3 => repeat (first | exact (sqC HR307_3.out) | (with_reducible refine Kd.C_alloc ?_ _) | (with_reducible refine Kd.C_drewN ?_ _) | (with_reducible refine Kd.C_drew ?_))); (case side4 => exact HC307_3.out); rintro e w11 ⟨rfl, hb⟩; replace HO_3 := sqM (Kd.N_below (sqN HO_3.out) hb); replace HO_4 := sqM (Kd.R_below (sqR HO_4.out) hb); replace HO_5 := sqM (Kd.R_below (sqR HO_5.out) hb); replace HO_6 := sqM (Kd.R_below (sqR HO_6.out) hb); replace HL307_2 := sqM (Kd.V_below (sqV HL307_2.out) hb); replace HL307_3 := sqM (Kd.V_below (sqV HL307_3.out) hb); replace BK300 := sqM (blk_below (sqK BK300.out) hb); replace HR307_2 := sqM (Kd.C_below (sqC HR307_2.out) hb); replace HR307_3 := sqM (Kd.C_below (sqC HR307_3.out) hb); replace HB := sqM (below_step (sqB1 HB.out GE300.out) hb); (try clear hb); (try clear hb2); (try clear hk); (try clear hi)))
   go_ret
   exact ⟨sqE, sqB1 HB.out GE300.out⟩
 replace c9 := Bool.eq_false_iff.mpr c9
 subst c9
 have H1 : (boarderref13_Twice.l1 k1 t301 t304 x5_1 x6_1 x7_1 0) = some r := by rw [if_neg (show ¬ (false = true) by decide)] at H; exact H
 clear H
 have H := H1
 clear H1
 have H' := Aside0.mk H
 clear H
 obtain ⟨Ao12, co12, eo12⟩ := Kd.N_slice HO_3.out
 subst eo12
 have p307 : 0 ≤ (x7_1 : Int) := of_decide_eq_true sqH
 have q307 : x7_1 < (t301.length : Int) := of_decide_eq_true sqH
 obtain ⟨ad307, A307_2, c307_2, A307_3, c307_3, e307, hx307_0, hx307_1, hx307_2, hx307_3, hx307_4, hx307_5, hx307_6, hl307_2, hi307_2, hl307_3, hi307_3⟩ := at_T57 (Kd.N_reads' HO_3.out).2.2 x7_1 p307 q307
 cases e307
 obtain ⟨ce307, hce307, hMe307, hcc307⟩ := Kd.N_get HO_3.out z57 x7_1 p307 (by first | exact q307 | exact of_decide_eq_true sqH | (have e_ := (Kd.N_reads' HO_3.out).1; omega))
 obtain ⟨ua307_2, uc307_2, ua307_3, uc307_3, rfl, ul307_2, ge307_2, ul307_3, ge307_3⟩ := k57_openF hMe307
 have hv307_2 := hcc307 2 _ rfl
 rw [add_field _ _ 2 (by omega)] at hv307_2
 replace hv307_2 := Option.some.inj (hv307_2.symm.trans hx307_2)
 injection hv307_2 with hva_ hvn_ hvc_
 rw [hva_] at ge307_2
 rw [hvc_] at ul307_2
 have HL307_2 := sqM (show Kd.V k62 62 _ w.heap.size _ _ ((rd_T57 t301 x7_1).f2) from Kd.V_mk ul307_2 ge307_2)
 clear hva_ hvn_ hvc_ ge307_2 ul307_2
 have hv307_3 := hcc307 3 _ rfl
 rw [add_field _ _ 3 (by omega)] at hv307_3
 replace hv307_3 := Option.some.inj (hv307_3.symm.trans hx307_3)
 injection hv307_3 with hva_ hvn_ hvc_
 rw [hva_] at ge307_3
 rw [hvc_] at ul307_3
 have HL307_3 := sqM (show Kd.V k59 59 _ w.heap.size _ _ ((rd_T57 t301 x7_1).f3) from Kd.V_mk ul307_3 ge307_3)
 clear hva_ hvn_ hvc_ ge307_3 ul307_3
 clear hcc307 hce307
 have HR307_2 := Aside0.mk hi307_2
 have HC307_2 := Aside0.mk hl307_2
 clear hi307_2 hl307_2
 have HR307_3 := Aside0.mk hi307_3
 have HC307_3 := Aside0.mk hl307_3
 clear hi307_3 hl307_3
 replace p307 := eq_true p307
 replace q307 := eq_true q307
 go_wp2_with (first | (go_at_call 73; (with_reducible refine (boarderref13_Pooled.calls _ _ _ _ _ _ _ _ _ _ _ _ _ _ ?side1 ?side2 ?side3 ?side4 A8.out).mono ?_); (case side1 => repeat (first | exact (sqC HR307_2.out) | (with_reducible refine Kd.C_alloc ?_ _) | (with_reducible refine Kd.C_drewN ?_ _) | (with_reducible refine Kd.C_drew ?_))); (case side2 => exact HC307_2.out); (case side3 => repeat (first | exact (sqC HR307_3.out) | (with_reducible refine Kd.C_alloc ?_ _) | (with_reducible refine Kd.C_drewN ?_ _) | (with_reducible refine Kd.C_drew ?_))); (case side4 => exact HC307_3.out); rintro e w13 ⟨rfl, hb⟩; replace HO_3 := sqM (Kd.N_below (sqN HO_3.out) hb); replace HO_4 := sqM (Kd.R_below (sqR HO_4.out) hb); replace HO_5 := sqM (Kd.R_below (sqR HO_5.out) hb); replace HO_6 := sqM (Kd.R_below (sqR HO_6.out) hb); replace HL307_2 := sqM (Kd.V_below (sqV HL307_2.out) hb); replace HL307_3 := sqM (Kd.V_below (sqV HL307_3.out) hb); replace BK300 := sqM (blk_below (sqK BK300.out) hb); replace HR307_2 := sqM (Kd.C_below (sqC HR307_2.out) hb); replace HR307_3 := sqM (Kd.C_below (sqC HR307_3.out) hb); replace HB := sqM (below_step (sqB1 HB.out GE300.out) hb); (try clear hb); (try clear hb2); (try clear hk); (try clear hi)))
 go_loopg [8] k1 (fun kq v8 w' => ∃ (x8_2 : Int), v8 = .int .i64 x8_2 ∧ Aside0 (boarderref13_Twice.l1 kq t301 t304 x5_1 x6_1 x7_1 x8_2 = some r) ∧ Aside0 (kq ≤ k1) ∧ Aside0 (Kd.N k57 57 w' w.heap.size (fun k_ => some k_ ≠ (v305 : Value).ownBlock ∧ some k_ ≠ (u5 : Value).ownBlock ∧ some k_ ≠ (u6 : Value).ownBlock ∧ k_ ≠ gb300) (.slice (some ad307) t301.length co12) t301) ∧ Aside0 (Kd.R (Kd.int .i64) 3 w' w.heap.size (fun k_ => some k_ ≠ (u6 : Value).ownBlock) v305 t304) ∧ Aside0 (Kd.R k59 59 w' w.heap.size (fun _ => True) u5 x5_1) ∧ Aside0 (Kd.R (Kd.int .i64) 3 w' w.heap.size (fun k_ => some k_ ≠ (v305 : Value).ownBlock) u6 x6_1) ∧ Aside0 (w'.heap[gb300]? = some (.cells #[.int .i64 a0_0, .int .i64 a0_1, (.slice A0_2 l0_2.length c0_2)] 24 (0, 0))) ∧ Aside0 (Kd.C k62 w' A307_2 ((rd_T57 t301 x7_1).f2).length ((rd_T57 t301 x7_1).f2)) ∧ Aside0 (Kd.C k59 w' A307_3 ((rd_T57 t301 x7_1).f3).length ((rd_T57 t301 x7_1).f3)) ∧ Aside0 (Below w.heap.size w w'))
 case atStart => exact ⟨(0), sqI, H', ⟨Nat.le_refl _⟩, ⟨sqN HO_3.out⟩, ⟨sqR HO_4.out⟩, ⟨sqR HO_5.out⟩, ⟨sqR HO_6.out⟩, ⟨sqK BK300.out⟩, ⟨sqC HR307_2.out⟩, ⟨sqC HR307_3.out⟩, ⟨sqB1 HB.out GE300.out⟩⟩
 clear H'
 try clear p2
 try clear c3
 try clear p3
 try clear q3
 try clear hx3
 try clear c4
 try clear c6
 try clear c6b0
 try clear c7
 try clear c7b0
 try clear c9
 try clear hcz4_0 hcz4_1 hcz4_2 hfz4_0 hfz4_1 hfz4_2
 try clear hx307_0 hx307_1 hx307_2 hx307_3 hx307_4 hx307_5 hx307_6
 try clear p2
 try clear p307
 try clear q307
 obtain ⟨x8_2, rfl, HA, HK2, HO_3, HO_4, HO_5, HO_6, BK300, HR307_2, HR307_3, HB⟩ := hrel
 cases gk with
 | zero => exact absurd HA.out (by simp [boarderref13_Twice.l1])
 | succ k2 => ?_
 have H := HA.out
 clear HA
 simp only [boarderref13_Twice.l1] at H
 by_cases c14 : x8_2 < x7_1
 rotate_left
 · rw [if_neg c14] at H
   have c14b0 : decide (x8_2 < x7_1) = false := decide_eq_false c14
   clear c14
   have H' := Aside0.mk H
   clear H
   go_wp2
   repeat (go_quiet (fail); try go_wp2)
   go_loopg [5, 6, 9] k2 (fun kq v5 v6 v9 w' => ∃ (x5_3 : List (S59)) (x6_3 : List Int) (x9_3 : Int), v9 = .int .i64 x9_3 ∧ Aside0 (boarderref13_Twice.l2 kq t301 t304 x5_3 x6_3 x7_1 x9_3 = some r) ∧ Aside0 (kq ≤ k2) ∧ Aside0 (Kd.N k57 57 w' w.heap.size (fun k_ => some k_ ≠ (v305 : Value).ownBlock ∧ some k_ ≠ (v5 : Value).ownBlock ∧ some k_ ≠ (v6 : Value).ownBlock ∧ k_ ≠ gb300) (.slice (some ad307) t301.length co12) t301) ∧ Aside0 (Kd.R (Kd.int .i64) 3 w' w.heap.size (fun k_ => some k_ ≠ (v6 : Value).ownBlock) v305 t304) ∧ Aside0 (Kd.R k59 59 w' w.heap.size (fun _ => True) v5 x5_3) ∧ Aside0 (Kd.R (Kd.int .i64) 3 w' w.heap.size (fun k_ => some k_ ≠ (v305 : Value).ownBlock) v6 x6_3) ∧ Aside0 (w'.heap[gb300]? = some (.cells #[.int .i64 a0_0, .int .i64 a0_1, (.slice A0_2 l0_2.length c0_2)] 24 (0, 0))) ∧ Aside0 (Below w.heap.size w w'))
   case atStart => exact ⟨(x5_1), (x6_1), (0), sqI, H', ⟨Nat.le_refl _⟩, ⟨sqN HO_3.out⟩, ⟨sqR HO_4.out⟩, ⟨sqR HO_5.out⟩, ⟨sqR HO_6.out⟩, ⟨sqK BK300.out⟩, ⟨sqB1 HB.out GE300.out⟩⟩
   clear H'
   try clear c1
   try clear c2
   try clear p2
   try clear c3
   try clear p3
   try clear q3
   try clear hx3
   try clear p6
   try clear c14
   try clear c14b0
   try clear c15
   try clear c16
   try clear c17
   try clear c18
   try clear c21
   try clear c22
   try clear c23
   try clear c23b0
   try clear c23b1
   try clear c25
   try clear c25b0
   try clear c26
   try clear c26b0
   try clear c26b1
   try clear hx309_0 hx309_1 hx309_2 hx309_3 hx309_4 hx309_5 hx309_6
   try clear hx310_0 hx310_1 hx310_2 hx310_3 hx310_4 hx310_5 hx310_6
   try clear hx311_0 hx311_1 hx311_2 hx311_3 hx311_4 hx311_5 hx311_6
   try clear hx312_0 hx312_1 hx312_2 hx312_3 hx312_4 hx312_5 hx312_6
   try clear hx314_0
   try clear hx315_0
   try clear hx316_0 hx316_1 hx316_2 hx316_3 hx316_4 hx316_5 hx316_6
   try clear hx317_0 hx317_1 hx317_2 hx317_3 hx317_4 hx317_5 hx317_6
   try clear hx318_0 hx318_1 hx318_2 hx318_3 hx318_4 hx318_5 hx318_6
   try clear p309
   try clear p310
   try clear p311
   try clear p312
   try clear p314
   try clear p315
   try clear p316
   try clear p317
   try clear p318
   try clear q309
   try clear q310
   try clear q311
   try clear q312
   try clear q314
   try clear q315
   try clear q316
   try clear q317
   try clear q318
   obtain ⟨x5_3, x6_3, x9_3, rfl, HA, HK3, HO_3, HO_4, HO_5, HO_6, BK300, HB⟩ := hrel
   cases gk with
   | zero => exact absurd HA.out (by simp [boarderref13_Twice.l2])
   | succ k3 => ?_
   have H := HA.out
   clear HA
   simp only [boarderref13_Twice.l2] at H
   by_cases c30 : 0 ≤ x7_1
   rotate_left
   · rw [if_neg c30] at H
     exact absurd H (by simp)
   rw [if_pos c30] at H
   have c30b0 : decide (0 ≤ x7_1) = true := decide_eq_true c30
   clear c30
   by_cases c31 : x7_1 < (t301.length : Int)
   rotate_left
   · rw [if_neg c31] at H
     exact absurd H (by simp)
   rw [if_pos c31] at H
   have c31b0 : decide (x7_1 < (t301.length : Int)) = true := decide_eq_true c31
   clear c31
   by_cases c32 : x9_3 < (((rd_T57 t301 x7_1).f3).length : Int)
   rotate_left
   · rw [if_neg c32] at H
     have c32b0 : decide (x9_3 < (((rd_T57 t301 x7_1).f3).length : Int)) = false := decide_eq_false c32
     clear c32
     have H' := Aside0.mk H
     clear H
     have p319 : 0 ≤ (x7_1 : Int) := of_decide_eq_true sqH
     have q319 : x7_1 < (t301.length : Int) := of_decide_eq_true sqH
     obtain ⟨ad319, A319_2, c319_2, A319_3, c319_3, e319, hx319_0, hx319_1, hx319_2, hx319_3, hx319_4, hx319_5, hx319_6, hl319_2, hi319_2, hl319_3, hi319_3⟩ := at_T57 (Kd.N_reads' HO_3.out).2.2 x7_1 p319 q319
     obtain rfl : ad307 = ad319 := (by injection e319)
     obtain ⟨ce319, hce319, hMe319, hcc319⟩ := Kd.N_get HO_3.out z57 x7_1 p319 (by first | exact q319 | exact of_decide_eq_true sqH | (have e_ := (Kd.N_reads' HO_3.out).1; omega))
     obtain ⟨ua319_2, uc319_2, ua319_3, uc319_3, rfl, ul319_2, ge319_2, ul319_3, ge319_3⟩ := k57_openF hMe319
     have hv319_2 := hcc319 2 _ rfl
     rw [add_field _ _ 2 (by omega)] at hv319_2
     replace hv319_2 := Option.some.inj (hv319_2.symm.trans hx319_2)
     injection hv319_2 with hva_ hvn_ hvc_
     rw [hva_] at ge319_2
     rw [hvc_] at ul319_2
     have HL319_2 := sqM (show Kd.V k62 62 _ w.heap.size _ _ ((rd_T57 t301 x7_1).f2) from Kd.V_mk ul319_2 ge319_2)
     clear hva_ hvn_ hvc_ ge319_2 ul319_2
     have hv319_3 := hcc319 3 _ rfl
     rw [add_field _ _ 3 (by omega)] at hv319_3
     replace hv319_3 := Option.some.inj (hv319_3.symm.trans hx319_3)
     injection hv319_3 with hva_ hvn_ hvc_
     rw [hva_] at ge319_3
     rw [hvc_] at ul319_3
     have HL319_3 := sqM (show Kd.V k59 59 _ w.heap.size _ _ ((rd_T57 t301 x7_1).f3) from Kd.V_mk ul319_3 ge319_3)
     clear hva_ hvn_ hvc_ ge319_3 ul319_3
     clear hcc319 hce319
     have HR319_2 := sqM hi319_2
     have HC319_2 := sqM hl319_2
     clear hi319_2 hl319_2
     have HR319_3 := sqM hi319_3
     have HC319_3 := sqM hl319_3
     clear hi319_3 hl319_3
     replace p319 := eq_true p319
     replace q319 := eq_true q319
     go_wp2
     repeat (go_quiet (fail); try go_wp2)
     go_roundg k3
     case measure => have := HK1.out; have := HK2.out; have := HK3.out; omega
     case rel => exact ⟨(x5_3), (x6_3), (wrap64 (x7_1 + 1)), sqI, H', ⟨by have := HK1.out; have := HK2.out; have := HK3.out; omega⟩, ⟨sqN HO_3.out⟩, ⟨sqR HO_4.out⟩, ⟨sqR HO_5.out⟩, ⟨sqR HO_6.out⟩, ⟨sqK BK300.out⟩, ⟨sqB1 HB.out GE300.out⟩⟩
   rw [if_pos c32] at H
   have c32b0 : decide (x9_3 < (((rd_T57 t301 x7_1).f3).length : Int)) = true := decide_eq_true c32
   clear c32
   by_cases c33 : 0 ≤ x9_3
   rotate_left
   · rw [if_neg c33] at H
     exact absurd H (by simp)
   rw [if_pos c33] at H
   have c33b0 : decide (0 ≤ x9_3) = true := decide_eq_true c33
   clear c33
   by_cases c34 : x5_3.length < 5864062014805
   rotate_left
   · rw [if_neg c34] at H
     exact absurd H (by simp)
   rw [if_pos c34] at H
   have LMc34 := Aside0.mk c34
   clear c34
   obtain ⟨y322, hy322⟩ : ∃ y_ : List (S59), y_ = (x5_3 ++ [(⟨(rd_T59 ((rd_T57 t301 x7_1).f3) x9_3).f0, (rd_T59 ((rd_T57 t301 x7_1).f3) x9_3).f1⟩ : S59)]) := ⟨_, rfl⟩
   replace H : (if x7_1 < (t304.length : Int) then (if x6_3.length < 17592186044416 then (boarderref13_Twice.l2 k3 t301 t304 y322 (x6_3 ++ [rd t304 x7_1]) x7_1 (wrap64 (x9_3 + 1))) else (none)) else (none)) = some r := by first | (rw [hy322]; with_reducible exact H) | (have H2_ := (Option.bind_some _ _).symm.trans H; rw [hy322]; with_reducible exact H2_) | (have H2_ := (Option.bind_some _ _).symm.trans H; with_reducible exact H2_) | with_reducible exact H | (rw [hy322]; exact H) | exact H
   have Ny322 := sqM hy322
   clear hy322
   by_cases c35 : x7_1 < (t304.length : Int)
   rotate_left
   · rw [if_neg c35] at H
     exact absurd H (by simp)
   rw [if_pos c35] at H
   have c35b0 : decide (x7_1 < (t304.length : Int)) = true := decide_eq_true c35
   clear c35
   by_cases c36 : x6_3.length < 17592186044416
   rotate_left
   · rw [if_neg c36] at H
     exact absurd H (by simp)
   rw [if_pos c36] at H
   have LMc36 := sqM c36
   clear c36
   obtain ⟨y326, hy326⟩ : ∃ y_ : List Int, y_ = (x6_3 ++ [rd t304 x7_1]) := ⟨_, rfl⟩
   replace H : (boarderref13_Twice.l2 k3 t301 t304 y322 y326 x7_1 (wrap64 (x9_3 + 1))) = some r := by first | (rw [hy326]; with_reducible exact H) | (have H2_ := (Option.bind_some _ _).symm.trans H; rw [hy326]; with_reducible exact H2_) | (have H2_ := (Option.bind_some _ _).symm.trans H; with_reducible exact H2_) | with_reducible exact H | (rw [hy326]; exact H) | exact H
   have Ny326 := sqM hy326
   clear hy326
   have H' := Aside0.mk H
   clear H
   have p319 : 0 ≤ (x7_1 : Int) := of_decide_eq_true sqH
   have q319 : x7_1 < (t301.length : Int) := of_decide_eq_true sqH
   obtain ⟨ad319, A319_2, c319_2, A319_3, c319_3, e319, hx319_0, hx319_1, hx319_2, hx319_3, hx319_4, hx319_5, hx319_6, hl319_2, hi319_2, hl319_3, hi319_3⟩ := at_T57 (Kd.N_reads' HO_3.out).2.2 x7_1 p319 q319
   obtain rfl : ad307 = ad319 := (by injection e319)
   obtain ⟨ce319, hce319, hMe319, hcc319⟩ := Kd.N_get HO_3.out z57 x7_1 p319 (by first | exact q319 | exact of_decide_eq_true sqH | (have e_ := (Kd.N_reads' HO_3.out).1; omega))
   obtain ⟨ua319_2, uc319_2, ua319_3, uc319_3, rfl, ul319_2, ge319_2, ul319_3, ge319_3⟩ := k57_openF hMe319
   have hv319_2 := hcc319 2 _ rfl
   rw [add_field _ _ 2 (by omega)] at hv319_2
   replace hv319_2 := Option.some.inj (hv319_2.symm.trans hx319_2)
   injection hv319_2 with hva_ hvn_ hvc_
   rw [hva_] at ge319_2
   rw [hvc_] at ul319_2
   have HL319_2 := sqM (show Kd.V k62 62 _ w.heap.size _ _ ((rd_T57 t301 x7_1).f2) from Kd.V_mk ul319_2 ge319_2)
   clear hva_ hvn_ hvc_ ge319_2 ul319_2
   have hv319_3 := hcc319 3 _ rfl
   rw [add_field _ _ 3 (by omega)] at hv319_3
   replace hv319_3 := Option.some.inj (hv319_3.symm.trans hx319_3)
   injection hv319_3 with hva_ hvn_ hvc_
   rw [hva_] at ge319_3
   rw [hvc_] at ul319_3
   have HL319_3 := sqM (show Kd.V k59 59 _ w.heap.size _ _ ((rd_T57 t301 x7_1).f3) from Kd.V_mk ul319_3 ge319_3)
   clear hva_ hvn_ hvc_ ge319_3 ul319_3
   clear hcc319 hce319
   have HR319_2 := sqM hi319_2
   have HC319_2 := sqM hl319_2
   clear hi319_2 hl319_2
   have HR319_3 := sqM hi319_3
   have HC319_3 := sqM hl319_3
   clear hi319_3 hl319_3
   replace p319 := eq_true p319
   replace q319 := eq_true q319
   have p320 : 0 ≤ (x7_1 : Int) := of_decide_eq_true sqH
   have q320 : x7_1 < (t301.length : Int) := of_decide_eq_true sqH
   obtain ⟨ad320, A320_2, c320_2, A320_3, c320_3, e320, hx320_0, hx320_1, hx320_2, hx320_3, hx320_4, hx320_5, hx320_6, hl320_2, hi320_2, hl320_3, hi320_3⟩ := at_T57 (Kd.N_reads' HO_3.out).2.2 x7_1 p320 q320
   obtain rfl : ad307 = ad320 := (by injection e320)
   obtain ⟨ce320, hce320, hMe320, hcc320⟩ := Kd.N_get HO_3.out z57 x7_1 p320 (by first | exact q320 | exact of_decide_eq_true sqH | (have e_ := (Kd.N_reads' HO_3.out).1; omega))
   obtain ⟨ua320_2, uc320_2, ua320_3, uc320_3, rfl, ul320_2, ge320_2, ul320_3, ge320_3⟩ := k57_openF hMe320
   have hv320_2 := hcc320 2 _ rfl
   rw [add_field _ _ 2 (by omega)] at hv320_2
   replace hv320_2 := Option.some.inj (hv320_2.symm.trans hx320_2)
   injection hv320_2 with hva_ hvn_ hvc_
   rw [hva_] at ge320_2
   rw [hvc_] at ul320_2
   have HL320_2 := sqM (show Kd.V k62 62 _ w.heap.size _ _ ((rd_T57 t301 x7_1).f2) from Kd.V_mk ul320_2 ge320_2)
   clear hva_ hvn_ hvc_ ge320_2 ul320_2
   have hv320_3 := hcc320 3 _ rfl
   rw [add_field _ _ 3 (by omega)] at hv320_3
   replace hv320_3 := Option.some.inj (hv320_3.symm.trans hx320_3)
   injection hv320_3 with hva_ hvn_ hvc_
   rw [hva_] at ge320_3
   rw [hvc_] at ul320_3
   have HL320_3 := sqM (show Kd.V k59 59 _ w.heap.size _ _ ((rd_T57 t301 x7_1).f3) from Kd.V_mk ul320_3 ge320_3)
   clear hva_ hvn_ hvc_ ge320_3 ul320_3
   clear hcc320 hce320
   have HR320_2 := sqM hi320_2
   have HC320_2 := sqM hl320_2
   clear hi320_2 hl320_2
   have HR320_3 := sqM hi320_3
   have HC320_3 := sqM hl320_3
   clear hi320_3 hl320_3
   replace p320 := eq_true p320
   replace q320 := eq_true q320
   have ea_ := Option.some.inj (hx319_2.symm.trans hx320_2)
   injection ea_ with ea_ en_ ec_
   subst ea_
   subst ec_
   clear en_
   have ea_ := Option.some.inj (hx319_3.symm.trans hx320_3)
   injection ea_ with ea_ en_ ec_
   subst ea_
   subst ec_
   clear en_
   have p321 : 0 ≤ (x9_3 : Int) := of_decide_eq_true sqH
   have q321 : x9_3 < (((rd_T57 t301 x7_1).f3).length : Int) := of_decide_eq_true sqH
   obtain ⟨ad321, e321, hx321_0, hx321_1⟩ := at_T59 (sqC HR320_3.out) x9_3 p321 q321
   cases e321
   replace p321 := eq_true p321
   replace q321 := eq_true q321
   go_wp2_with (first | ((with_reducible refine gate_builtin (b := .append) (xs := #[.tmp 94, .tmp 103]) rfl ?_); at_builtin; refine Kd.R_append k59 (w0 := w) w.heap.size rfl (.tmp 94) (.tmp 103) 55 59 (.agg #[(.string ⟨#[]⟩), (.int .i64 0)]) 24 rfl Try.underlying55 info59 rfl (by decide) (by omega) u5 x5_3 (⟨(rd_T59 ((rd_T57 t301 x7_1).f3) x9_3).f0, (rd_T59 ((rd_T57 t301 x7_1).f3) x9_3).f1⟩ : S59) [.string ((rd_T59 ((rd_T57 t301 x7_1).f3) x9_3).f0), .int .i64 ((rd_T59 ((rd_T57 t301 x7_1).f3) x9_3).f1)] (fun _ => True) (fun _ => False) rfl rfl ?aP (fun _ hk => hk.elim) ?aF ?aO ?aB ?aS ?aL ?_; (case aP => exact k59_mkM _ _ _ (⟨(rd_T59 ((rd_T57 t301 x7_1).f3) x9_3).f0, (rd_T59 ((rd_T57 t301 x7_1).f3) x9_3).f1⟩ : S59)); (case aB => exact (sqB1 HB.out GE300.out)); (case aF => exact (fun _ _ => trivial)); (case aO => exact (sqR HO_5.out)); (case aS => exact (below_size (sqB1 HB.out GE300.out))); (case aL => have := LMc34.out; omega); intro v323 w37 ho hb hg hat; rw [← Ny322.out] at ho; have HO324 := sqM (ho); replace HO_3 := sqM (Kd.N_afterv (ok := (fun k_ => some k_ ≠ (v305 : Value).ownBlock ∧ some k_ ≠ (u6 : Value).ownBlock ∧ k_ ≠ gb300)) (by refine sqN ?_; exact Kd.N_mono HO_3.out (fun _ hk => ⟨⟨hk.1, ⟨hk.2.2.1, hk.2.2.2⟩⟩, hk.2.1⟩)) hg hat); replace HO_4 := sqM (Kd.R_over' (sqR HO_4.out) (Kd.R_typed (sqR HO_5.out)) (by decide) hg); replace HO_6 := sqM (Kd.R_over' (sqR HO_6.out) (Kd.R_typed (sqR HO_5.out)) (by decide) hg); replace BK300 := sqM (blk_grown (g := gb300) (o := .cells #[.int .i64 a0_0, .int .i64 a0_1, .slice A0_2 l0_2.length c0_2] 24 (0, 0)) (sqK BK300.out) hg (Kd.R_ne HO_5.out BK300.out (by decide))); replace HL319_2 := sqM (Kd.V_afterv (ok := (fun k_ => some k_ ≠ (.slice (some ad307) t301.length co12 : Value).ownBlock ∧ some k_ ≠ (v305 : Value).ownBlock ∧ some k_ ≠ (u6 : Value).ownBlock ∧ k_ ≠ gb300)) (by refine sqV ?_; exact Kd.V_mono HL319_2.out (fun _ hk => ⟨⟨hk.2, ⟨hk.1.1, ⟨hk.1.2.2.1, hk.1.2.2.2⟩⟩⟩, hk.1.2.1⟩)) hg hat); replace HL319_3 := sqM (Kd.V_afterv (ok := (fun k_ => some k_ ≠ (.slice (some ad307) t301.length co12 : Value).ownBlock ∧ some k_ ≠ (v305 : Value).ownBlock ∧ some k_ ≠ (u6 : Value).ownBlock ∧ k_ ≠ gb300)) (by refine sqV ?_; exact Kd.V_mono HL319_3.out (fun _ hk => ⟨⟨hk.2, ⟨hk.1.1, ⟨hk.1.2.2.1, hk.1.2.2.2⟩⟩⟩, hk.1.2.1⟩)) hg hat); replace HL320_2 := sqM (Kd.V_afterv (ok := (fun k_ => some k_ ≠ (.slice (some ad307) t301.length co12 : Value).ownBlock ∧ some k_ ≠ (v305 : Value).ownBlock ∧ some k_ ≠ (u6 : Value).ownBlock ∧ k_ ≠ gb300)) (by refine sqV ?_; exact Kd.V_mono HL320_2.out (fun _ hk => ⟨⟨hk.2, ⟨hk.1.1, ⟨hk.1.2.2.1, hk.1.2.2.2⟩⟩⟩, hk.1.2.1⟩)) hg hat); replace HL320_3 := sqM (Kd.V_afterv (ok := (fun k_ => some k_ ≠ (.slice (some ad307) t301.length co12 : Value).ownBlock ∧ some k_ ≠ (v305 : Value).ownBlock ∧ some k_ ≠ (u6 : Value).ownBlock ∧ k_ ≠ gb300)) (by refine sqV ?_; exact Kd.V_mono HL320_3.out (fun _ hk => ⟨⟨hk.2, ⟨hk.1.1, ⟨hk.1.2.2.1, hk.1.2.2.2⟩⟩⟩, hk.1.2.1⟩)) hg hat); replace HB := sqM (hb); clear HO_5; clear ho hb hg hat; obtain ⟨Ao38, co38, eo38⟩ := Kd.R_slice HO_4.out; subst eo38; have p325 : 0 ≤ (x7_1 : Int) := of_decide_eq_true sqH; have q325 : x7_1 < (t304.length : Int) := of_decide_eq_true sqH; obtain ⟨ad325, e325, hx325_0⟩ := Kd.at_int (Kd.R_reads' HO_4.out).2.2 x7_1 p325 q325; cases e325; replace p325 := eq_true p325; replace q325 := eq_true q325) | ((with_reducible refine gate_builtin (b := .append) (xs := #[.tmp 105, .tmp 110]) rfl ?_); at_builtin; refine Kd.R_append (Kd.int .i64) (w0 := w) w.heap.size rfl (.tmp 105) (.tmp 110) 67 3 (.int .i64 0) 8 rfl Try.underlying67 info3 rfl (by decide) (by omega) u6 x6_3 (rd t304 x7_1) [.int .i64 (rd t304 x7_1)] (fun k_ => some k_ ≠ (.slice (some ad325) t304.length co38 : Value).ownBlock) (fun _ => False) rfl rfl ?aP (fun _ hk => hk.elim) ?aF ?aO ?aB ?aS ?aL ?_; (case aP => exact rfl); (case aB => exact (sqB1 HB.out GE300.out)); (case aF => exact (fun k_ hk => Kd.fresh' (Kd.R_lt (sqR HO_4.out)) k_ hk)); (case aO => exact (sqR HO_6.out)); (case aS => exact (below_size (sqB1 HB.out GE300.out))); (case aL => have := LMc36.out; omega); intro v327 w39 ho hb hg hat; rw [← Ny326.out] at ho; have HO328 := sqM (ho); replace HO_3 := sqM (Kd.N_afterv (ok := (fun k_ => some k_ ≠ (.slice (some ad325) t304.length co38 : Value).ownBlock ∧ some k_ ≠ (v323 : Value).ownBlock ∧ k_ ≠ gb300)) (by refine sqN ?_; exact Kd.N_mono HO_3.out (fun _ hk => ⟨⟨hk.1.1, ⟨hk.2, hk.1.2.2⟩⟩, hk.1.2.1⟩)) hg hat); replace HO_4 := sqM (Kd.R_after (ok := (fun _ => True)) (by refine sqR ?_; exact Kd.R_mono HO_4.out (fun _ hk => ⟨trivial, hk⟩)) hg hat); replace BK300 := sqM (blk_grown (g := gb300) (o := .cells #[.int .i64 a0_0, .int .i64 a0_1, .slice A0_2 l0_2.length c0_2] 24 (0, 0)) (sqK BK300.out) hg (Kd.R_ne HO_6.out BK300.out (by decide))); replace HL319_2 := sqM (Kd.V_afterv (ok := (fun k_ => some k_ ≠ (.slice (some ad307) t301.length co12 : Value).ownBlock ∧ some k_ ≠ (.slice (some ad325) t304.length co38 : Value).ownBlock ∧ some k_ ≠ (v323 : Value).ownBlock ∧ k_ ≠ gb300)) (by refine sqV ?_; exact Kd.V_mono HL319_2.out (fun _ hk => ⟨⟨hk.1.1, ⟨hk.1.2.1, ⟨hk.2, hk.1.2.2.2⟩⟩⟩, hk.1.2.2.1⟩)) hg hat); replace HL319_3 := sqM (Kd.V_afterv (ok := (fun k_ => some k_ ≠ (.slice (some ad307) t301.length co12 : Value).ownBlock ∧ some k_ ≠ (.slice (some ad325) t304.length co38 : Value).ownBlock ∧ some k_ ≠ (v323 : Value).ownBlock ∧ k_ ≠ gb300)) (by refine sqV ?_; exact Kd.V_mono HL319_3.out (fun _ hk => ⟨⟨hk.1.1, ⟨hk.1.2.1, ⟨hk.2, hk.1.2.2.2⟩⟩⟩, hk.1.2.2.1⟩)) hg hat); replace HL320_2 := sqM (Kd.V_afterv (ok := (fun k_ => some k_ ≠ (.slice (some ad307) t301.length co12 : Value).ownBlock ∧ some k_ ≠ (.slice (some ad325) t304.length co38 : Value).ownBlock ∧ some k_ ≠ (v323 : Value).ownBlock ∧ k_ ≠ gb300)) (by refine sqV ?_; exact Kd.V_mono HL320_2.out (fun _ hk => ⟨⟨hk.1.1, ⟨hk.1.2.1, ⟨hk.2, hk.1.2.2.2⟩⟩⟩, hk.1.2.2.1⟩)) hg hat); replace HL320_3 := sqM (Kd.V_afterv (ok := (fun k_ => some k_ ≠ (.slice (some ad307) t301.length co12 : Value).ownBlock ∧ some k_ ≠ (.slice (some ad325) t304.length co38 : Value).ownBlock ∧ some k_ ≠ (v323 : Value).ownBlock ∧ k_ ≠ gb300)) (by refine sqV ?_; exact Kd.V_mono HL320_3.out (fun _ hk => ⟨⟨hk.1.1, ⟨hk.1.2.1, ⟨hk.2, hk.1.2.2.2⟩⟩⟩, hk.1.2.2.1⟩)) hg hat); replace HO324 := sqM (Kd.R_over' (sqR HO324.out) (Kd.R_typed (sqR HO_6.out)) (by decide) hg); replace HB := sqM (hb); clear HO_6; clear ho hb hg hat))
   go_roundg k3
   case measure => have := HK1.out; have := HK2.out; have := HK3.out; omega
   case rel => exact ⟨(y322), (y326), (wrap64 (x9_3 + 1)), sqI, H', ⟨by have := HK1.out; have := HK2.out; have := HK3.out; omega⟩, ⟨by refine sqN ?_; exact Kd.N_mono HO_3.out (fun _ hk => ⟨hk.1.1, ⟨hk.1.2.1, ⟨hk.2, hk.1.2.2⟩⟩⟩)⟩, ⟨by refine sqR ?_; exact Kd.R_mono HO_4.out (fun _ hk => hk.2)⟩, ⟨sqR HO324.out⟩, ⟨sqR HO328.out⟩, ⟨sqK BK300.out⟩, ⟨sqB1 HB.out GE300.out⟩⟩
 rw [if_pos c14] at H
 have c14b0 : decide (x8_2 < x7_1) = true := decide_eq_true c14
 clear c14
 by_cases c15 : 0 ≤ x7_1
 rotate_left
 · rw [if_neg c15] at H
   exact absurd H (by simp)
 rw [if_pos c15] at H
 have c15b0 : decide (0 ≤ x7_1) = true := decide_eq_true c15
 clear c15
 by_cases c16 : x7_1 < (t301.length : Int)
 rotate_left
 · rw [if_neg c16] at H
   exact absurd H (by simp)
 rw [if_pos c16] at H
 have c16b0 : decide (x7_1 < (t301.length : Int)) = true := decide_eq_true c16
 clear c16
 by_cases c17 : 0 ≤ x8_2
 rotate_left
 · rw [if_neg c17] at H
   exact absurd H (by simp)
 rw [if_pos c17] at H
 have c17b0 : decide (0 ≤ x8_2) = true := decide_eq_true c17
 clear c17
 by_cases c18 : x8_2 < (t301.length : Int)
 rotate_left
 · rw [if_neg c18] at H
   exact absurd H (by simp)
 rw [if_pos c18] at H
 have c18b0 : decide (x8_2 < (t301.length : Int)) = true := decide_eq_true c18
 clear c18
 replace H := Option.bind_eq_some_iff.mp H
 obtain ⟨t313, A190, H⟩ := H
 replace H : (if t313 = true then (some true) else (if x7_1 < (t304.length : Int) then (if x8_2 < (t304.length : Int) then (if (rd t304 x7_1) = (rd t304 x8_2) then (boarderref13_Twice.l1 k2 t301 t304 x5_1 x6_1 x7_1 (wrap64 (x8_2 + 1))) else (if ((rd_T57 t301 x7_1).f4) > 0 then (if ((rd_T57 t301 x7_1).f4) = ((rd_T57 t301 x8_2).f4) then (some true) else (boarderref13_Twice.l1 k2 t301 t304 x5_1 x6_1 x7_1 (wrap64 (x8_2 + 1)))) else (boarderref13_Twice.l1 k2 t301 t304 x5_1 x6_1 x7_1 (wrap64 (x8_2 + 1))))) else (none)) else (none))) = some r := H
 have A19 := Aside0.mk A190
 clear A190
 by_cases c20 : t313 = true
 · subst c20
   have H1 : (some true) = some r := by rw [if_pos rfl] at H; exact H
   clear H
   have H := H1
   clear H1
   obtain rfl := Option.some.inj H
   have p309 : 0 ≤ (x7_1 : Int) := of_decide_eq_true sqH
   have q309 : x7_1 < (t301.length : Int) := of_decide_eq_true sqH
   obtain ⟨ad309, A309_2, c309_2, A309_3, c309_3, e309, hx309_0, hx309_1, hx309_2, hx309_3, hx309_4, hx309_5, hx309_6, hl309_2, hi309_2, hl309_3, hi309_3⟩ := at_T57 (Kd.N_reads' HO_3.out).2.2 x7_1 p309 q309
   obtain rfl : ad307 = ad309 := (by injection e309)
   obtain ⟨ce309, hce309, hMe309, hcc309⟩ := Kd.N_get HO_3.out z57 x7_1 p309 (by first | exact q309 | exact of_decide_eq_true sqH | (have e_ := (Kd.N_reads' HO_3.out).1; omega))
   obtain ⟨ua309_2, uc309_2, ua309_3, uc309_3, rfl, ul309_2, ge309_2, ul309_3, ge309_3⟩ := k57_openF hMe309
   have hv309_2 := hcc309 2 _ rfl
   rw [add_field _ _ 2 (by omega)] at hv309_2
   replace hv309_2 := Option.some.inj (hv309_2.symm.trans hx309_2)
   injection hv309_2 with hva_ hvn_ hvc_
   rw [hva_] at ge309_2
   rw [hvc_] at ul309_2
   have HL309_2 := sqM (show Kd.V k62 62 _ w.heap.size _ _ ((rd_T57 t301 x7_1).f2) from Kd.V_mk ul309_2 ge309_2)
   clear hva_ hvn_ hvc_ ge309_2 ul309_2
   have hv309_3 := hcc309 3 _ rfl
   rw [add_field _ _ 3 (by omega)] at hv309_3
   replace hv309_3 := Option.some.inj (hv309_3.symm.trans hx309_3)
   injection hv309_3 with hva_ hvn_ hvc_
   rw [hva_] at ge309_3
   rw [hvc_] at ul309_3
   have HL309_3 := sqM (show Kd.V k59 59 _ w.heap.size _ _ ((rd_T57 t301 x7_1).f3) from Kd.V_mk ul309_3 ge309_3)
   clear hva_ hvn_ hvc_ ge309_3 ul309_3
   clear hcc309 hce309
   have HR309_2 := sqM hi309_2
   have HC309_2 := sqM hl309_2
   clear hi309_2 hl309_2
   have HR309_3 := sqM hi309_3
   have HC309_3 := sqM hl309_3
   clear hi309_3 hl309_3
   replace p309 := eq_true p309
   replace q309 := eq_true q309
   have p310 : 0 ≤ (x7_1 : Int) := of_decide_eq_true sqH
   have q310 : x7_1 < (t301.length : Int) := of_decide_eq_true sqH
   obtain ⟨ad310, A310_2, c310_2, A310_3, c310_3, e310, hx310_0, hx310_1, hx310_2, hx310_3, hx310_4, hx310_5, hx310_6, hl310_2, hi310_2, hl310_3, hi310_3⟩ := at_T57 (Kd.N_reads' HO_3.out).2.2 x7_1 p310 q310
   obtain rfl : ad307 = ad310 := (by injection e310)
   obtain ⟨ce310, hce310, hMe310, hcc310⟩ := Kd.N_get HO_3.out z57 x7_1 p310 (by first | exact q310 | exact of_decide_eq_true sqH | (have e_ := (Kd.N_reads' HO_3.out).1; omega))
   obtain ⟨ua310_2, uc310_2, ua310_3, uc310_3, rfl, ul310_2, ge310_2, ul310_3, ge310_3⟩ := k57_openF hMe310
   have hv310_2 := hcc310 2 _ rfl
   rw [add_field _ _ 2 (by omega)] at hv310_2
   replace hv310_2 := Option.some.inj (hv310_2.symm.trans hx310_2)
   injection hv310_2 with hva_ hvn_ hvc_
   rw [hva_] at ge310_2
   rw [hvc_] at ul310_2
   have HL310_2 := sqM (show Kd.V k62 62 _ w.heap.size _ _ ((rd_T57 t301 x7_1).f2) from Kd.V_mk ul310_2 ge310_2)
   clear hva_ hvn_ hvc_ ge310_2 ul310_2
   have hv310_3 := hcc310 3 _ rfl
   rw [add_field _ _ 3 (by omega)] at hv310_3
   replace hv310_3 := Option.some.inj (hv310_3.symm.trans hx310_3)
   injection hv310_3 with hva_ hvn_ hvc_
   rw [hva_] at ge310_3
   rw [hvc_] at ul310_3
   have HL310_3 := sqM (show Kd.V k59 59 _ w.heap.size _ _ ((rd_T57 t301 x7_1).f3) from Kd.V_mk ul310_3 ge310_3)
   clear hva_ hvn_ hvc_ ge310_3 ul310_3
   clear hcc310 hce310
   have HR310_2 := sqM hi310_2
   have HC310_2 := sqM hl310_2
   clear hi310_2 hl310_2
   have HR310_3 := sqM hi310_3
   have HC310_3 := sqM hl310_3
   clear hi310_3 hl310_3
   replace p310 := eq_true p310
   replace q310 := eq_true q310
   have ea_ := Option.some.inj (hx309_2.symm.trans hx310_2)
   injection ea_ with ea_ en_ ec_
   subst ea_
   subst ec_
   clear en_
   have ea_ := Option.some.inj (hx309_3.symm.trans hx310_3)
   injection ea_ with ea_ en_ ec_
   subst ea_
   subst ec_
   clear en_
   have p311 : 0 ≤ (x8_2 : Int) := of_decide_eq_true sqH
   have q311 : x8_2 < (t301.length : Int) := of_decide_eq_true sqH
   obtain ⟨ad311, A311_2, c311_2, A311_3, c311_3, e311, hx311_0, hx311_1, hx311_2, hx311_3, hx311_4, hx311_5, hx311_6, hl311_2, hi311_2, hl311_3, hi311_3⟩ := at_T57 (Kd.N_reads' HO_3.out).2.2 x8_2 p311 q311
   obtain rfl : ad307 = ad311 := (by injection e311)
   obtain ⟨ce311, hce311, hMe311, hcc311⟩ := Kd.N_get HO_3.out z57 x8_2 p311 (by first | exact q311 | exact of_decide_eq_true sqH | (have e_ := (Kd.N_reads' HO_3.out).1; omega))
   obtain ⟨ua311_2, uc311_2, ua311_3, uc311_3, rfl, ul311_2, ge311_2, ul311_3, ge311_3⟩ := k57_openF hMe311
   have hv311_2 := hcc311 2 _ rfl
   rw [add_field _ _ 2 (by omega)] at hv311_2
   replace hv311_2 := Option.some.inj (hv311_2.symm.trans hx311_2)
   injection hv311_2 with hva_ hvn_ hvc_
   rw [hva_] at ge311_2
   rw [hvc_] at ul311_2
   have HL311_2 := sqM (show Kd.V k62 62 _ w.heap.size _ _ ((rd_T57 t301 x8_2).f2) from Kd.V_mk ul311_2 ge311_2)
   clear hva_ hvn_ hvc_ ge311_2 ul311_2
   have hv311_3 := hcc311 3 _ rfl
   rw [add_field _ _ 3 (by omega)] at hv311_3
   replace hv311_3 := Option.some.inj (hv311_3.symm.trans hx311_3)
   injection hv311_3 with hva_ hvn_ hvc_
   rw [hva_] at ge311_3
   rw [hvc_] at ul311_3
   have HL311_3 := sqM (show Kd.V k59 59 _ w.heap.size _ _ ((rd_T57 t301 x8_2).f3) from Kd.V_mk ul311_3 ge311_3)
   clear hva_ hvn_ hvc_ ge311_3 ul311_3
   clear hcc311 hce311
   have HR311_2 := sqM hi311_2
   have HC311_2 := sqM hl311_2
   clear hi311_2 hl311_2
   have HR311_3 := sqM hi311_3
   have HC311_3 := sqM hl311_3
   clear hi311_3 hl311_3
   replace p311 := eq_true p311
   replace q311 := eq_true q311
   have p312 : 0 ≤ (x8_2 : Int) := of_decide_eq_true sqH
   have q312 : x8_2 < (t301.length : Int) := of_decide_eq_true sqH
   obtain ⟨ad312, A312_2, c312_2, A312_3, c312_3, e312, hx312_0, hx312_1, hx312_2, hx312_3, hx312_4, hx312_5, hx312_6, hl312_2, hi312_2, hl312_3, hi312_3⟩ := at_T57 (Kd.N_reads' HO_3.out).2.2 x8_2 p312 q312
   obtain rfl : ad307 = ad312 := (by injection e312)
   obtain ⟨ce312, hce312, hMe312, hcc312⟩ := Kd.N_get HO_3.out z57 x8_2 p312 (by first | exact q312 | exact of_decide_eq_true sqH | (have e_ := (Kd.N_reads' HO_3.out).1; omega))
   obtain ⟨ua312_2, uc312_2, ua312_3, uc312_3, rfl, ul312_2, ge312_2, ul312_3, ge312_3⟩ := k57_openF hMe312
   have hv312_2 := hcc312 2 _ rfl
   rw [add_field _ _ 2 (by omega)] at hv312_2
   replace hv312_2 := Option.some.inj (hv312_2.symm.trans hx312_2)
   injection hv312_2 with hva_ hvn_ hvc_
   rw [hva_] at ge312_2
   rw [hvc_] at ul312_2
   have HL312_2 := sqM (show Kd.V k62 62 _ w.heap.size _ _ ((rd_T57 t301 x8_2).f2) from Kd.V_mk ul312_2 ge312_2)
   clear hva_ hvn_ hvc_ ge312_2 ul312_2
   have hv312_3 := hcc312 3 _ rfl
   rw [add_field _ _ 3 (by omega)] at hv312_3
   replace hv312_3 := Option.some.inj (hv312_3.symm.trans hx312_3)
   injection hv312_3 with hva_ hvn_ hvc_
   rw [hva_] at ge312_3
   rw [hvc_] at ul312_3
   have HL312_3 := sqM (show Kd.V k59 59 _ w.heap.size _ _ ((rd_T57 t301 x8_2).f3) from Kd.V_mk ul312_3 ge312_3)
   clear hva_ hvn_ hvc_ ge312_3 ul312_3
   clear hcc312 hce312
   have HR312_2 := sqM hi312_2
   have HC312_2 := sqM hl312_2
   clear hi312_2 hl312_2
   have HR312_3 := sqM hi312_3
   have HC312_3 := sqM hl312_3
   clear hi312_3 hl312_3
   replace p312 := eq_true p312
   replace q312 := eq_true q312
   have ea_ := Option.some.inj (hx311_2.symm.trans hx312_2)
   injection ea_ with ea_ en_ ec_
   subst ea_
   subst ec_
   clear en_
   have ea_ := Option.some.inj (hx311_3.symm.trans hx312_3)
   injection ea_ with ea_ en_ ec_
   subst ea_
   subst ec_
   clear en_
   go_wp2_with (first | (go_at_call 74; (with_reducible refine (boarderref01_Meet.calls _ _ _ _ _ _ _ A19.out).mono ?_); rintro e w' ⟨rfl, ⟨nd, rfl⟩⟩; (try first | exact ⟨rfl, _, World.drewN_drewN _ _ _⟩ | exact ⟨rfl, _, Eq.trans (World.drewN_drewN _ _ _) (congrArg (World.drewN _) (Nat.add_assoc _ _ _))⟩)))
   repeat (go_quiet (first | (go_at_call 74; (with_reducible refine (boarderref01_Meet.calls _ _ _ _ _ _ _ A19.out).mono ?_); rintro e w' ⟨rfl, ⟨nd, rfl⟩⟩; (try first | exact ⟨rfl, _, World.drewN_drewN _ _ _⟩ | exact ⟨rfl, _, Eq.trans (World.drewN_drewN _ _ _) (congrArg (World.drewN _) (Nat.add_assoc _ _ _))⟩))); try go_wp2_with (first | (go_at_call 74; (with_reducible refine (boarderref01_Meet.calls _ _ _ _ _ _ _ A19.out).mono ?_); rintro e w' ⟨rfl, ⟨nd, rfl⟩⟩; (try first | exact ⟨rfl, _, World.drewN_drewN _ _ _⟩ | exact ⟨rfl, _, Eq.trans (World.drewN_drewN _ _ _) (congrArg (World.drewN _) (Nat.add_assoc _ _ _))⟩))))
   go_ret
   exact ⟨sqE, sqB1 HB.out GE300.out⟩
 replace c20 := Bool.eq_false_iff.mpr c20
 subst c20
 have H1 : (if x7_1 < (t304.length : Int) then (if x8_2 < (t304.length : Int) then (if (rd t304 x7_1) = (rd t304 x8_2) then (boarderref13_Twice.l1 k2 t301 t304 x5_1 x6_1 x7_1 (wrap64 (x8_2 + 1))) else (if ((rd_T57 t301 x7_1).f4) > 0 then (if ((rd_T57 t301 x7_1).f4) = ((rd_T57 t301 x8_2).f4) then (some true) else (boarderref13_Twice.l1 k2 t301 t304 x5_1 x6_1 x7_1 (wrap64 (x8_2 + 1)))) else (boarderref13_Twice.l1 k2 t301 t304 x5_1 x6_1 x7_1 (wrap64 (x8_2 + 1))))) else (none)) else (none)) = some r := by rw [if_neg (show ¬ (false = true) by decide)] at H; exact H
 clear H
 have H := H1
 clear H1
 by_cases c21 : x7_1 < (t304.length : Int)
 rotate_left
 · rw [if_neg c21] at H
   exact absurd H (by simp)
 rw [if_pos c21] at H
 have c21b0 : decide (x7_1 < (t304.length : Int)) = true := decide_eq_true c21
 clear c21
 by_cases c22 : x8_2 < (t304.length : Int)
 rotate_left
 · rw [if_neg c22] at H
   exact absurd H (by simp)
 rw [if_pos c22] at H
 have c22b0 : decide (x8_2 < (t304.length : Int)) = true := decide_eq_true c22
 clear c22
 by_cases c23 : (rd t304 x7_1) = (rd t304 x8_2)
 · rw [if_pos c23] at H
   have c23b0 : ((rd t304 x7_1) == (rd t304 x8_2)) = true := beq_iff_eq.mpr c23
   have c23b1 : ((rd t304 x7_1) != (rd t304 x8_2)) = false := bne_eq_false_iff_eq.mpr c23
   clear c23
   have H' := Aside0.mk H
   clear H
   have p309 : 0 ≤ (x7_1 : Int) := of_decide_eq_true sqH
   have q309 : x7_1 < (t301.length : Int) := of_decide_eq_true sqH
   obtain ⟨ad309, A309_2, c309_2, A309_3, c309_3, e309, hx309_0, hx309_1, hx309_2, hx309_3, hx309_4, hx309_5, hx309_6, hl309_2, hi309_2, hl309_3, hi309_3⟩ := at_T57 (Kd.N_reads' HO_3.out).2.2 x7_1 p309 q309
   obtain rfl : ad307 = ad309 := (by injection e309)
   obtain ⟨ce309, hce309, hMe309, hcc309⟩ := Kd.N_get HO_3.out z57 x7_1 p309 (by first | exact q309 | exact of_decide_eq_true sqH | (have e_ := (Kd.N_reads' HO_3.out).1; omega))
   obtain ⟨ua309_2, uc309_2, ua309_3, uc309_3, rfl, ul309_2, ge309_2, ul309_3, ge309_3⟩ := k57_openF hMe309
   have hv309_2 := hcc309 2 _ rfl
   rw [add_field _ _ 2 (by omega)] at hv309_2
   replace hv309_2 := Option.some.inj (hv309_2.symm.trans hx309_2)
   injection hv309_2 with hva_ hvn_ hvc_
   rw [hva_] at ge309_2
   rw [hvc_] at ul309_2
   have HL309_2 := sqM (show Kd.V k62 62 _ w.heap.size _ _ ((rd_T57 t301 x7_1).f2) from Kd.V_mk ul309_2 ge309_2)
   clear hva_ hvn_ hvc_ ge309_2 ul309_2
   have hv309_3 := hcc309 3 _ rfl
   rw [add_field _ _ 3 (by omega)] at hv309_3
   replace hv309_3 := Option.some.inj (hv309_3.symm.trans hx309_3)
   injection hv309_3 with hva_ hvn_ hvc_
   rw [hva_] at ge309_3
   rw [hvc_] at ul309_3
   have HL309_3 := sqM (show Kd.V k59 59 _ w.heap.size _ _ ((rd_T57 t301 x7_1).f3) from Kd.V_mk ul309_3 ge309_3)
   clear hva_ hvn_ hvc_ ge309_3 ul309_3
   clear hcc309 hce309
   have HR309_2 := sqM hi309_2
   have HC309_2 := sqM hl309_2
   clear hi309_2 hl309_2
   have HR309_3 := sqM hi309_3
   have HC309_3 := sqM hl309_3
   clear hi309_3 hl309_3
   replace p309 := eq_true p309
   replace q309 := eq_true q309
   have p310 : 0 ≤ (x7_1 : Int) := of_decide_eq_true sqH
   have q310 : x7_1 < (t301.length : Int) := of_decide_eq_true sqH
   obtain ⟨ad310, A310_2, c310_2, A310_3, c310_3, e310, hx310_0, hx310_1, hx310_2, hx310_3, hx310_4, hx310_5, hx310_6, hl310_2, hi310_2, hl310_3, hi310_3⟩ := at_T57 (Kd.N_reads' HO_3.out).2.2 x7_1 p310 q310
   obtain rfl : ad307 = ad310 := (by injection e310)
   obtain ⟨ce310, hce310, hMe310, hcc310⟩ := Kd.N_get HO_3.out z57 x7_1 p310 (by first | exact q310 | exact of_decide_eq_true sqH | (have e_ := (Kd.N_reads' HO_3.out).1; omega))
   obtain ⟨ua310_2, uc310_2, ua310_3, uc310_3, rfl, ul310_2, ge310_2, ul310_3, ge310_3⟩ := k57_openF hMe310
   have hv310_2 := hcc310 2 _ rfl
   rw [add_field _ _ 2 (by omega)] at hv310_2
   replace hv310_2 := Option.some.inj (hv310_2.symm.trans hx310_2)
   injection hv310_2 with hva_ hvn_ hvc_
   rw [hva_] at ge310_2
   rw [hvc_] at ul310_2
   have HL310_2 := sqM (show Kd.V k62 62 _ w.heap.size _ _ ((rd_T57 t301 x7_1).f2) from Kd.V_mk ul310_2 ge310_2)
   clear hva_ hvn_ hvc_ ge310_2 ul310_2
   have hv310_3 := hcc310 3 _ rfl
   rw [add_field _ _ 3 (by omega)] at hv310_3
   replace hv310_3 := Option.some.inj (hv310_3.symm.trans hx310_3)
   injection hv310_3 with hva_ hvn_ hvc_
   rw [hva_] at ge310_3
   rw [hvc_] at ul310_3
   have HL310_3 := sqM (show Kd.V k59 59 _ w.heap.size _ _ ((rd_T57 t301 x7_1).f3) from Kd.V_mk ul310_3 ge310_3)
   clear hva_ hvn_ hvc_ ge310_3 ul310_3
   clear hcc310 hce310
   have HR310_2 := sqM hi310_2
   have HC310_2 := sqM hl310_2
   clear hi310_2 hl310_2
   have HR310_3 := sqM hi310_3
   have HC310_3 := sqM hl310_3
   clear hi310_3 hl310_3
   replace p310 := eq_true p310
   replace q310 := eq_true q310
   have ea_ := Option.some.inj (hx309_2.symm.trans hx310_2)
   injection ea_ with ea_ en_ ec_
   subst ea_
   subst ec_
   clear en_
   have ea_ := Option.some.inj (hx309_3.symm.trans hx310_3)
   injection ea_ with ea_ en_ ec_
   subst ea_
   subst ec_
   clear en_
   have p311 : 0 ≤ (x8_2 : Int) := of_decide_eq_true sqH
   have q311 : x8_2 < (t301.length : Int) := of_decide_eq_true sqH
   obtain ⟨ad311, A311_2, c311_2, A311_3, c311_3, e311, hx311_0, hx311_1, hx311_2, hx311_3, hx311_4, hx311_5, hx311_6, hl311_2, hi311_2, hl311_3, hi311_3⟩ := at_T57 (Kd.N_reads' HO_3.out).2.2 x8_2 p311 q311
   obtain rfl : ad307 = ad311 := (by injection e311)
   obtain ⟨ce311, hce311, hMe311, hcc311⟩ := Kd.N_get HO_3.out z57 x8_2 p311 (by first | exact q311 | exact of_decide_eq_true sqH | (have e_ := (Kd.N_reads' HO_3.out).1; omega))
   obtain ⟨ua311_2, uc311_2, ua311_3, uc311_3, rfl, ul311_2, ge311_2, ul311_3, ge311_3⟩ := k57_openF hMe311
   have hv311_2 := hcc311 2 _ rfl
   rw [add_field _ _ 2 (by omega)] at hv311_2
   replace hv311_2 := Option.some.inj (hv311_2.symm.trans hx311_2)
   injection hv311_2 with hva_ hvn_ hvc_
   rw [hva_] at ge311_2
   rw [hvc_] at ul311_2
   have HL311_2 := sqM (show Kd.V k62 62 _ w.heap.size _ _ ((rd_T57 t301 x8_2).f2) from Kd.V_mk ul311_2 ge311_2)
   clear hva_ hvn_ hvc_ ge311_2 ul311_2
   have hv311_3 := hcc311 3 _ rfl
   rw [add_field _ _ 3 (by omega)] at hv311_3
   replace hv311_3 := Option.some.inj (hv311_3.symm.trans hx311_3)
   injection hv311_3 with hva_ hvn_ hvc_
   rw [hva_] at ge311_3
   rw [hvc_] at ul311_3
   have HL311_3 := sqM (show Kd.V k59 59 _ w.heap.size _ _ ((rd_T57 t301 x8_2).f3) from Kd.V_mk ul311_3 ge311_3)
   clear hva_ hvn_ hvc_ ge311_3 ul311_3
   clear hcc311 hce311
   have HR311_2 := sqM hi311_2
   have HC311_2 := sqM hl311_2
   clear hi311_2 hl311_2
   have HR311_3 := sqM hi311_3
   have HC311_3 := sqM hl311_3
   clear hi311_3 hl311_3
   replace p311 := eq_true p311
   replace q311 := eq_true q311
   have p312 : 0 ≤ (x8_2 : Int) := of_decide_eq_true sqH
   have q312 : x8_2 < (t301.length : Int) := of_decide_eq_true sqH
   obtain ⟨ad312, A312_2, c312_2, A312_3, c312_3, e312, hx312_0, hx312_1, hx312_2, hx312_3, hx312_4, hx312_5, hx312_6, hl312_2, hi312_2, hl312_3, hi312_3⟩ := at_T57 (Kd.N_reads' HO_3.out).2.2 x8_2 p312 q312
   obtain rfl : ad307 = ad312 := (by injection e312)
   obtain ⟨ce312, hce312, hMe312, hcc312⟩ := Kd.N_get HO_3.out z57 x8_2 p312 (by first | exact q312 | exact of_decide_eq_true sqH | (have e_ := (Kd.N_reads' HO_3.out).1; omega))
   obtain ⟨ua312_2, uc312_2, ua312_3, uc312_3, rfl, ul312_2, ge312_2, ul312_3, ge312_3⟩ := k57_openF hMe312
   have hv312_2 := hcc312 2 _ rfl
   rw [add_field _ _ 2 (by omega)] at hv312_2
   replace hv312_2 := Option.some.inj (hv312_2.symm.trans hx312_2)
   injection hv312_2 with hva_ hvn_ hvc_
   rw [hva_] at ge312_2
   rw [hvc_] at ul312_2
   have HL312_2 := sqM (show Kd.V k62 62 _ w.heap.size _ _ ((rd_T57 t301 x8_2).f2) from Kd.V_mk ul312_2 ge312_2)
   clear hva_ hvn_ hvc_ ge312_2 ul312_2
   have hv312_3 := hcc312 3 _ rfl
   rw [add_field _ _ 3 (by omega)] at hv312_3
   replace hv312_3 := Option.some.inj (hv312_3.symm.trans hx312_3)
   injection hv312_3 with hva_ hvn_ hvc_
   rw [hva_] at ge312_3
   rw [hvc_] at ul312_3
   have HL312_3 := sqM (show Kd.V k59 59 _ w.heap.size _ _ ((rd_T57 t301 x8_2).f3) from Kd.V_mk ul312_3 ge312_3)
   clear hva_ hvn_ hvc_ ge312_3 ul312_3
   clear hcc312 hce312
   have HR312_2 := sqM hi312_2
   have HC312_2 := sqM hl312_2
   clear hi312_2 hl312_2
   have HR312_3 := sqM hi312_3
   have HC312_3 := sqM hl312_3
   clear hi312_3 hl312_3
   replace p312 := eq_true p312
   replace q312 := eq_true q312
   have ea_ := Option.some.inj (hx311_2.symm.trans hx312_2)
   injection ea_ with ea_ en_ ec_
   subst ea_
   subst ec_
   clear en_
   have ea_ := Option.some.inj (hx311_3.symm.trans hx312_3)
   injection ea_ with ea_ en_ ec_
   subst ea_
   subst ec_
   clear en_
   go_wp2_with (first | (go_at_call 74; (with_reducible refine (boarderref01_Meet.calls _ _ _ _ _ _ _ A19.out).mono ?_); rintro e w' ⟨rfl, ⟨nd, rfl⟩⟩; (try first | exact ⟨rfl, _, World.drewN_drewN _ _ _⟩ | exact ⟨rfl, _, Eq.trans (World.drewN_drewN _ _ _) (congrArg (World.drewN _) (Nat.add_assoc _ _ _))⟩); obtain ⟨Ao24, co24, eo24⟩ := Kd.R_slice HO_4.out; subst eo24; have p314 : 0 ≤ (x7_1 : Int) := of_decide_eq_true sqH; have q314 : x7_1 < (t304.length : Int) := of_decide_eq_true sqH; obtain ⟨ad314, e314, hx314_0⟩ := Kd.at_int (Kd.R_reads' HO_4.out).2.2 x7_1 p314 q314; cases e314; replace p314 := eq_true p314; replace q314 := eq_true q314; have p315 : 0 ≤ (x8_2 : Int) := of_decide_eq_true sqH; have q315 : x8_2 < (t304.length : Int) := of_decide_eq_true sqH; obtain ⟨ad315, e315, hx315_0⟩ := Kd.at_int (Kd.R_reads' HO_4.out).2.2 x8_2 p315 q315; obtain rfl : ad314 = ad315 := (by injection e315); replace p315 := eq_true p315; replace q315 := eq_true q315))
   repeat (go_quiet (first | (go_at_call 74; (with_reducible refine (boarderref01_Meet.calls _ _ _ _ _ _ _ A19.out).mono ?_); rintro e w' ⟨rfl, ⟨nd, rfl⟩⟩; (try first | exact ⟨rfl, _, World.drewN_drewN _ _ _⟩ | exact ⟨rfl, _, Eq.trans (World.drewN_drewN _ _ _) (congrArg (World.drewN _) (Nat.add_assoc _ _ _))⟩); obtain ⟨Ao24, co24, eo24⟩ := Kd.R_slice HO_4.out; subst eo24; have p314 : 0 ≤ (x7_1 : Int) := of_decide_eq_true sqH; have q314 : x7_1 < (t304.length : Int) := of_decide_eq_true sqH; obtain ⟨ad314, e314, hx314_0⟩ := Kd.at_int (Kd.R_reads' HO_4.out).2.2 x7_1 p314 q314; cases e314; replace p314 := eq_true p314; replace q314 := eq_true q314; have p315 : 0 ≤ (x8_2 : Int) := of_decide_eq_true sqH; have q315 : x8_2 < (t304.length : Int) := of_decide_eq_true sqH; obtain ⟨ad315, e315, hx315_0⟩ := Kd.at_int (Kd.R_reads' HO_4.out).2.2 x8_2 p315 q315; obtain rfl : ad314 = ad315 := (by injection e315); replace p315 := eq_true p315; replace q315 := eq_true q315)); try go_wp2_with (first | (go_at_call 74; (with_reducible refine (boarderref01_Meet.calls _ _ _ _ _ _ _ A19.out).mono ?_); rintro e w' ⟨rfl, ⟨nd, rfl⟩⟩; (try first | exact ⟨rfl, _, World.drewN_drewN _ _ _⟩ | exact ⟨rfl, _, Eq.trans (World.drewN_drewN _ _ _) (congrArg (World.drewN _) (Nat.add_assoc _ _ _))⟩); obtain ⟨Ao24, co24, eo24⟩ := Kd.R_slice HO_4.out; subst eo24; have p314 : 0 ≤ (x7_1 : Int) := of_decide_eq_true sqH; have q314 : x7_1 < (t304.length : Int) := of_decide_eq_true sqH; obtain ⟨ad314, e314, hx314_0⟩ := Kd.at_int (Kd.R_reads' HO_4.out).2.2 x7_1 p314 q314; cases e314; replace p314 := eq_true p314; replace q314 := eq_true q314; have p315 : 0 ≤ (x8_2 : Int) := of_decide_eq_true sqH; have q315 : x8_2 < (t304.length : Int) := of_decide_eq_true sqH; obtain ⟨ad315, e315, hx315_0⟩ := Kd.at_int (Kd.R_reads' HO_4.out).2.2 x8_2 p315 q315; obtain rfl : ad314 = ad315 := (by injection e315); replace p315 := eq_true p315; replace q315 := eq_true q315)))
   go_roundg k2
   case measure => have := HK1.out; have := HK2.out; omega
   case rel => exact ⟨(wrap64 (x8_2 + 1)), sqI, H', ⟨by have := HK1.out; have := HK2.out; omega⟩, ⟨sqN HO_3.out⟩, ⟨sqR HO_4.out⟩, ⟨sqR HO_5.out⟩, ⟨sqR HO_6.out⟩, ⟨sqK BK300.out⟩, ⟨sqC HR307_2.out⟩, ⟨sqC HR307_3.out⟩, ⟨sqB1 HB.out GE300.out⟩⟩
 rw [if_neg c23] at H
 have c23b0 : ((rd t304 x7_1) == (rd t304 x8_2)) = false := beq_eq_false_iff_ne.mpr c23
 have c23b1 : ((rd t304 x7_1) != (rd t304 x8_2)) = true := bne_iff_ne.mpr c23
 by_cases c25 : ((rd_T57 t301 x7_1).f4) > 0
 rotate_left
 · rw [if_neg c25] at H
   have c25b0 : decide (0 < ((rd_T57 t301 x7_1).f4)) = false := decide_eq_false c25
   clear c25
   have H' := Aside0.mk H
   clear H
   have p309 : 0 ≤ (x7_1 : Int) := of_decide_eq_true sqH
   have q309 : x7_1 < (t301.length : Int) := of_decide_eq_true sqH
   obtain ⟨ad309, A309_2, c309_2, A309_3, c309_3, e309, hx309_0, hx309_1, hx309_2, hx309_3, hx309_4, hx309_5, hx309_6, hl309_2, hi309_2, hl309_3, hi309_3⟩ := at_T57 (Kd.N_reads' HO_3.out).2.2 x7_1 p309 q309
   obtain rfl : ad307 = ad309 := (by injection e309)
   obtain ⟨ce309, hce309, hMe309, hcc309⟩ := Kd.N_get HO_3.out z57 x7_1 p309 (by first | exact q309 | exact of_decide_eq_true sqH | (have e_ := (Kd.N_reads' HO_3.out).1; omega))
   obtain ⟨ua309_2, uc309_2, ua309_3, uc309_3, rfl, ul309_2, ge309_2, ul309_3, ge309_3⟩ := k57_openF hMe309
   have hv309_2 := hcc309 2 _ rfl
   rw [add_field _ _ 2 (by omega)] at hv309_2
   replace hv309_2 := Option.some.inj (hv309_2.symm.trans hx309_2)
   injection hv309_2 with hva_ hvn_ hvc_
   rw [hva_] at ge309_2
   rw [hvc_] at ul309_2
   have HL309_2 := sqM (show Kd.V k62 62 _ w.heap.size _ _ ((rd_T57 t301 x7_1).f2) from Kd.V_mk ul309_2 ge309_2)
   clear hva_ hvn_ hvc_ ge309_2 ul309_2
   have hv309_3 := hcc309 3 _ rfl
   rw [add_field _ _ 3 (by omega)] at hv309_3
   replace hv309_3 := Option.some.inj (hv309_3.symm.trans hx309_3)
   injection hv309_3 with hva_ hvn_ hvc_
   rw [hva_] at ge309_3
   rw [hvc_] at ul309_3
   have HL309_3 := sqM (show Kd.V k59 59 _ w.heap.size _ _ ((rd_T57 t301 x7_1).f3) from Kd.V_mk ul309_3 ge309_3)
   clear hva_ hvn_ hvc_ ge309_3 ul309_3
   clear hcc309 hce309
   have HR309_2 := sqM hi309_2
   have HC309_2 := sqM hl309_2
   clear hi309_2 hl309_2
   have HR309_3 := sqM hi309_3
   have HC309_3 := sqM hl309_3
   clear hi309_3 hl309_3
   replace p309 := eq_true p309
   replace q309 := eq_true q309
   have p310 : 0 ≤ (x7_1 : Int) := of_decide_eq_true sqH
   have q310 : x7_1 < (t301.length : Int) := of_decide_eq_true sqH
   obtain ⟨ad310, A310_2, c310_2, A310_3, c310_3, e310, hx310_0, hx310_1, hx310_2, hx310_3, hx310_4, hx310_5, hx310_6, hl310_2, hi310_2, hl310_3, hi310_3⟩ := at_T57 (Kd.N_reads' HO_3.out).2.2 x7_1 p310 q310
   obtain rfl : ad307 = ad310 := (by injection e310)
   obtain ⟨ce310, hce310, hMe310, hcc310⟩ := Kd.N_get HO_3.out z57 x7_1 p310 (by first | exact q310 | exact of_decide_eq_true sqH | (have e_ := (Kd.N_reads' HO_3.out).1; omega))
   obtain ⟨ua310_2, uc310_2, ua310_3, uc310_3, rfl, ul310_2, ge310_2, ul310_3, ge310_3⟩ := k57_openF hMe310
   have hv310_2 := hcc310 2 _ rfl
   rw [add_field _ _ 2 (by omega)] at hv310_2
   replace hv310_2 := Option.some.inj (hv310_2.symm.trans hx310_2)
   injection hv310_2 with hva_ hvn_ hvc_
   rw [hva_] at ge310_2
   rw [hvc_] at ul310_2
   have HL310_2 := sqM (show Kd.V k62 62 _ w.heap.size _ _ ((rd_T57 t301 x7_1).f2) from Kd.V_mk ul310_2 ge310_2)
   clear hva_ hvn_ hvc_ ge310_2 ul310_2
   have hv310_3 := hcc310 3 _ rfl
   rw [add_field _ _ 3 (by omega)] at hv310_3
   replace hv310_3 := Option.some.inj (hv310_3.symm.trans hx310_3)
   injection hv310_3 with hva_ hvn_ hvc_
   rw [hva_] at ge310_3
   rw [hvc_] at ul310_3
   have HL310_3 := sqM (show Kd.V k59 59 _ w.heap.size _ _ ((rd_T57 t301 x7_1).f3) from Kd.V_mk ul310_3 ge310_3)
   clear hva_ hvn_ hvc_ ge310_3 ul310_3
   clear hcc310 hce310
   have HR310_2 := sqM hi310_2
   have HC310_2 := sqM hl310_2
   clear hi310_2 hl310_2
   have HR310_3 := sqM hi310_3
   have HC310_3 := sqM hl310_3
   clear hi310_3 hl310_3
   replace p310 := eq_true p310
   replace q310 := eq_true q310
   have ea_ := Option.some.inj (hx309_2.symm.trans hx310_2)
   injection ea_ with ea_ en_ ec_
   subst ea_
   subst ec_
   clear en_
   have ea_ := Option.some.inj (hx309_3.symm.trans hx310_3)
   injection ea_ with ea_ en_ ec_
   subst ea_
   subst ec_
   clear en_
   have p311 : 0 ≤ (x8_2 : Int) := of_decide_eq_true sqH
   have q311 : x8_2 < (t301.length : Int) := of_decide_eq_true sqH
   obtain ⟨ad311, A311_2, c311_2, A311_3, c311_3, e311, hx311_0, hx311_1, hx311_2, hx311_3, hx311_4, hx311_5, hx311_6, hl311_2, hi311_2, hl311_3, hi311_3⟩ := at_T57 (Kd.N_reads' HO_3.out).2.2 x8_2 p311 q311
   obtain rfl : ad307 = ad311 := (by injection e311)
   obtain ⟨ce311, hce311, hMe311, hcc311⟩ := Kd.N_get HO_3.out z57 x8_2 p311 (by first | exact q311 | exact of_decide_eq_true sqH | (have e_ := (Kd.N_reads' HO_3.out).1; omega))
   obtain ⟨ua311_2, uc311_2, ua311_3, uc311_3, rfl, ul311_2, ge311_2, ul311_3, ge311_3⟩ := k57_openF hMe311
   have hv311_2 := hcc311 2 _ rfl
   rw [add_field _ _ 2 (by omega)] at hv311_2
   replace hv311_2 := Option.some.inj (hv311_2.symm.trans hx311_2)
   injection hv311_2 with hva_ hvn_ hvc_
   rw [hva_] at ge311_2
   rw [hvc_] at ul311_2
   have HL311_2 := sqM (show Kd.V k62 62 _ w.heap.size _ _ ((rd_T57 t301 x8_2).f2) from Kd.V_mk ul311_2 ge311_2)
   clear hva_ hvn_ hvc_ ge311_2 ul311_2
   have hv311_3 := hcc311 3 _ rfl
   rw [add_field _ _ 3 (by omega)] at hv311_3
   replace hv311_3 := Option.some.inj (hv311_3.symm.trans hx311_3)
   injection hv311_3 with hva_ hvn_ hvc_
   rw [hva_] at ge311_3
   rw [hvc_] at ul311_3
   have HL311_3 := sqM (show Kd.V k59 59 _ w.heap.size _ _ ((rd_T57 t301 x8_2).f3) from Kd.V_mk ul311_3 ge311_3)
   clear hva_ hvn_ hvc_ ge311_3 ul311_3
   clear hcc311 hce311
   have HR311_2 := sqM hi311_2
   have HC311_2 := sqM hl311_2
   clear hi311_2 hl311_2
   have HR311_3 := sqM hi311_3
   have HC311_3 := sqM hl311_3
   clear hi311_3 hl311_3
   replace p311 := eq_true p311
   replace q311 := eq_true q311
   have p312 : 0 ≤ (x8_2 : Int) := of_decide_eq_true sqH
   have q312 : x8_2 < (t301.length : Int) := of_decide_eq_true sqH
   obtain ⟨ad312, A312_2, c312_2, A312_3, c312_3, e312, hx312_0, hx312_1, hx312_2, hx312_3, hx312_4, hx312_5, hx312_6, hl312_2, hi312_2, hl312_3, hi312_3⟩ := at_T57 (Kd.N_reads' HO_3.out).2.2 x8_2 p312 q312
   obtain rfl : ad307 = ad312 := (by injection e312)
   obtain ⟨ce312, hce312, hMe312, hcc312⟩ := Kd.N_get HO_3.out z57 x8_2 p312 (by first | exact q312 | exact of_decide_eq_true sqH | (have e_ := (Kd.N_reads' HO_3.out).1; omega))
   obtain ⟨ua312_2, uc312_2, ua312_3, uc312_3, rfl, ul312_2, ge312_2, ul312_3, ge312_3⟩ := k57_openF hMe312
   have hv312_2 := hcc312 2 _ rfl
   rw [add_field _ _ 2 (by omega)] at hv312_2
   replace hv312_2 := Option.some.inj (hv312_2.symm.trans hx312_2)
   injection hv312_2 with hva_ hvn_ hvc_
   rw [hva_] at ge312_2
   rw [hvc_] at ul312_2
   have HL312_2 := sqM (show Kd.V k62 62 _ w.heap.size _ _ ((rd_T57 t301 x8_2).f2) from Kd.V_mk ul312_2 ge312_2)
   clear hva_ hvn_ hvc_ ge312_2 ul312_2
   have hv312_3 := hcc312 3 _ rfl
   rw [add_field _ _ 3 (by omega)] at hv312_3
   replace hv312_3 := Option.some.inj (hv312_3.symm.trans hx312_3)
   injection hv312_3 with hva_ hvn_ hvc_
   rw [hva_] at ge312_3
   rw [hvc_] at ul312_3
   have HL312_3 := sqM (show Kd.V k59 59 _ w.heap.size _ _ ((rd_T57 t301 x8_2).f3) from Kd.V_mk ul312_3 ge312_3)
   clear hva_ hvn_ hvc_ ge312_3 ul312_3
   clear hcc312 hce312
   have HR312_2 := sqM hi312_2
   have HC312_2 := sqM hl312_2
   clear hi312_2 hl312_2
   have HR312_3 := sqM hi312_3
   have HC312_3 := sqM hl312_3
   clear hi312_3 hl312_3
   replace p312 := eq_true p312
   replace q312 := eq_true q312
   have ea_ := Option.some.inj (hx311_2.symm.trans hx312_2)
   injection ea_ with ea_ en_ ec_
   subst ea_
   subst ec_
   clear en_
   have ea_ := Option.some.inj (hx311_3.symm.trans hx312_3)
   injection ea_ with ea_ en_ ec_
   subst ea_
   subst ec_
   clear en_
   go_wp2_with (first | (go_at_call 74; (with_reducible refine (boarderref01_Meet.calls _ _ _ _ _ _ _ A19.out).mono ?_); rintro e w' ⟨rfl, ⟨nd, rfl⟩⟩; (try first | exact ⟨rfl, _, World.drewN_drewN _ _ _⟩ | exact ⟨rfl, _, Eq.trans (World.drewN_drewN _ _ _) (congrArg (World.drewN _) (Nat.add_assoc _ _ _))⟩); obtain ⟨Ao29, co29, eo29⟩ := Kd.R_slice HO_4.out; subst eo29; have p314 : 0 ≤ (x7_1 : Int) := of_decide_eq_true sqH; have q314 : x7_1 < (t304.length : Int) := of_decide_eq_true sqH; obtain ⟨ad314, e314, hx314_0⟩ := Kd.at_int (Kd.R_reads' HO_4.out).2.2 x7_1 p314 q314; cases e314; replace p314 := eq_true p314; replace q314 := eq_true q314; have p315 : 0 ≤ (x8_2 : Int) := of_decide_eq_true sqH; have q315 : x8_2 < (t304.length : Int) := of_decide_eq_true sqH; obtain ⟨ad315, e315, hx315_0⟩ := Kd.at_int (Kd.R_reads' HO_4.out).2.2 x8_2 p315 q315; obtain rfl : ad314 = ad315 := (by injection e315); replace p315 := eq_true p315; replace q315 := eq_true q315; have p316 : 0 ≤ (x7_1 : Int) := of_decide_eq_true sqH; have q316 : x7_1 < (t301.length : Int) := of_decide_eq_true sqH; obtain ⟨ad316, A316_2, c316_2, A316_3, c316_3, e316, hx316_0, hx316_1, hx316_2, hx316_3, hx316_4, hx316_5, hx316_6, hl316_2, hi316_2, hl316_3, hi316_3⟩ := at_T57 (Kd.N_reads' HO_3.out).2.2 x7_1 p316 q316; obtain rfl : ad307 = ad316 := (by injection e316); obtain ⟨ce316, hce316, hMe316, hcc316⟩ := Kd.N_get HO_3.out z57 x7_1 p316 (by first | exact q316 | exact of_decide_eq_true sqH | (have e_ := (Kd.N_reads' HO_3.out).1; omega)); obtain ⟨ua316_2, uc316_2, ua316_3, uc316_3, rfl, ul316_2, ge316_2, ul316_3, ge316_3⟩ := k57_openF hMe316; have hv316_2 := hcc316 2 _ rfl; rw [add_field _ _ 2 (by omega)] at hv316_2; replace hv316_2 := Option.some.inj (hv316_2.symm.trans hx316_2); injection hv316_2 with hva_ hvn_ hvc_; rw [hva_] at ge316_2; rw [hvc_] at ul316_2; have HL316_2 := sqM (show Kd.V k62 62 _ w.heap.size _ _ ((rd_T57 t301 x7_1).f2) from Kd.V_mk ul316_2 ge316_2); clear hva_ hvn_ hvc_ ge316_2 ul316_2; have hv316_3 := hcc316 3 _ rfl; rw [add_field _ _ 3 (by omega)] at hv316_3; replace hv316_3 := Option.some.inj (hv316_3.symm.trans hx316_3); injection hv316_3 with hva_ hvn_ hvc_; rw [hva_] at ge316_3; rw [hvc_] at ul316_3; have HL316_3 := sqM (show Kd.V k59 59 _ w.heap.size _ _ ((rd_T57 t301 x7_1).f3) from Kd.V_mk ul316_3 ge316_3); clear hva_ hvn_ hvc_ ge316_3 ul316_3; clear hcc316 hce316; have HR316_2 := sqM hi316_2; have HC316_2 := sqM hl316_2; clear hi316_2 hl316_2; have HR316_3 := sqM hi316_3; have HC316_3 := sqM hl316_3; clear hi316_3 hl316_3; replace p316 := eq_true p316; replace q316 := eq_true q316; have ea_ := Option.some.inj (hx309_2.symm.trans hx316_2); injection ea_ with ea_ en_ ec_; subst ea_; subst ec_; clear en_; have ea_ := Option.some.inj (hx309_3.symm.trans hx316_3); injection ea_ with ea_ en_ ec_; subst ea_; subst ec_; clear en_))
   repeat (go_quiet (first | (go_at_call 74; (with_reducible refine (boarderref01_Meet.calls _ _ _ _ _ _ _ A19.out).mono ?_); rintro e w' ⟨rfl, ⟨nd, rfl⟩⟩; (try first | exact ⟨rfl, _, World.drewN_drewN _ _ _⟩ | exact ⟨rfl, _, Eq.trans (World.drewN_drewN _ _ _) (congrArg (World.drewN _) (Nat.add_assoc _ _ _))⟩); obtain ⟨Ao29, co29, eo29⟩ := Kd.R_slice HO_4.out; subst eo29; have p314 : 0 ≤ (x7_1 : Int) := of_decide_eq_true sqH; have q314 : x7_1 < (t304.length : Int) := of_decide_eq_true sqH; obtain ⟨ad314, e314, hx314_0⟩ := Kd.at_int (Kd.R_reads' HO_4.out).2.2 x7_1 p314 q314; cases e314; replace p314 := eq_true p314; replace q314 := eq_true q314; have p315 : 0 ≤ (x8_2 : Int) := of_decide_eq_true sqH; have q315 : x8_2 < (t304.length : Int) := of_decide_eq_true sqH; obtain ⟨ad315, e315, hx315_0⟩ := Kd.at_int (Kd.R_reads' HO_4.out).2.2 x8_2 p315 q315; obtain rfl : ad314 = ad315 := (by injection e315); replace p315 := eq_true p315; replace q315 := eq_true q315; have p316 : 0 ≤ (x7_1 : Int) := of_decide_eq_true sqH; have q316 : x7_1 < (t301.length : Int) := of_decide_eq_true sqH; obtain ⟨ad316, A316_2, c316_2, A316_3, c316_3, e316, hx316_0, hx316_1, hx316_2, hx316_3, hx316_4, hx316_5, hx316_6, hl316_2, hi316_2, hl316_3, hi316_3⟩ := at_T57 (Kd.N_reads' HO_3.out).2.2 x7_1 p316 q316; obtain rfl : ad307 = ad316 := (by injection e316); obtain ⟨ce316, hce316, hMe316, hcc316⟩ := Kd.N_get HO_3.out z57 x7_1 p316 (by first | exact q316 | exact of_decide_eq_true sqH | (have e_ := (Kd.N_reads' HO_3.out).1; omega)); obtain ⟨ua316_2, uc316_2, ua316_3, uc316_3, rfl, ul316_2, ge316_2, ul316_3, ge316_3⟩ := k57_openF hMe316; have hv316_2 := hcc316 2 _ rfl; rw [add_field _ _ 2 (by omega)] at hv316_2; replace hv316_2 := Option.some.inj (hv316_2.symm.trans hx316_2); injection hv316_2 with hva_ hvn_ hvc_; rw [hva_] at ge316_2; rw [hvc_] at ul316_2; have HL316_2 := sqM (show Kd.V k62 62 _ w.heap.size _ _ ((rd_T57 t301 x7_1).f2) from Kd.V_mk ul316_2 ge316_2); clear hva_ hvn_ hvc_ ge316_2 ul316_2; have hv316_3 := hcc316 3 _ rfl; rw [add_field _ _ 3 (by omega)] at hv316_3; replace hv316_3 := Option.some.inj (hv316_3.symm.trans hx316_3); injection hv316_3 with hva_ hvn_ hvc_; rw [hva_] at ge316_3; rw [hvc_] at ul316_3; have HL316_3 := sqM (show Kd.V k59 59 _ w.heap.size _ _ ((rd_T57 t301 x7_1).f3) from Kd.V_mk ul316_3 ge316_3); clear hva_ hvn_ hvc_ ge316_3 ul316_3; clear hcc316 hce316; have HR316_2 := sqM hi316_2; have HC316_2 := sqM hl316_2; clear hi316_2 hl316_2; have HR316_3 := sqM hi316_3; have HC316_3 := sqM hl316_3; clear hi316_3 hl316_3; replace p316 := eq_true p316; replace q316 := eq_true q316; have ea_ := Option.some.inj (hx309_2.symm.trans hx316_2); injection ea_ with ea_ en_ ec_; subst ea_; subst ec_; clear en_; have ea_ := Option.some.inj (hx309_3.symm.trans hx316_3); injection ea_ with ea_ en_ ec_; subst ea_; subst ec_; clear en_)); try go_wp2_with (first | (go_at_call 74; (with_reducible refine (boarderref01_Meet.calls _ _ _ _ _ _ _ A19.out).mono ?_); rintro e w' ⟨rfl, ⟨nd, rfl⟩⟩; (try first | exact ⟨rfl, _, World.drewN_drewN _ _ _⟩ | exact ⟨rfl, _, Eq.trans (World.drewN_drewN _ _ _) (congrArg (World.drewN _) (Nat.add_assoc _ _ _))⟩); obtain ⟨Ao29, co29, eo29⟩ := Kd.R_slice HO_4.out; subst eo29; have p314 : 0 ≤ (x7_1 : Int) := of_decide_eq_true sqH; have q314 : x7_1 < (t304.length : Int) := of_decide_eq_true sqH; obtain ⟨ad314, e314, hx314_0⟩ := Kd.at_int (Kd.R_reads' HO_4.out).2.2 x7_1 p314 q314; cases e314; replace p314 := eq_true p314; replace q314 := eq_true q314; have p315 : 0 ≤ (x8_2 : Int) := of_decide_eq_true sqH; have q315 : x8_2 < (t304.length : Int) := of_decide_eq_true sqH; obtain ⟨ad315, e315, hx315_0⟩ := Kd.at_int (Kd.R_reads' HO_4.out).2.2 x8_2 p315 q315; obtain rfl : ad314 = ad315 := (by injection e315); replace p315 := eq_true p315; replace q315 := eq_true q315; have p316 : 0 ≤ (x7_1 : Int) := of_decide_eq_true sqH; have q316 : x7_1 < (t301.length : Int) := of_decide_eq_true sqH; obtain ⟨ad316, A316_2, c316_2, A316_3, c316_3, e316, hx316_0, hx316_1, hx316_2, hx316_3, hx316_4, hx316_5, hx316_6, hl316_2, hi316_2, hl316_3, hi316_3⟩ := at_T57 (Kd.N_reads' HO_3.out).2.2 x7_1 p316 q316; obtain rfl : ad307 = ad316 := (by injection e316); obtain ⟨ce316, hce316, hMe316, hcc316⟩ := Kd.N_get HO_3.out z57 x7_1 p316 (by first | exact q316 | exact of_decide_eq_true sqH | (have e_ := (Kd.N_reads' HO_3.out).1; omega)); obtain ⟨ua316_2, uc316_2, ua316_3, uc316_3, rfl, ul316_2, ge316_2, ul316_3, ge316_3⟩ := k57_openF hMe316; have hv316_2 := hcc316 2 _ rfl; rw [add_field _ _ 2 (by omega)] at hv316_2; replace hv316_2 := Option.some.inj (hv316_2.symm.trans hx316_2); injection hv316_2 with hva_ hvn_ hvc_; rw [hva_] at ge316_2; rw [hvc_] at ul316_2; have HL316_2 := sqM (show Kd.V k62 62 _ w.heap.size _ _ ((rd_T57 t301 x7_1).f2) from Kd.V_mk ul316_2 ge316_2); clear hva_ hvn_ hvc_ ge316_2 ul316_2; have hv316_3 := hcc316 3 _ rfl; rw [add_field _ _ 3 (by omega)] at hv316_3; replace hv316_3 := Option.some.inj (hv316_3.symm.trans hx316_3); injection hv316_3 with hva_ hvn_ hvc_; rw [hva_] at ge316_3; rw [hvc_] at ul316_3; have HL316_3 := sqM (show Kd.V k59 59 _ w.heap.size _ _ ((rd_T57 t301 x7_1).f3) from Kd.V_mk ul316_3 ge316_3); clear hva_ hvn_ hvc_ ge316_3 ul316_3; clear hcc316 hce316; have HR316_2 := sqM hi316_2; have HC316_2 := sqM hl316_2; clear hi316_2 hl316_2; have HR316_3 := sqM hi316_3; have HC316_3 := sqM hl316_3; clear hi316_3 hl316_3; replace p316 := eq_true p316; replace q316 := eq_true q316; have ea_ := Option.some.inj (hx309_2.symm.trans hx316_2); injection ea_ with ea_ en_ ec_; subst ea_; subst ec_; clear en_; have ea_ := Option.some.inj (hx309_3.symm.trans hx316_3); injection ea_ with ea_ en_ ec_; subst ea_; subst ec_; clear en_)))
   go_roundg k2
   case measure => have := HK1.out; have := HK2.out; omega
   case rel => exact ⟨(wrap64 (x8_2 + 1)), sqI, H', ⟨by have := HK1.out; have := HK2.out; omega⟩, ⟨sqN HO_3.out⟩, ⟨sqR HO_4.out⟩, ⟨sqR HO_5.out⟩, ⟨sqR HO_6.out⟩, ⟨sqK BK300.out⟩, ⟨sqC HR307_2.out⟩, ⟨sqC HR307_3.out⟩, ⟨sqB1 HB.out GE300.out⟩⟩
 rw [if_pos c25] at H
 have c25b0 : decide (0 < ((rd_T57 t301 x7_1).f4)) = true := decide_eq_true c25
 clear c25
 by_cases c26 : ((rd_T57 t301 x7_1).f4) = ((rd_T57 t301 x8_2).f4)
 · rw [if_pos c26] at H
   have c26b0 : (((rd_T57 t301 x7_1).f4) == ((rd_T57 t301 x8_2).f4)) = true := beq_iff_eq.mpr c26
   have c26b1 : (((rd_T57 t301 x7_1).f4) != ((rd_T57 t301 x8_2).f4)) = false := bne_eq_false_iff_eq.mpr c26
   clear c26
   obtain rfl := Option.some.inj H
   have p309 : 0 ≤ (x7_1 : Int) := of_decide_eq_true sqH
   have q309 : x7_1 < (t301.length : Int) := of_decide_eq_true sqH
   obtain ⟨ad309, A309_2, c309_2, A309_3, c309_3, e309, hx309_0, hx309_1, hx309_2, hx309_3, hx309_4, hx309_5, hx309_6, hl309_2, hi309_2, hl309_3, hi309_3⟩ := at_T57 (Kd.N_reads' HO_3.out).2.2 x7_1 p309 q309
   obtain rfl : ad307 = ad309 := (by injection e309)
   obtain ⟨ce309, hce309, hMe309, hcc309⟩ := Kd.N_get HO_3.out z57 x7_1 p309 (by first | exact q309 | exact of_decide_eq_true sqH | (have e_ := (Kd.N_reads' HO_3.out).1; omega))
   obtain ⟨ua309_2, uc309_2, ua309_3, uc309_3, rfl, ul309_2, ge309_2, ul309_3, ge309_3⟩ := k57_openF hMe309
   have hv309_2 := hcc309 2 _ rfl
   rw [add_field _ _ 2 (by omega)] at hv309_2
   replace hv309_2 := Option.some.inj (hv309_2.symm.trans hx309_2)
   injection hv309_2 with hva_ hvn_ hvc_
   rw [hva_] at ge309_2
   rw [hvc_] at ul309_2
   have HL309_2 := sqM (show Kd.V k62 62 _ w.heap.size _ _ ((rd_T57 t301 x7_1).f2) from Kd.V_mk ul309_2 ge309_2)
   clear hva_ hvn_ hvc_ ge309_2 ul309_2
   have hv309_3 := hcc309 3 _ rfl
   rw [add_field _ _ 3 (by omega)] at hv309_3
   replace hv309_3 := Option.some.inj (hv309_3.symm.trans hx309_3)
   injection hv309_3 with hva_ hvn_ hvc_
   rw [hva_] at ge309_3
   rw [hvc_] at ul309_3
   have HL309_3 := sqM (show Kd.V k59 59 _ w.heap.size _ _ ((rd_T57 t301 x7_1).f3) from Kd.V_mk ul309_3 ge309_3)
   clear hva_ hvn_ hvc_ ge309_3 ul309_3
   clear hcc309 hce309
   have HR309_2 := sqM hi309_2
   have HC309_2 := sqM hl309_2
   clear hi309_2 hl309_2
   have HR309_3 := sqM hi309_3
   have HC309_3 := sqM hl309_3
   clear hi309_3 hl309_3
   replace p309 := eq_true p309
   replace q309 := eq_true q309
   have p310 : 0 ≤ (x7_1 : Int) := of_decide_eq_true sqH
   have q310 : x7_1 < (t301.length : Int) := of_decide_eq_true sqH
   obtain ⟨ad310, A310_2, c310_2, A310_3, c310_3, e310, hx310_0, hx310_1, hx310_2, hx310_3, hx310_4, hx310_5, hx310_6, hl310_2, hi310_2, hl310_3, hi310_3⟩ := at_T57 (Kd.N_reads' HO_3.out).2.2 x7_1 p310 q310
   obtain rfl : ad307 = ad310 := (by injection e310)
   obtain ⟨ce310, hce310, hMe310, hcc310⟩ := Kd.N_get HO_3.out z57 x7_1 p310 (by first | exact q310 | exact of_decide_eq_true sqH | (have e_ := (Kd.N_reads' HO_3.out).1; omega))
   obtain ⟨ua310_2, uc310_2, ua310_3, uc310_3, rfl, ul310_2, ge310_2, ul310_3, ge310_3⟩ := k57_openF hMe310
   have hv310_2 := hcc310 2 _ rfl
   rw [add_field _ _ 2 (by omega)] at hv310_2
   replace hv310_2 := Option.some.inj (hv310_2.symm.trans hx310_2)
   injection hv310_2 with hva_ hvn_ hvc_
   rw [hva_] at ge310_2
   rw [hvc_] at ul310_2
   have HL310_2 := sqM (show Kd.V k62 62 _ w.heap.size _ _ ((rd_T57 t301 x7_1).f2) from Kd.V_mk ul310_2 ge310_2)
   clear hva_ hvn_ hvc_ ge310_2 ul310_2
   have hv310_3 := hcc310 3 _ rfl
   rw [add_field _ _ 3 (by omega)] at hv310_3
   replace hv310_3 := Option.some.inj (hv310_3.symm.trans hx310_3)
   injection hv310_3 with hva_ hvn_ hvc_
   rw [hva_] at ge310_3
   rw [hvc_] at ul310_3
   have HL310_3 := sqM (show Kd.V k59 59 _ w.heap.size _ _ ((rd_T57 t301 x7_1).f3) from Kd.V_mk ul310_3 ge310_3)
   clear hva_ hvn_ hvc_ ge310_3 ul310_3
   clear hcc310 hce310
   have HR310_2 := sqM hi310_2
   have HC310_2 := sqM hl310_2
   clear hi310_2 hl310_2
   have HR310_3 := sqM hi310_3
   have HC310_3 := sqM hl310_3
   clear hi310_3 hl310_3
   replace p310 := eq_true p310
   replace q310 := eq_true q310
   have ea_ := Option.some.inj (hx309_2.symm.trans hx310_2)
   injection ea_ with ea_ en_ ec_
   subst ea_
   subst ec_
   clear en_
   have ea_ := Option.some.inj (hx309_3.symm.trans hx310_3)
   injection ea_ with ea_ en_ ec_
   subst ea_
   subst ec_
   clear en_
   have p311 : 0 ≤ (x8_2 : Int) := of_decide_eq_true sqH
   have q311 : x8_2 < (t301.length : Int) := of_decide_eq_true sqH
   obtain ⟨ad311, A311_2, c311_2, A311_3, c311_3, e311, hx311_0, hx311_1, hx311_2, hx311_3, hx311_4, hx311_5, hx311_6, hl311_2, hi311_2, hl311_3, hi311_3⟩ := at_T57 (Kd.N_reads' HO_3.out).2.2 x8_2 p311 q311
   obtain rfl : ad307 = ad311 := (by injection e311)
   obtain ⟨ce311, hce311, hMe311, hcc311⟩ := Kd.N_get HO_3.out z57 x8_2 p311 (by first | exact q311 | exact of_decide_eq_true sqH | (have e_ := (Kd.N_reads' HO_3.out).1; omega))
   obtain ⟨ua311_2, uc311_2, ua311_3, uc311_3, rfl, ul311_2, ge311_2, ul311_3, ge311_3⟩ := k57_openF hMe311
   have hv311_2 := hcc311 2 _ rfl
   rw [add_field _ _ 2 (by omega)] at hv311_2
   replace hv311_2 := Option.some.inj (hv311_2.symm.trans hx311_2)
   injection hv311_2 with hva_ hvn_ hvc_
   rw [hva_] at ge311_2
   rw [hvc_] at ul311_2
   have HL311_2 := sqM (show Kd.V k62 62 _ w.heap.size _ _ ((rd_T57 t301 x8_2).f2) from Kd.V_mk ul311_2 ge311_2)
   clear hva_ hvn_ hvc_ ge311_2 ul311_2
   have hv311_3 := hcc311 3 _ rfl
   rw [add_field _ _ 3 (by omega)] at hv311_3
   replace hv311_3 := Option.some.inj (hv311_3.symm.trans hx311_3)
   injection hv311_3 with hva_ hvn_ hvc_
   rw [hva_] at ge311_3
   rw [hvc_] at ul311_3
   have HL311_3 := sqM (show Kd.V k59 59 _ w.heap.size _ _ ((rd_T57 t301 x8_2).f3) from Kd.V_mk ul311_3 ge311_3)
   clear hva_ hvn_ hvc_ ge311_3 ul311_3
   clear hcc311 hce311
   have HR311_2 := sqM hi311_2
   have HC311_2 := sqM hl311_2
   clear hi311_2 hl311_2
   have HR311_3 := sqM hi311_3
   have HC311_3 := sqM hl311_3
   clear hi311_3 hl311_3
   replace p311 := eq_true p311
   replace q311 := eq_true q311
   have p312 : 0 ≤ (x8_2 : Int) := of_decide_eq_true sqH
   have q312 : x8_2 < (t301.length : Int) := of_decide_eq_true sqH
   obtain ⟨ad312, A312_2, c312_2, A312_3, c312_3, e312, hx312_0, hx312_1, hx312_2, hx312_3, hx312_4, hx312_5, hx312_6, hl312_2, hi312_2, hl312_3, hi312_3⟩ := at_T57 (Kd.N_reads' HO_3.out).2.2 x8_2 p312 q312
   obtain rfl : ad307 = ad312 := (by injection e312)
   obtain ⟨ce312, hce312, hMe312, hcc312⟩ := Kd.N_get HO_3.out z57 x8_2 p312 (by first | exact q312 | exact of_decide_eq_true sqH | (have e_ := (Kd.N_reads' HO_3.out).1; omega))
   obtain ⟨ua312_2, uc312_2, ua312_3, uc312_3, rfl, ul312_2, ge312_2, ul312_3, ge312_3⟩ := k57_openF hMe312
   have hv312_2 := hcc312 2 _ rfl
   rw [add_field _ _ 2 (by omega)] at hv312_2
   replace hv312_2 := Option.some.inj (hv312_2.symm.trans hx312_2)
   injection hv312_2 with hva_ hvn_ hvc_
   rw [hva_] at ge312_2
   rw [hvc_] at ul312_2
   have HL312_2 := sqM (show Kd.V k62 62 _ w.heap.size _ _ ((rd_T57 t301 x8_2).f2) from Kd.V_mk ul312_2 ge312_2)
   clear hva_ hvn_ hvc_ ge312_2 ul312_2
   have hv312_3 := hcc312 3 _ rfl
   rw [add_field _ _ 3 (by omega)] at hv312_3
   replace hv312_3 := Option.some.inj (hv312_3.symm.trans hx312_3)
   injection hv312_3 with hva_ hvn_ hvc_
   rw [hva_] at ge312_3
   rw [hvc_] at ul312_3
   have HL312_3 := sqM (show Kd.V k59 59 _ w.heap.size _ _ ((rd_T57 t301 x8_2).f3) from Kd.V_mk ul312_3 ge312_3)
   clear hva_ hvn_ hvc_ ge312_3 ul312_3
   clear hcc312 hce312
   have HR312_2 := sqM hi312_2
   have HC312_2 := sqM hl312_2
   clear hi312_2 hl312_2
   have HR312_3 := sqM hi312_3
   have HC312_3 := sqM hl312_3
   clear hi312_3 hl312_3
   replace p312 := eq_true p312
   replace q312 := eq_true q312
   have ea_ := Option.some.inj (hx311_2.symm.trans hx312_2)
   injection ea_ with ea_ en_ ec_
   subst ea_
   subst ec_
   clear en_
   have ea_ := Option.some.inj (hx311_3.symm.trans hx312_3)
   injection ea_ with ea_ en_ ec_
   subst ea_
   subst ec_
   clear en_
   go_wp2_with (first | (go_at_call 74; (with_reducible refine (boarderref01_Meet.calls _ _ _ _ _ _ _ A19.out).mono ?_); rintro e w' ⟨rfl, ⟨nd, rfl⟩⟩; (try first | exact ⟨rfl, _, World.drewN_drewN _ _ _⟩ | exact ⟨rfl, _, Eq.trans (World.drewN_drewN _ _ _) (congrArg (World.drewN _) (Nat.add_assoc _ _ _))⟩); obtain ⟨Ao27, co27, eo27⟩ := Kd.R_slice HO_4.out; subst eo27; have p314 : 0 ≤ (x7_1 : Int) := of_decide_eq_true sqH; have q314 : x7_1 < (t304.length : Int) := of_decide_eq_true sqH; obtain ⟨ad314, e314, hx314_0⟩ := Kd.at_int (Kd.R_reads' HO_4.out).2.2 x7_1 p314 q314; cases e314; replace p314 := eq_true p314; replace q314 := eq_true q314; have p315 : 0 ≤ (x8_2 : Int) := of_decide_eq_true sqH; have q315 : x8_2 < (t304.length : Int) := of_decide_eq_true sqH; obtain ⟨ad315, e315, hx315_0⟩ := Kd.at_int (Kd.R_reads' HO_4.out).2.2 x8_2 p315 q315; obtain rfl : ad314 = ad315 := (by injection e315); replace p315 := eq_true p315; replace q315 := eq_true q315; have p316 : 0 ≤ (x7_1 : Int) := of_decide_eq_true sqH; have q316 : x7_1 < (t301.length : Int) := of_decide_eq_true sqH; obtain ⟨ad316, A316_2, c316_2, A316_3, c316_3, e316, hx316_0, hx316_1, hx316_2, hx316_3, hx316_4, hx316_5, hx316_6, hl316_2, hi316_2, hl316_3, hi316_3⟩ := at_T57 (Kd.N_reads' HO_3.out).2.2 x7_1 p316 q316; obtain rfl : ad307 = ad316 := (by injection e316); obtain ⟨ce316, hce316, hMe316, hcc316⟩ := Kd.N_get HO_3.out z57 x7_1 p316 (by first | exact q316 | exact of_decide_eq_true sqH | (have e_ := (Kd.N_reads' HO_3.out).1; omega)); obtain ⟨ua316_2, uc316_2, ua316_3, uc316_3, rfl, ul316_2, ge316_2, ul316_3, ge316_3⟩ := k57_openF hMe316; have hv316_2 := hcc316 2 _ rfl; rw [add_field _ _ 2 (by omega)] at hv316_2; replace hv316_2 := Option.some.inj (hv316_2.symm.trans hx316_2); injection hv316_2 with hva_ hvn_ hvc_; rw [hva_] at ge316_2; rw [hvc_] at ul316_2; have HL316_2 := sqM (show Kd.V k62 62 _ w.heap.size _ _ ((rd_T57 t301 x7_1).f2) from Kd.V_mk ul316_2 ge316_2); clear hva_ hvn_ hvc_ ge316_2 ul316_2; have hv316_3 := hcc316 3 _ rfl; rw [add_field _ _ 3 (by omega)] at hv316_3; replace hv316_3 := Option.some.inj (hv316_3.symm.trans hx316_3); injection hv316_3 with hva_ hvn_ hvc_; rw [hva_] at ge316_3; rw [hvc_] at ul316_3; have HL316_3 := sqM (show Kd.V k59 59 _ w.heap.size _ _ ((rd_T57 t301 x7_1).f3) from Kd.V_mk ul316_3 ge316_3); clear hva_ hvn_ hvc_ ge316_3 ul316_3; clear hcc316 hce316; have HR316_2 := sqM hi316_2; have HC316_2 := sqM hl316_2; clear hi316_2 hl316_2; have HR316_3 := sqM hi316_3; have HC316_3 := sqM hl316_3; clear hi316_3 hl316_3; replace p316 := eq_true p316; replace q316 := eq_true q316; have ea_ := Option.some.inj (hx309_2.symm.trans hx316_2); injection ea_ with ea_ en_ ec_; subst ea_; subst ec_; clear en_; have ea_ := Option.some.inj (hx309_3.symm.trans hx316_3); injection ea_ with ea_ en_ ec_; subst ea_; subst ec_; clear en_; have p317 : 0 ≤ (x7_1 : Int) := of_decide_eq_true sqH; have q317 : x7_1 < (t301.length : Int) := of_decide_eq_true sqH; obtain ⟨ad317, A317_2, c317_2, A317_3, c317_3, e317, hx317_0, hx317_1, hx317_2, hx317_3, hx317_4, hx317_5, hx317_6, hl317_2, hi317_2, hl317_3, hi317_3⟩ := at_T57 (Kd.N_reads' HO_3.out).2.2 x7_1 p317 q317; obtain rfl : ad307 = ad317 := (by injection e317); obtain ⟨ce317, hce317, hMe317, hcc317⟩ := Kd.N_get HO_3.out z57 x7_1 p317 (by first | exact q317 | exact of_decide_eq_true sqH | (have e_ := (Kd.N_reads' HO_3.out).1; omega)); obtain ⟨ua317_2, uc317_2, ua317_3, uc317_3, rfl, ul317_2, ge317_2, ul317_3, ge317_3⟩ := k57_openF hMe317; have hv317_2 := hcc317 2 _ rfl; rw [add_field _ _ 2 (by omega)] at hv317_2; replace hv317_2 := Option.some.inj (hv317_2.symm.trans hx317_2); injection hv317_2 with hva_ hvn_ hvc_; rw [hva_] at ge317_2; rw [hvc_] at ul317_2; have HL317_2 := sqM (show Kd.V k62 62 _ w.heap.size _ _ ((rd_T57 t301 x7_1).f2) from Kd.V_mk ul317_2 ge317_2); clear hva_ hvn_ hvc_ ge317_2 ul317_2; have hv317_3 := hcc317 3 _ rfl; rw [add_field _ _ 3 (by omega)] at hv317_3; replace hv317_3 := Option.some.inj (hv317_3.symm.trans hx317_3); injection hv317_3 with hva_ hvn_ hvc_; rw [hva_] at ge317_3; rw [hvc_] at ul317_3; have HL317_3 := sqM (show Kd.V k59 59 _ w.heap.size _ _ ((rd_T57 t301 x7_1).f3) from Kd.V_mk ul317_3 ge317_3); clear hva_ hvn_ hvc_ ge317_3 ul317_3; clear hcc317 hce317; have HR317_2 := sqM hi317_2; have HC317_2 := sqM hl317_2; clear hi317_2 hl317_2; have HR317_3 := sqM hi317_3; have HC317_3 := sqM hl317_3; clear hi317_3 hl317_3; replace p317 := eq_true p317; replace q317 := eq_true q317; have ea_ := Option.some.inj (hx309_2.symm.trans hx317_2); injection ea_ with ea_ en_ ec_; subst ea_; subst ec_; clear en_; have ea_ := Option.some.inj (hx309_3.symm.trans hx317_3); injection ea_ with ea_ en_ ec_; subst ea_; subst ec_; clear en_; have p318 : 0 ≤ (x8_2 : Int) := of_decide_eq_true sqH; have q318 : x8_2 < (t301.length : Int) := of_decide_eq_true sqH; obtain ⟨ad318, A318_2, c318_2, A318_3, c318_3, e318, hx318_0, hx318_1, hx318_2, hx318_3, hx318_4, hx318_5, hx318_6, hl318_2, hi318_2, hl318_3, hi318_3⟩ := at_T57 (Kd.N_reads' HO_3.out).2.2 x8_2 p318 q318; obtain rfl : ad307 = ad318 := (by injection e318); obtain ⟨ce318, hce318, hMe318, hcc318⟩ := Kd.N_get HO_3.out z57 x8_2 p318 (by first | exact q318 | exact of_decide_eq_true sqH | (have e_ := (Kd.N_reads' HO_3.out).1; omega)); obtain ⟨ua318_2, uc318_2, ua318_3, uc318_3, rfl, ul318_2, ge318_2, ul318_3, ge318_3⟩ := k57_openF hMe318; have hv318_2 := hcc318 2 _ rfl; rw [add_field _ _ 2 (by omega)] at hv318_2; replace hv318_2 := Option.some.inj (hv318_2.symm.trans hx318_2); injection hv318_2 with hva_ hvn_ hvc_; rw [hva_] at ge318_2; rw [hvc_] at ul318_2; have HL318_2 := sqM (show Kd.V k62 62 _ w.heap.size _ _ ((rd_T57 t301 x8_2).f2) from Kd.V_mk ul318_2 ge318_2); clear hva_ hvn_ hvc_ ge318_2 ul318_2; have hv318_3 := hcc318 3 _ rfl; rw [add_field _ _ 3 (by omega)] at hv318_3; replace hv318_3 := Option.some.inj (hv318_3.symm.trans hx318_3); injection hv318_3 with hva_ hvn_ hvc_; rw [hva_] at ge318_3; rw [hvc_] at ul318_3; have HL318_3 := sqM (show Kd.V k59 59 _ w.heap.size _ _ ((rd_T57 t301 x8_2).f3) from Kd.V_mk ul318_3 ge318_3); clear hva_ hvn_ hvc_ ge318_3 ul318_3; clear hcc318 hce318; have HR318_2 := sqM hi318_2; have HC318_2 := sqM hl318_2; clear hi318_2 hl318_2; have HR318_3 := sqM hi318_3; have HC318_3 := sqM hl318_3; clear hi318_3 hl318_3; replace p318 := eq_true p318; replace q318 := eq_true q318; have ea_ := Option.some.inj (hx311_2.symm.trans hx318_2); injection ea_ with ea_ en_ ec_; subst ea_; subst ec_; clear en_; have ea_ := Option.some.inj (hx311_3.symm.trans hx318_3); injection ea_ with ea_ en_ ec_; subst ea_; subst ec_; clear en_))
   repeat (go_quiet (first | (go_at_call 74; (with_reducible refine (boarderref01_Meet.calls _ _ _ _ _ _ _ A19.out).mono ?_); rintro e w' ⟨rfl, ⟨nd, rfl⟩⟩; (try first | exact ⟨rfl, _, World.drewN_drewN _ _ _⟩ | exact ⟨rfl, _, Eq.trans (World.drewN_drewN _ _ _) (congrArg (World.drewN _) (Nat.add_assoc _ _ _))⟩); obtain ⟨Ao27, co27, eo27⟩ := Kd.R_slice HO_4.out; subst eo27; have p314 : 0 ≤ (x7_1 : Int) := of_decide_eq_true sqH; have q314 : x7_1 < (t304.length : Int) := of_decide_eq_true sqH; obtain ⟨ad314, e314, hx314_0⟩ := Kd.at_int (Kd.R_reads' HO_4.out).2.2 x7_1 p314 q314; cases e314; replace p314 := eq_true p314; replace q314 := eq_true q314; have p315 : 0 ≤ (x8_2 : Int) := of_decide_eq_true sqH; have q315 : x8_2 < (t304.length : Int) := of_decide_eq_true sqH; obtain ⟨ad315, e315, hx315_0⟩ := Kd.at_int (Kd.R_reads' HO_4.out).2.2 x8_2 p315 q315; obtain rfl : ad314 = ad315 := (by injection e315); replace p315 := eq_true p315; replace q315 := eq_true q315; have p316 : 0 ≤ (x7_1 : Int) := of_decide_eq_true sqH; have q316 : x7_1 < (t301.length : Int) := of_decide_eq_true sqH; obtain ⟨ad316, A316_2, c316_2, A316_3, c316_3, e316, hx316_0, hx316_1, hx316_2, hx316_3, hx316_4, hx316_5, hx316_6, hl316_2, hi316_2, hl316_3, hi316_3⟩ := at_T57 (Kd.N_reads' HO_3.out).2.2 x7_1 p316 q316; obtain rfl : ad307 = ad316 := (by injection e316); obtain ⟨ce316, hce316, hMe316, hcc316⟩ := Kd.N_get HO_3.out z57 x7_1 p316 (by first | exact q316 | exact of_decide_eq_true sqH | (have e_ := (Kd.N_reads' HO_3.out).1; omega)); obtain ⟨ua316_2, uc316_2, ua316_3, uc316_3, rfl, ul316_2, ge316_2, ul316_3, ge316_3⟩ := k57_openF hMe316; have hv316_2 := hcc316 2 _ rfl; rw [add_field _ _ 2 (by omega)] at hv316_2; replace hv316_2 := Option.some.inj (hv316_2.symm.trans hx316_2); injection hv316_2 with hva_ hvn_ hvc_; rw [hva_] at ge316_2; rw [hvc_] at ul316_2; have HL316_2 := sqM (show Kd.V k62 62 _ w.heap.size _ _ ((rd_T57 t301 x7_1).f2) from Kd.V_mk ul316_2 ge316_2); clear hva_ hvn_ hvc_ ge316_2 ul316_2; have hv316_3 := hcc316 3 _ rfl; rw [add_field _ _ 3 (by omega)] at hv316_3; replace hv316_3 := Option.some.inj (hv316_3.symm.trans hx316_3); injection hv316_3 with hva_ hvn_ hvc_; rw [hva_] at ge316_3; rw [hvc_] at ul316_3; have HL316_3 := sqM (show Kd.V k59 59 _ w.heap.size _ _ ((rd_T57 t301 x7_1).f3) from Kd.V_mk ul316_3 ge316_3); clear hva_ hvn_ hvc_ ge316_3 ul316_3; clear hcc316 hce316; have HR316_2 := sqM hi316_2; have HC316_2 := sqM hl316_2; clear hi316_2 hl316_2; have HR316_3 := sqM hi316_3; have HC316_3 := sqM hl316_3; clear hi316_3 hl316_3; replace p316 := eq_true p316; replace q316 := eq_true q316; have ea_ := Option.some.inj (hx309_2.symm.trans hx316_2); injection ea_ with ea_ en_ ec_; subst ea_; subst ec_; clear en_; have ea_ := Option.some.inj (hx309_3.symm.trans hx316_3); injection ea_ with ea_ en_ ec_; subst ea_; subst ec_; clear en_; have p317 : 0 ≤ (x7_1 : Int) := of_decide_eq_true sqH; have q317 : x7_1 < (t301.length : Int) := of_decide_eq_true sqH; obtain ⟨ad317, A317_2, c317_2, A317_3, c317_3, e317, hx317_0, hx317_1, hx317_2, hx317_3, hx317_4, hx317_5, hx317_6, hl317_2, hi317_2, hl317_3, hi317_3⟩ := at_T57 (Kd.N_reads' HO_3.out).2.2 x7_1 p317 q317; obtain rfl : ad307 = ad317 := (by injection e317); obtain ⟨ce317, hce317, hMe317, hcc317⟩ := Kd.N_get HO_3.out z57 x7_1 p317 (by first | exact q317 | exact of_decide_eq_true sqH | (have e_ := (Kd.N_reads' HO_3.out).1; omega)); obtain ⟨ua317_2, uc317_2, ua317_3, uc317_3, rfl, ul317_2, ge317_2, ul317_3, ge317_3⟩ := k57_openF hMe317; have hv317_2 := hcc317 2 _ rfl; rw [add_field _ _ 2 (by omega)] at hv317_2; replace hv317_2 := Option.some.inj (hv317_2.symm.trans hx317_2); injection hv317_2 with hva_ hvn_ hvc_; rw [hva_] at ge317_2; rw [hvc_] at ul317_2; have HL317_2 := sqM (show Kd.V k62 62 _ w.heap.size _ _ ((rd_T57 t301 x7_1).f2) from Kd.V_mk ul317_2 ge317_2); clear hva_ hvn_ hvc_ ge317_2 ul317_2; have hv317_3 := hcc317 3 _ rfl; rw [add_field _ _ 3 (by omega)] at hv317_3; replace hv317_3 := Option.some.inj (hv317_3.symm.trans hx317_3); injection hv317_3 with hva_ hvn_ hvc_; rw [hva_] at ge317_3; rw [hvc_] at ul317_3; have HL317_3 := sqM (show Kd.V k59 59 _ w.heap.size _ _ ((rd_T57 t301 x7_1).f3) from Kd.V_mk ul317_3 ge317_3); clear hva_ hvn_ hvc_ ge317_3 ul317_3; clear hcc317 hce317; have HR317_2 := sqM hi317_2; have HC317_2 := sqM hl317_2; clear hi317_2 hl317_2; have HR317_3 := sqM hi317_3; have HC317_3 := sqM hl317_3; clear hi317_3 hl317_3; replace p317 := eq_true p317; replace q317 := eq_true q317; have ea_ := Option.some.inj (hx309_2.symm.trans hx317_2); injection ea_ with ea_ en_ ec_; subst ea_; subst ec_; clear en_; have ea_ := Option.some.inj (hx309_3.symm.trans hx317_3); injection ea_ with ea_ en_ ec_; subst ea_; subst ec_; clear en_; have p318 : 0 ≤ (x8_2 : Int) := of_decide_eq_true sqH; have q318 : x8_2 < (t301.length : Int) := of_decide_eq_true sqH; obtain ⟨ad318, A318_2, c318_2, A318_3, c318_3, e318, hx318_0, hx318_1, hx318_2, hx318_3, hx318_4, hx318_5, hx318_6, hl318_2, hi318_2, hl318_3, hi318_3⟩ := at_T57 (Kd.N_reads' HO_3.out).2.2 x8_2 p318 q318; obtain rfl : ad307 = ad318 := (by injection e318); obtain ⟨ce318, hce318, hMe318, hcc318⟩ := Kd.N_get HO_3.out z57 x8_2 p318 (by first | exact q318 | exact of_decide_eq_true sqH | (have e_ := (Kd.N_reads' HO_3.out).1; omega)); obtain ⟨ua318_2, uc318_2, ua318_3, uc318_3, rfl, ul318_2, ge318_2, ul318_3, ge318_3⟩ := k57_openF hMe318; have hv318_2 := hcc318 2 _ rfl; rw [add_field _ _ 2 (by omega)] at hv318_2; replace hv318_2 := Option.some.inj (hv318_2.symm.trans hx318_2); injection hv318_2 with hva_ hvn_ hvc_; rw [hva_] at ge318_2; rw [hvc_] at ul318_2; have HL318_2 := sqM (show Kd.V k62 62 _ w.heap.size _ _ ((rd_T57 t301 x8_2).f2) from Kd.V_mk ul318_2 ge318_2); clear hva_ hvn_ hvc_ ge318_2 ul318_2; have hv318_3 := hcc318 3 _ rfl; rw [add_field _ _ 3 (by omega)] at hv318_3; replace hv318_3 := Option.some.inj (hv318_3.symm.trans hx318_3); injection hv318_3 with hva_ hvn_ hvc_; rw [hva_] at ge318_3; rw [hvc_] at ul318_3; have HL318_3 := sqM (show Kd.V k59 59 _ w.heap.size _ _ ((rd_T57 t301 x8_2).f3) from Kd.V_mk ul318_3 ge318_3); clear hva_ hvn_ hvc_ ge318_3 ul318_3; clear hcc318 hce318; have HR318_2 := sqM hi318_2; have HC318_2 := sqM hl318_2; clear hi318_2 hl318_2; have HR318_3 := sqM hi318_3; have HC318_3 := sqM hl318_3; clear hi318_3 hl318_3; replace p318 := eq_true p318; replace q318 := eq_true q318; have ea_ := Option.some.inj (hx311_2.symm.trans hx318_2); injection ea_ with ea_ en_ ec_; subst ea_; subst ec_; clear en_; have ea_ := Option.some.inj (hx311_3.symm.trans hx318_3); injection ea_ with ea_ en_ ec_; subst ea_; subst ec_; clear en_)); try go_wp2_with (first | (go_at_call 74; (with_reducible refine (boarderref01_Meet.calls _ _ _ _ _ _ _ A19.out).mono ?_); rintro e w' ⟨rfl, ⟨nd, rfl⟩⟩; (try first | exact ⟨rfl, _, World.drewN_drewN _ _ _⟩ | exact ⟨rfl, _, Eq.trans (World.drewN_drewN _ _ _) (congrArg (World.drewN _) (Nat.add_assoc _ _ _))⟩); obtain ⟨Ao27, co27, eo27⟩ := Kd.R_slice HO_4.out; subst eo27; have p314 : 0 ≤ (x7_1 : Int) := of_decide_eq_true sqH; have q314 : x7_1 < (t304.length : Int) := of_decide_eq_true sqH; obtain ⟨ad314, e314, hx314_0⟩ := Kd.at_int (Kd.R_reads' HO_4.out).2.2 x7_1 p314 q314; cases e314; replace p314 := eq_true p314; replace q314 := eq_true q314; have p315 : 0 ≤ (x8_2 : Int) := of_decide_eq_true sqH; have q315 : x8_2 < (t304.length : Int) := of_decide_eq_true sqH; obtain ⟨ad315, e315, hx315_0⟩ := Kd.at_int (Kd.R_reads' HO_4.out).2.2 x8_2 p315 q315; obtain rfl : ad314 = ad315 := (by injection e315); replace p315 := eq_true p315; replace q315 := eq_true q315; have p316 : 0 ≤ (x7_1 : Int) := of_decide_eq_true sqH; have q316 : x7_1 < (t301.length : Int) := of_decide_eq_true sqH; obtain ⟨ad316, A316_2, c316_2, A316_3, c316_3, e316, hx316_0, hx316_1, hx316_2, hx316_3, hx316_4, hx316_5, hx316_6, hl316_2, hi316_2, hl316_3, hi316_3⟩ := at_T57 (Kd.N_reads' HO_3.out).2.2 x7_1 p316 q316; obtain rfl : ad307 = ad316 := (by injection e316); obtain ⟨ce316, hce316, hMe316, hcc316⟩ := Kd.N_get HO_3.out z57 x7_1 p316 (by first | exact q316 | exact of_decide_eq_true sqH | (have e_ := (Kd.N_reads' HO_3.out).1; omega)); obtain ⟨ua316_2, uc316_2, ua316_3, uc316_3, rfl, ul316_2, ge316_2, ul316_3, ge316_3⟩ := k57_openF hMe316; have hv316_2 := hcc316 2 _ rfl; rw [add_field _ _ 2 (by omega)] at hv316_2; replace hv316_2 := Option.some.inj (hv316_2.symm.trans hx316_2); injection hv316_2 with hva_ hvn_ hvc_; rw [hva_] at ge316_2; rw [hvc_] at ul316_2; have HL316_2 := sqM (show Kd.V k62 62 _ w.heap.size _ _ ((rd_T57 t301 x7_1).f2) from Kd.V_mk ul316_2 ge316_2); clear hva_ hvn_ hvc_ ge316_2 ul316_2; have hv316_3 := hcc316 3 _ rfl; rw [add_field _ _ 3 (by omega)] at hv316_3; replace hv316_3 := Option.some.inj (hv316_3.symm.trans hx316_3); injection hv316_3 with hva_ hvn_ hvc_; rw [hva_] at ge316_3; rw [hvc_] at ul316_3; have HL316_3 := sqM (show Kd.V k59 59 _ w.heap.size _ _ ((rd_T57 t301 x7_1).f3) from Kd.V_mk ul316_3 ge316_3); clear hva_ hvn_ hvc_ ge316_3 ul316_3; clear hcc316 hce316; have HR316_2 := sqM hi316_2; have HC316_2 := sqM hl316_2; clear hi316_2 hl316_2; have HR316_3 := sqM hi316_3; have HC316_3 := sqM hl316_3; clear hi316_3 hl316_3; replace p316 := eq_true p316; replace q316 := eq_true q316; have ea_ := Option.some.inj (hx309_2.symm.trans hx316_2); injection ea_ with ea_ en_ ec_; subst ea_; subst ec_; clear en_; have ea_ := Option.some.inj (hx309_3.symm.trans hx316_3); injection ea_ with ea_ en_ ec_; subst ea_; subst ec_; clear en_; have p317 : 0 ≤ (x7_1 : Int) := of_decide_eq_true sqH; have q317 : x7_1 < (t301.length : Int) := of_decide_eq_true sqH; obtain ⟨ad317, A317_2, c317_2, A317_3, c317_3, e317, hx317_0, hx317_1, hx317_2, hx317_3, hx317_4, hx317_5, hx317_6, hl317_2, hi317_2, hl317_3, hi317_3⟩ := at_T57 (Kd.N_reads' HO_3.out).2.2 x7_1 p317 q317; obtain rfl : ad307 = ad317 := (by injection e317); obtain ⟨ce317, hce317, hMe317, hcc317⟩ := Kd.N_get HO_3.out z57 x7_1 p317 (by first | exact q317 | exact of_decide_eq_true sqH | (have e_ := (Kd.N_reads' HO_3.out).1; omega)); obtain ⟨ua317_2, uc317_2, ua317_3, uc317_3, rfl, ul317_2, ge317_2, ul317_3, ge317_3⟩ := k57_openF hMe317; have hv317_2 := hcc317 2 _ rfl; rw [add_field _ _ 2 (by omega)] at hv317_2; replace hv317_2 := Option.some.inj (hv317_2.symm.trans hx317_2); injection hv317_2 with hva_ hvn_ hvc_; rw [hva_] at ge317_2; rw [hvc_] at ul317_2; have HL317_2 := sqM (show Kd.V k62 62 _ w.heap.size _ _ ((rd_T57 t301 x7_1).f2) from Kd.V_mk ul317_2 ge317_2); clear hva_ hvn_ hvc_ ge317_2 ul317_2; have hv317_3 := hcc317 3 _ rfl; rw [add_field _ _ 3 (by omega)] at hv317_3; replace hv317_3 := Option.some.inj (hv317_3.symm.trans hx317_3); injection hv317_3 with hva_ hvn_ hvc_; rw [hva_] at ge317_3; rw [hvc_] at ul317_3; have HL317_3 := sqM (show Kd.V k59 59 _ w.heap.size _ _ ((rd_T57 t301 x7_1).f3) from Kd.V_mk ul317_3 ge317_3); clear hva_ hvn_ hvc_ ge317_3 ul317_3; clear hcc317 hce317; have HR317_2 := sqM hi317_2; have HC317_2 := sqM hl317_2; clear hi317_2 hl317_2; have HR317_3 := sqM hi317_3; have HC317_3 := sqM hl317_3; clear hi317_3 hl317_3; replace p317 := eq_true p317; replace q317 := eq_true q317; have ea_ := Option.some.inj (hx309_2.symm.trans hx317_2); injection ea_ with ea_ en_ ec_; subst ea_; subst ec_; clear en_; have ea_ := Option.some.inj (hx309_3.symm.trans hx317_3); injection ea_ with ea_ en_ ec_; subst ea_; subst ec_; clear en_; have p318 : 0 ≤ (x8_2 : Int) := of_decide_eq_true sqH; have q318 : x8_2 < (t301.length : Int) := of_decide_eq_true sqH; obtain ⟨ad318, A318_2, c318_2, A318_3, c318_3, e318, hx318_0, hx318_1, hx318_2, hx318_3, hx318_4, hx318_5, hx318_6, hl318_2, hi318_2, hl318_3, hi318_3⟩ := at_T57 (Kd.N_reads' HO_3.out).2.2 x8_2 p318 q318; obtain rfl : ad307 = ad318 := (by injection e318); obtain ⟨ce318, hce318, hMe318, hcc318⟩ := Kd.N_get HO_3.out z57 x8_2 p318 (by first | exact q318 | exact of_decide_eq_true sqH | (have e_ := (Kd.N_reads' HO_3.out).1; omega)); obtain ⟨ua318_2, uc318_2, ua318_3, uc318_3, rfl, ul318_2, ge318_2, ul318_3, ge318_3⟩ := k57_openF hMe318; have hv318_2 := hcc318 2 _ rfl; rw [add_field _ _ 2 (by omega)] at hv318_2; replace hv318_2 := Option.some.inj (hv318_2.symm.trans hx318_2); injection hv318_2 with hva_ hvn_ hvc_; rw [hva_] at ge318_2; rw [hvc_] at ul318_2; have HL318_2 := sqM (show Kd.V k62 62 _ w.heap.size _ _ ((rd_T57 t301 x8_2).f2) from Kd.V_mk ul318_2 ge318_2); clear hva_ hvn_ hvc_ ge318_2 ul318_2; have hv318_3 := hcc318 3 _ rfl; rw [add_field _ _ 3 (by omega)] at hv318_3; replace hv318_3 := Option.some.inj (hv318_3.symm.trans hx318_3); injection hv318_3 with hva_ hvn_ hvc_; rw [hva_] at ge318_3; rw [hvc_] at ul318_3; have HL318_3 := sqM (show Kd.V k59 59 _ w.heap.size _ _ ((rd_T57 t301 x8_2).f3) from Kd.V_mk ul318_3 ge318_3); clear hva_ hvn_ hvc_ ge318_3 ul318_3; clear hcc318 hce318; have HR318_2 := sqM hi318_2; have HC318_2 := sqM hl318_2; clear hi318_2 hl318_2; have HR318_3 := sqM hi318_3; have HC318_3 := sqM hl318_3; clear hi318_3 hl318_3; replace p318 := eq_true p318; replace q318 := eq_true q318; have ea_ := Option.some.inj (hx311_2.symm.trans hx318_2); injection ea_ with ea_ en_ ec_; subst ea_; subst ec_; clear en_; have ea_ := Option.some.inj (hx311_3.symm.trans hx318_3); injection ea_ with ea_ en_ ec_; subst ea_; subst ec_; clear en_)))
   go_ret
   exact ⟨sqE, sqB1 HB.out GE300.out⟩
 rw [if_neg c26] at H
 have c26b0 : (((rd_T57 t301 x7_1).f4) == ((rd_T57 t301 x8_2).f4)) = false := beq_eq_false_iff_ne.mpr c26
 have c26b1 : (((rd_T57 t301 x7_1).f4) != ((rd_T57 t301 x8_2).f4)) = true := bne_iff_ne.mpr c26
 have H' := Aside0.mk H
 clear H
 have p309 : 0 ≤ (x7_1 : Int) := of_decide_eq_true sqH
 have q309 : x7_1 < (t301.length : Int) := of_decide_eq_true sqH
 obtain ⟨ad309, A309_2, c309_2, A309_3, c309_3, e309, hx309_0, hx309_1, hx309_2, hx309_3, hx309_4, hx309_5, hx309_6, hl309_2, hi309_2, hl309_3, hi309_3⟩ := at_T57 (Kd.N_reads' HO_3.out).2.2 x7_1 p309 q309
 obtain rfl : ad307 = ad309 := (by injection e309)
 obtain ⟨ce309, hce309, hMe309, hcc309⟩ := Kd.N_get HO_3.out z57 x7_1 p309 (by first | exact q309 | exact of_decide_eq_true sqH | (have e_ := (Kd.N_reads' HO_3.out).1; omega))
 obtain ⟨ua309_2, uc309_2, ua309_3, uc309_3, rfl, ul309_2, ge309_2, ul309_3, ge309_3⟩ := k57_openF hMe309
 have hv309_2 := hcc309 2 _ rfl
 rw [add_field _ _ 2 (by omega)] at hv309_2
 replace hv309_2 := Option.some.inj (hv309_2.symm.trans hx309_2)
 injection hv309_2 with hva_ hvn_ hvc_
 rw [hva_] at ge309_2
 rw [hvc_] at ul309_2
 have HL309_2 := sqM (show Kd.V k62 62 _ w.heap.size _ _ ((rd_T57 t301 x7_1).f2) from Kd.V_mk ul309_2 ge309_2)
 clear hva_ hvn_ hvc_ ge309_2 ul309_2
 have hv309_3 := hcc309 3 _ rfl
 rw [add_field _ _ 3 (by omega)] at hv309_3
 replace hv309_3 := Option.some.inj (hv309_3.symm.trans hx309_3)
 injection hv309_3 with hva_ hvn_ hvc_
 rw [hva_] at ge309_3
 rw [hvc_] at ul309_3
 have HL309_3 := sqM (show Kd.V k59 59 _ w.heap.size _ _ ((rd_T57 t301 x7_1).f3) from Kd.V_mk ul309_3 ge309_3)
 clear hva_ hvn_ hvc_ ge309_3 ul309_3
 clear hcc309 hce309
 have HR309_2 := sqM hi309_2
 have HC309_2 := sqM hl309_2
 clear hi309_2 hl309_2
 have HR309_3 := sqM hi309_3
 have HC309_3 := sqM hl309_3
 clear hi309_3 hl309_3
 replace p309 := eq_true p309
 replace q309 := eq_true q309
 have p310 : 0 ≤ (x7_1 : Int) := of_decide_eq_true sqH
 have q310 : x7_1 < (t301.length : Int) := of_decide_eq_true sqH
 obtain ⟨ad310, A310_2, c310_2, A310_3, c310_3, e310, hx310_0, hx310_1, hx310_2, hx310_3, hx310_4, hx310_5, hx310_6, hl310_2, hi310_2, hl310_3, hi310_3⟩ := at_T57 (Kd.N_reads' HO_3.out).2.2 x7_1 p310 q310
 obtain rfl : ad307 = ad310 := (by injection e310)
 obtain ⟨ce310, hce310, hMe310, hcc310⟩ := Kd.N_get HO_3.out z57 x7_1 p310 (by first | exact q310 | exact of_decide_eq_true sqH | (have e_ := (Kd.N_reads' HO_3.out).1; omega))
 obtain ⟨ua310_2, uc310_2, ua310_3, uc310_3, rfl, ul310_2, ge310_2, ul310_3, ge310_3⟩ := k57_openF hMe310
 have hv310_2 := hcc310 2 _ rfl
 rw [add_field _ _ 2 (by omega)] at hv310_2
 replace hv310_2 := Option.some.inj (hv310_2.symm.trans hx310_2)
 injection hv310_2 with hva_ hvn_ hvc_
 rw [hva_] at ge310_2
 rw [hvc_] at ul310_2
 have HL310_2 := sqM (show Kd.V k62 62 _ w.heap.size _ _ ((rd_T57 t301 x7_1).f2) from Kd.V_mk ul310_2 ge310_2)
 clear hva_ hvn_ hvc_ ge310_2 ul310_2
 have hv310_3 := hcc310 3 _ rfl
 rw [add_field _ _ 3 (by omega)] at hv310_3
 replace hv310_3 := Option.some.inj (hv310_3.symm.trans hx310_3)
 injection hv310_3 with hva_ hvn_ hvc_
 rw [hva_] at ge310_3
 rw [hvc_] at ul310_3
 have HL310_3 := sqM (show Kd.V k59 59 _ w.heap.size _ _ ((rd_T57 t301 x7_1).f3) from Kd.V_mk ul310_3 ge310_3)
 clear hva_ hvn_ hvc_ ge310_3 ul310_3
 clear hcc310 hce310
 have HR310_2 := sqM hi310_2
 have HC310_2 := sqM hl310_2
 clear hi310_2 hl310_2
 have HR310_3 := sqM hi310_3
 have HC310_3 := sqM hl310_3
 clear hi310_3 hl310_3
 replace p310 := eq_true p310
 replace q310 := eq_true q310
 have ea_ := Option.some.inj (hx309_2.symm.trans hx310_2)
 injection ea_ with ea_ en_ ec_
 subst ea_
 subst ec_
 clear en_
 have ea_ := Option.some.inj (hx309_3.symm.trans hx310_3)
 injection ea_ with ea_ en_ ec_
 subst ea_
 subst ec_
 clear en_
 have p311 : 0 ≤ (x8_2 : Int) := of_decide_eq_true sqH
 have q311 : x8_2 < (t301.length : Int) := of_decide_eq_true sqH
 obtain ⟨ad311, A311_2, c311_2, A311_3, c311_3, e311, hx311_0, hx311_1, hx311_2, hx311_3, hx311_4, hx311_5, hx311_6, hl311_2, hi311_2, hl311_3, hi311_3⟩ := at_T57 (Kd.N_reads' HO_3.out).2.2 x8_2 p311 q311
 obtain rfl : ad307 = ad311 := (by injection e311)
 obtain ⟨ce311, hce311, hMe311, hcc311⟩ := Kd.N_get HO_3.out z57 x8_2 p311 (by first | exact q311 | exact of_decide_eq_true sqH | (have e_ := (Kd.N_reads' HO_3.out).1; omega))
 obtain ⟨ua311_2, uc311_2, ua311_3, uc311_3, rfl, ul311_2, ge311_2, ul311_3, ge311_3⟩ := k57_openF hMe311
 have hv311_2 := hcc311 2 _ rfl
 rw [add_field _ _ 2 (by omega)] at hv311_2
 replace hv311_2 := Option.some.inj (hv311_2.symm.trans hx311_2)
 injection hv311_2 with hva_ hvn_ hvc_
 rw [hva_] at ge311_2
 rw [hvc_] at ul311_2
 have HL311_2 := sqM (show Kd.V k62 62 _ w.heap.size _ _ ((rd_T57 t301 x8_2).f2) from Kd.V_mk ul311_2 ge311_2)
 clear hva_ hvn_ hvc_ ge311_2 ul311_2
 have hv311_3 := hcc311 3 _ rfl
 rw [add_field _ _ 3 (by omega)] at hv311_3
 replace hv311_3 := Option.some.inj (hv311_3.symm.trans hx311_3)
 injection hv311_3 with hva_ hvn_ hvc_
 rw [hva_] at ge311_3
 rw [hvc_] at ul311_3
 have HL311_3 := sqM (show Kd.V k59 59 _ w.heap.size _ _ ((rd_T57 t301 x8_2).f3) from Kd.V_mk ul311_3 ge311_3)
 clear hva_ hvn_ hvc_ ge311_3 ul311_3
 clear hcc311 hce311
 have HR311_2 := sqM hi311_2
 have HC311_2 := sqM hl311_2
 clear hi311_2 hl311_2
 have HR311_3 := sqM hi311_3
 have HC311_3 := sqM hl311_3
 clear hi311_3 hl311_3
 replace p311 := eq_true p311
 replace q311 := eq_true q311
 have p312 : 0 ≤ (x8_2 : Int) := of_decide_eq_true sqH
 have q312 : x8_2 < (t301.length : Int) := of_decide_eq_true sqH
 obtain ⟨ad312, A312_2, c312_2, A312_3, c312_3, e312, hx312_0, hx312_1, hx312_2, hx312_3, hx312_4, hx312_5, hx312_6, hl312_2, hi312_2, hl312_3, hi312_3⟩ := at_T57 (Kd.N_reads' HO_3.out).2.2 x8_2 p312 q312
 obtain rfl : ad307 = ad312 := (by injection e312)
 obtain ⟨ce312, hce312, hMe312, hcc312⟩ := Kd.N_get HO_3.out z57 x8_2 p312 (by first | exact q312 | exact of_decide_eq_true sqH | (have e_ := (Kd.N_reads' HO_3.out).1; omega))
 obtain ⟨ua312_2, uc312_2, ua312_3, uc312_3, rfl, ul312_2, ge312_2, ul312_3, ge312_3⟩ := k57_openF hMe312
 have hv312_2 := hcc312 2 _ rfl
 rw [add_field _ _ 2 (by omega)] at hv312_2
 replace hv312_2 := Option.some.inj (hv312_2.symm.trans hx312_2)
 injection hv312_2 with hva_ hvn_ hvc_
 rw [hva_] at ge312_2
 rw [hvc_] at ul312_2
 have HL312_2 := sqM (show Kd.V k62 62 _ w.heap.size _ _ ((rd_T57 t301 x8_2).f2) from Kd.V_mk ul312_2 ge312_2)
 clear hva_ hvn_ hvc_ ge312_2 ul312_2
 have hv312_3 := hcc312 3 _ rfl
 rw [add_field _ _ 3 (by omega)] at hv312_3
 replace hv312_3 := Option.some.inj (hv312_3.symm.trans hx312_3)
 injection hv312_3 with hva_ hvn_ hvc_
 rw [hva_] at ge312_3
 rw [hvc_] at ul312_3
 have HL312_3 := sqM (show Kd.V k59 59 _ w.heap.size _ _ ((rd_T57 t301 x8_2).f3) from Kd.V_mk ul312_3 ge312_3)
 clear hva_ hvn_ hvc_ ge312_3 ul312_3
 clear hcc312 hce312
 have HR312_2 := sqM hi312_2
 have HC312_2 := sqM hl312_2
 clear hi312_2 hl312_2
 have HR312_3 := sqM hi312_3
 have HC312_3 := sqM hl312_3
 clear hi312_3 hl312_3
 replace p312 := eq_true p312
 replace q312 := eq_true q312
 have ea_ := Option.some.inj (hx311_2.symm.trans hx312_2)
 injection ea_ with ea_ en_ ec_
 subst ea_
 subst ec_
 clear en_
 have ea_ := Option.some.inj (hx311_3.symm.trans hx312_3)
 injection ea_ with ea_ en_ ec_
 subst ea_
 subst ec_
 clear en_
 go_wp2_with (first | (go_at_call 74; (with_reducible refine (boarderref01_Meet.calls _ _ _ _ _ _ _ A19.out).mono ?_); rintro e w' ⟨rfl, ⟨nd, rfl⟩⟩; (try first | exact ⟨rfl, _, World.drewN_drewN _ _ _⟩ | exact ⟨rfl, _, Eq.trans (World.drewN_drewN _ _ _) (congrArg (World.drewN _) (Nat.add_assoc _ _ _))⟩); obtain ⟨Ao28, co28, eo28⟩ := Kd.R_slice HO_4.out; subst eo28; have p314 : 0 ≤ (x7_1 : Int) := of_decide_eq_true sqH; have q314 : x7_1 < (t304.length : Int) := of_decide_eq_true sqH; obtain ⟨ad314, e314, hx314_0⟩ := Kd.at_int (Kd.R_reads' HO_4.out).2.2 x7_1 p314 q314; cases e314; replace p314 := eq_true p314; replace q314 := eq_true q314; have p315 : 0 ≤ (x8_2 : Int) := of_decide_eq_true sqH; have q315 : x8_2 < (t304.length : Int) := of_decide_eq_true sqH; obtain ⟨ad315, e315, hx315_0⟩ := Kd.at_int (Kd.R_reads' HO_4.out).2.2 x8_2 p315 q315; obtain rfl : ad314 = ad315 := (by injection e315); replace p315 := eq_true p315; replace q315 := eq_true q315; have p316 : 0 ≤ (x7_1 : Int) := of_decide_eq_true sqH; have q316 : x7_1 < (t301.length : Int) := of_decide_eq_true sqH; obtain ⟨ad316, A316_2, c316_2, A316_3, c316_3, e316, hx316_0, hx316_1, hx316_2, hx316_3, hx316_4, hx316_5, hx316_6, hl316_2, hi316_2, hl316_3, hi316_3⟩ := at_T57 (Kd.N_reads' HO_3.out).2.2 x7_1 p316 q316; obtain rfl : ad307 = ad316 := (by injection e316); obtain ⟨ce316, hce316, hMe316, hcc316⟩ := Kd.N_get HO_3.out z57 x7_1 p316 (by first | exact q316 | exact of_decide_eq_true sqH | (have e_ := (Kd.N_reads' HO_3.out).1; omega)); obtain ⟨ua316_2, uc316_2, ua316_3, uc316_3, rfl, ul316_2, ge316_2, ul316_3, ge316_3⟩ := k57_openF hMe316; have hv316_2 := hcc316 2 _ rfl; rw [add_field _ _ 2 (by omega)] at hv316_2; replace hv316_2 := Option.some.inj (hv316_2.symm.trans hx316_2); injection hv316_2 with hva_ hvn_ hvc_; rw [hva_] at ge316_2; rw [hvc_] at ul316_2; have HL316_2 := sqM (show Kd.V k62 62 _ w.heap.size _ _ ((rd_T57 t301 x7_1).f2) from Kd.V_mk ul316_2 ge316_2); clear hva_ hvn_ hvc_ ge316_2 ul316_2; have hv316_3 := hcc316 3 _ rfl; rw [add_field _ _ 3 (by omega)] at hv316_3; replace hv316_3 := Option.some.inj (hv316_3.symm.trans hx316_3); injection hv316_3 with hva_ hvn_ hvc_; rw [hva_] at ge316_3; rw [hvc_] at ul316_3; have HL316_3 := sqM (show Kd.V k59 59 _ w.heap.size _ _ ((rd_T57 t301 x7_1).f3) from Kd.V_mk ul316_3 ge316_3); clear hva_ hvn_ hvc_ ge316_3 ul316_3; clear hcc316 hce316; have HR316_2 := sqM hi316_2; have HC316_2 := sqM hl316_2; clear hi316_2 hl316_2; have HR316_3 := sqM hi316_3; have HC316_3 := sqM hl316_3; clear hi316_3 hl316_3; replace p316 := eq_true p316; replace q316 := eq_true q316; have ea_ := Option.some.inj (hx309_2.symm.trans hx316_2); injection ea_ with ea_ en_ ec_; subst ea_; subst ec_; clear en_; have ea_ := Option.some.inj (hx309_3.symm.trans hx316_3); injection ea_ with ea_ en_ ec_; subst ea_; subst ec_; clear en_; have p317 : 0 ≤ (x7_1 : Int) := of_decide_eq_true sqH; have q317 : x7_1 < (t301.length : Int) := of_decide_eq_true sqH; obtain ⟨ad317, A317_2, c317_2, A317_3, c317_3, e317, hx317_0, hx317_1, hx317_2, hx317_3, hx317_4, hx317_5, hx317_6, hl317_2, hi317_2, hl317_3, hi317_3⟩ := at_T57 (Kd.N_reads' HO_3.out).2.2 x7_1 p317 q317; obtain rfl : ad307 = ad317 := (by injection e317); obtain ⟨ce317, hce317, hMe317, hcc317⟩ := Kd.N_get HO_3.out z57 x7_1 p317 (by first | exact q317 | exact of_decide_eq_true sqH | (have e_ := (Kd.N_reads' HO_3.out).1; omega)); obtain ⟨ua317_2, uc317_2, ua317_3, uc317_3, rfl, ul317_2, ge317_2, ul317_3, ge317_3⟩ := k57_openF hMe317; have hv317_2 := hcc317 2 _ rfl; rw [add_field _ _ 2 (by omega)] at hv317_2; replace hv317_2 := Option.some.inj (hv317_2.symm.trans hx317_2); injection hv317_2 with hva_ hvn_ hvc_; rw [hva_] at ge317_2; rw [hvc_] at ul317_2; have HL317_2 := sqM (show Kd.V k62 62 _ w.heap.size _ _ ((rd_T57 t301 x7_1).f2) from Kd.V_mk ul317_2 ge317_2); clear hva_ hvn_ hvc_ ge317_2 ul317_2; have hv317_3 := hcc317 3 _ rfl; rw [add_field _ _ 3 (by omega)] at hv317_3; replace hv317_3 := Option.some.inj (hv317_3.symm.trans hx317_3); injection hv317_3 with hva_ hvn_ hvc_; rw [hva_] at ge317_3; rw [hvc_] at ul317_3; have HL317_3 := sqM (show Kd.V k59 59 _ w.heap.size _ _ ((rd_T57 t301 x7_1).f3) from Kd.V_mk ul317_3 ge317_3); clear hva_ hvn_ hvc_ ge317_3 ul317_3; clear hcc317 hce317; have HR317_2 := sqM hi317_2; have HC317_2 := sqM hl317_2; clear hi317_2 hl317_2; have HR317_3 := sqM hi317_3; have HC317_3 := sqM hl317_3; clear hi317_3 hl317_3; replace p317 := eq_true p317; replace q317 := eq_true q317; have ea_ := Option.some.inj (hx309_2.symm.trans hx317_2); injection ea_ with ea_ en_ ec_; subst ea_; subst ec_; clear en_; have ea_ := Option.some.inj (hx309_3.symm.trans hx317_3); injection ea_ with ea_ en_ ec_; subst ea_; subst ec_; clear en_; have p318 : 0 ≤ (x8_2 : Int) := of_decide_eq_true sqH; have q318 : x8_2 < (t301.length : Int) := of_decide_eq_true sqH; obtain ⟨ad318, A318_2, c318_2, A318_3, c318_3, e318, hx318_0, hx318_1, hx318_2, hx318_3, hx318_4, hx318_5, hx318_6, hl318_2, hi318_2, hl318_3, hi318_3⟩ := at_T57 (Kd.N_reads' HO_3.out).2.2 x8_2 p318 q318; obtain rfl : ad307 = ad318 := (by injection e318); obtain ⟨ce318, hce318, hMe318, hcc318⟩ := Kd.N_get HO_3.out z57 x8_2 p318 (by first | exact q318 | exact of_decide_eq_true sqH | (have e_ := (Kd.N_reads' HO_3.out).1; omega)); obtain ⟨ua318_2, uc318_2, ua318_3, uc318_3, rfl, ul318_2, ge318_2, ul318_3, ge318_3⟩ := k57_openF hMe318; have hv318_2 := hcc318 2 _ rfl; rw [add_field _ _ 2 (by omega)] at hv318_2; replace hv318_2 := Option.some.inj (hv318_2.symm.trans hx318_2); injection hv318_2 with hva_ hvn_ hvc_; rw [hva_] at ge318_2; rw [hvc_] at ul318_2; have HL318_2 := sqM (show Kd.V k62 62 _ w.heap.size _ _ ((rd_T57 t301 x8_2).f2) from Kd.V_mk ul318_2 ge318_2); clear hva_ hvn_ hvc_ ge318_2 ul318_2; have hv318_3 := hcc318 3 _ rfl; rw [add_field _ _ 3 (by omega)] at hv318_3; replace hv318_3 := Option.some.inj (hv318_3.symm.trans hx318_3); injection hv318_3 with hva_ hvn_ hvc_; rw [hva_] at ge318_3; rw [hvc_] at ul318_3; have HL318_3 := sqM (show Kd.V k59 59 _ w.heap.size _ _ ((rd_T57 t301 x8_2).f3) from Kd.V_mk ul318_3 ge318_3); clear hva_ hvn_ hvc_ ge318_3 ul318_3; clear hcc318 hce318; have HR318_2 := sqM hi318_2; have HC318_2 := sqM hl318_2; clear hi318_2 hl318_2; have HR318_3 := sqM hi318_3; have HC318_3 := sqM hl318_3; clear hi318_3 hl318_3; replace p318 := eq_true p318; replace q318 := eq_true q318; have ea_ := Option.some.inj (hx311_2.symm.trans hx318_2); injection ea_ with ea_ en_ ec_; subst ea_; subst ec_; clear en_; have ea_ := Option.some.inj (hx311_3.symm.trans hx318_3); injection ea_ with ea_ en_ ec_; subst ea_; subst ec_; clear en_))
 repeat (go_quiet (first | (go_at_call 74; (with_reducible refine (boarderref01_Meet.calls _ _ _ _ _ _ _ A19.out).mono ?_); rintro e w' ⟨rfl, ⟨nd, rfl⟩⟩; (try first | exact ⟨rfl, _, World.drewN_drewN _ _ _⟩ | exact ⟨rfl, _, Eq.trans (World.drewN_drewN _ _ _) (congrArg (World.drewN _) (Nat.add_assoc _ _ _))⟩); obtain ⟨Ao28, co28, eo28⟩ := Kd.R_slice HO_4.out; subst eo28; have p314 : 0 ≤ (x7_1 : Int) := of_decide_eq_true sqH; have q314 : x7_1 < (t304.length : Int) := of_decide_eq_true sqH; obtain ⟨ad314, e314, hx314_0⟩ := Kd.at_int (Kd.R_reads' HO_4.out).2.2 x7_1 p314 q314; cases e314; replace p314 := eq_true p314; replace q314 := eq_true q314; have p315 : 0 ≤ (x8_2 : Int) := of_decide_eq_true sqH; have q315 : x8_2 < (t304.length : Int) := of_decide_eq_true sqH; obtain ⟨ad315, e315, hx315_0⟩ := Kd.at_int (Kd.R_reads' HO_4.out).2.2 x8_2 p315 q315; obtain rfl : ad314 = ad315 := (by injection e315); replace p315 := eq_true p315; replace q315 := eq_true q315; have p316 : 0 ≤ (x7_1 : Int) := of_decide_eq_true sqH; have q316 : x7_1 < (t301.length : Int) := of_decide_eq_true sqH; obtain ⟨ad316, A316_2, c316_2, A316_3, c316_3, e316, hx316_0, hx316_1, hx316_2, hx316_3, hx316_4, hx316_5, hx316_6, hl316_2, hi316_2, hl316_3, hi316_3⟩ := at_T57 (Kd.N_reads' HO_3.out).2.2 x7_1 p316 q316; obtain rfl : ad307 = ad316 := (by injection e316); obtain ⟨ce316, hce316, hMe316, hcc316⟩ := Kd.N_get HO_3.out z57 x7_1 p316 (by first | exact q316 | exact of_decide_eq_true sqH | (have e_ := (Kd.N_reads' HO_3.out).1; omega)); obtain ⟨ua316_2, uc316_2, ua316_3, uc316_3, rfl, ul316_2, ge316_2, ul316_3, ge316_3⟩ := k57_openF hMe316; have hv316_2 := hcc316 2 _ rfl; rw [add_field _ _ 2 (by omega)] at hv316_2; replace hv316_2 := Option.some.inj (hv316_2.symm.trans hx316_2); injection hv316_2 with hva_ hvn_ hvc_; rw [hva_] at ge316_2; rw [hvc_] at ul316_2; have HL316_2 := sqM (show Kd.V k62 62 _ w.heap.size _ _ ((rd_T57 t301 x7_1).f2) from Kd.V_mk ul316_2 ge316_2); clear hva_ hvn_ hvc_ ge316_2 ul316_2; have hv316_3 := hcc316 3 _ rfl; rw [add_field _ _ 3 (by omega)] at hv316_3; replace hv316_3 := Option.some.inj (hv316_3.symm.trans hx316_3); injection hv316_3 with hva_ hvn_ hvc_; rw [hva_] at ge316_3; rw [hvc_] at ul316_3; have HL316_3 := sqM (show Kd.V k59 59 _ w.heap.size _ _ ((rd_T57 t301 x7_1).f3) from Kd.V_mk ul316_3 ge316_3); clear hva_ hvn_ hvc_ ge316_3 ul316_3; clear hcc316 hce316; have HR316_2 := sqM hi316_2; have HC316_2 := sqM hl316_2; clear hi316_2 hl316_2; have HR316_3 := sqM hi316_3; have HC316_3 := sqM hl316_3; clear hi316_3 hl316_3; replace p316 := eq_true p316; replace q316 := eq_true q316; have ea_ := Option.some.inj (hx309_2.symm.trans hx316_2); injection ea_ with ea_ en_ ec_; subst ea_; subst ec_; clear en_; have ea_ := Option.some.inj (hx309_3.symm.trans hx316_3); injection ea_ with ea_ en_ ec_; subst ea_; subst ec_; clear en_; have p317 : 0 ≤ (x7_1 : Int) := of_decide_eq_true sqH; have q317 : x7_1 < (t301.length : Int) := of_decide_eq_true sqH; obtain ⟨ad317, A317_2, c317_2, A317_3, c317_3, e317, hx317_0, hx317_1, hx317_2, hx317_3, hx317_4, hx317_5, hx317_6, hl317_2, hi317_2, hl317_3, hi317_3⟩ := at_T57 (Kd.N_reads' HO_3.out).2.2 x7_1 p317 q317; obtain rfl : ad307 = ad317 := (by injection e317); obtain ⟨ce317, hce317, hMe317, hcc317⟩ := Kd.N_get HO_3.out z57 x7_1 p317 (by first | exact q317 | exact of_decide_eq_true sqH | (have e_ := (Kd.N_reads' HO_3.out).1; omega)); obtain ⟨ua317_2, uc317_2, ua317_3, uc317_3, rfl, ul317_2, ge317_2, ul317_3, ge317_3⟩ := k57_openF hMe317; have hv317_2 := hcc317 2 _ rfl; rw [add_field _ _ 2 (by omega)] at hv317_2; replace hv317_2 := Option.some.inj (hv317_2.symm.trans hx317_2); injection hv317_2 with hva_ hvn_ hvc_; rw [hva_] at ge317_2; rw [hvc_] at ul317_2; have HL317_2 := sqM (show Kd.V k62 62 _ w.heap.size _ _ ((rd_T57 t301 x7_1).f2) from Kd.V_mk ul317_2 ge317_2); clear hva_ hvn_ hvc_ ge317_2 ul317_2; have hv317_3 := hcc317 3 _ rfl; rw [add_field _ _ 3 (by omega)] at hv317_3; replace hv317_3 := Option.some.inj (hv317_3.symm.trans hx317_3); injection hv317_3 with hva_ hvn_ hvc_; rw [hva_] at ge317_3; rw [hvc_] at ul317_3; have HL317_3 := sqM (show Kd.V k59 59 _ w.heap.size _ _ ((rd_T57 t301 x7_1).f3) from Kd.V_mk ul317_3 ge317_3); clear hva_ hvn_ hvc_ ge317_3 ul317_3; clear hcc317 hce317; have HR317_2 := sqM hi317_2; have HC317_2 := sqM hl317_2; clear hi317_2 hl317_2; have HR317_3 := sqM hi317_3; have HC317_3 := sqM hl317_3; clear hi317_3 hl317_3; replace p317 := eq_true p317; replace q317 := eq_true q317; have ea_ := Option.some.inj (hx309_2.symm.trans hx317_2); injection ea_ with ea_ en_ ec_; subst ea_; subst ec_; clear en_; have ea_ := Option.some.inj (hx309_3.symm.trans hx317_3); injection ea_ with ea_ en_ ec_; subst ea_; subst ec_; clear en_; have p318 : 0 ≤ (x8_2 : Int) := of_decide_eq_true sqH; have q318 : x8_2 < (t301.length : Int) := of_decide_eq_true sqH; obtain ⟨ad318, A318_2, c318_2, A318_3, c318_3, e318, hx318_0, hx318_1, hx318_2, hx318_3, hx318_4, hx318_5, hx318_6, hl318_2, hi318_2, hl318_3, hi318_3⟩ := at_T57 (Kd.N_reads' HO_3.out).2.2 x8_2 p318 q318; obtain rfl : ad307 = ad318 := (by injection e318); obtain ⟨ce318, hce318, hMe318, hcc318⟩ := Kd.N_get HO_3.out z57 x8_2 p318 (by first | exact q318 | exact of_decide_eq_true sqH | (have e_ := (Kd.N_reads' HO_3.out).1; omega)); obtain ⟨ua318_2, uc318_2, ua318_3, uc318_3, rfl, ul318_2, ge318_2, ul318_3, ge318_3⟩ := k57_openF hMe318; have hv318_2 := hcc318 2 _ rfl; rw [add_field _ _ 2 (by omega)] at hv318_2; replace hv318_2 := Option.some.inj (hv318_2.symm.trans hx318_2); injection hv318_2 with hva_ hvn_ hvc_; rw [hva_] at ge318_2; rw [hvc_] at ul318_2; have HL318_2 := sqM (show Kd.V k62 62 _ w.heap.size _ _ ((rd_T57 t301 x8_2).f2) from Kd.V_mk ul318_2 ge318_2); clear hva_ hvn_ hvc_ ge318_2 ul318_2; have hv318_3 := hcc318 3 _ rfl; rw [add_field _ _ 3 (by omega)] at hv318_3; replace hv318_3 := Option.some.inj (hv318_3.symm.trans hx318_3); injection hv318_3 with hva_ hvn_ hvc_; rw [hva_] at ge318_3; rw [hvc_] at ul318_3; have HL318_3 := sqM (show Kd.V k59 59 _ w.heap.size _ _ ((rd_T57 t301 x8_2).f3) from Kd.V_mk ul318_3 ge318_3); clear hva_ hvn_ hvc_ ge318_3 ul318_3; clear hcc318 hce318; have HR318_2 := sqM hi318_2; have HC318_2 := sqM hl318_2; clear hi318_2 hl318_2; have HR318_3 := sqM hi318_3; have HC318_3 := sqM hl318_3; clear hi318_3 hl318_3; replace p318 := eq_true p318; replace q318 := eq_true q318; have ea_ := Option.some.inj (hx311_2.symm.trans hx318_2); injection ea_ with ea_ en_ ec_; subst ea_; subst ec_; clear en_; have ea_ := Option.some.inj (hx311_3.symm.trans hx318_3); injection ea_ with ea_ en_ ec_; subst ea_; subst ec_; clear en_)); try go_wp2_with (first | (go_at_call 74; (with_reducible refine (boarderref01_Meet.calls _ _ _ _ _ _ _ A19.out).mono ?_); rintro e w' ⟨rfl, ⟨nd, rfl⟩⟩; (try first | exact ⟨rfl, _, World.drewN_drewN _ _ _⟩ | exact ⟨rfl, _, Eq.trans (World.drewN_drewN _ _ _) (congrArg (World.drewN _) (Nat.add_assoc _ _ _))⟩); obtain ⟨Ao28, co28, eo28⟩ := Kd.R_slice HO_4.out; subst eo28; have p314 : 0 ≤ (x7_1 : Int) := of_decide_eq_true sqH; have q314 : x7_1 < (t304.length : Int) := of_decide_eq_true sqH; obtain ⟨ad314, e314, hx314_0⟩ := Kd.at_int (Kd.R_reads' HO_4.out).2.2 x7_1 p314 q314; cases e314; replace p314 := eq_true p314; replace q314 := eq_true q314; have p315 : 0 ≤ (x8_2 : Int) := of_decide_eq_true sqH; have q315 : x8_2 < (t304.length : Int) := of_decide_eq_true sqH; obtain ⟨ad315, e315, hx315_0⟩ := Kd.at_int (Kd.R_reads' HO_4.out).2.2 x8_2 p315 q315; obtain rfl : ad314 = ad315 := (by injection e315); replace p315 := eq_true p315; replace q315 := eq_true q315; have p316 : 0 ≤ (x7_1 : Int) := of_decide_eq_true sqH; have q316 : x7_1 < (t301.length : Int) := of_decide_eq_true sqH; obtain ⟨ad316, A316_2, c316_2, A316_3, c316_3, e316, hx316_0, hx316_1, hx316_2, hx316_3, hx316_4, hx316_5, hx316_6, hl316_2, hi316_2, hl316_3, hi316_3⟩ := at_T57 (Kd.N_reads' HO_3.out).2.2 x7_1 p316 q316; obtain rfl : ad307 = ad316 := (by injection e316); obtain ⟨ce316, hce316, hMe316, hcc316⟩ := Kd.N_get HO_3.out z57 x7_1 p316 (by first | exact q316 | exact of_decide_eq_true sqH | (have e_ := (Kd.N_reads' HO_3.out).1; omega)); obtain ⟨ua316_2, uc316_2, ua316_3, uc316_3, rfl, ul316_2, ge316_2, ul316_3, ge316_3⟩ := k57_openF hMe316; have hv316_2 := hcc316 2 _ rfl; rw [add_field _ _ 2 (by omega)] at hv316_2; replace hv316_2 := Option.some.inj (hv316_2.symm.trans hx316_2); injection hv316_2 with hva_ hvn_ hvc_; rw [hva_] at ge316_2; rw [hvc_] at ul316_2; have HL316_2 := sqM (show Kd.V k62 62 _ w.heap.size _ _ ((rd_T57 t301 x7_1).f2) from Kd.V_mk ul316_2 ge316_2); clear hva_ hvn_ hvc_ ge316_2 ul316_2; have hv316_3 := hcc316 3 _ rfl; rw [add_field _ _ 3 (by omega)] at hv316_3; replace hv316_3 := Option.some.inj (hv316_3.symm.trans hx316_3); injection hv316_3 with hva_ hvn_ hvc_; rw [hva_] at ge316_3; rw [hvc_] at ul316_3; have HL316_3 := sqM (show Kd.V k59 59 _ w.heap.size _ _ ((rd_T57 t301 x7_1).f3) from Kd.V_mk ul316_3 ge316_3); clear hva_ hvn_ hvc_ ge316_3 ul316_3; clear hcc316 hce316; have HR316_2 := sqM hi316_2; have HC316_2 := sqM hl316_2; clear hi316_2 hl316_2; have HR316_3 := sqM hi316_3; have HC316_3 := sqM hl316_3; clear hi316_3 hl316_3; replace p316 := eq_true p316; replace q316 := eq_true q316; have ea_ := Option.some.inj (hx309_2.symm.trans hx316_2); injection ea_ with ea_ en_ ec_; subst ea_; subst ec_; clear en_; have ea_ := Option.some.inj (hx309_3.symm.trans hx316_3); injection ea_ with ea_ en_ ec_; subst ea_; subst ec_; clear en_; have p317 : 0 ≤ (x7_1 : Int) := of_decide_eq_true sqH; have q317 : x7_1 < (t301.length : Int) := of_decide_eq_true sqH; obtain ⟨ad317, A317_2, c317_2, A317_3, c317_3, e317, hx317_0, hx317_1, hx317_2, hx317_3, hx317_4, hx317_5, hx317_6, hl317_2, hi317_2, hl317_3, hi317_3⟩ := at_T57 (Kd.N_reads' HO_3.out).2.2 x7_1 p317 q317; obtain rfl : ad307 = ad317 := (by injection e317); obtain ⟨ce317, hce317, hMe317, hcc317⟩ := Kd.N_get HO_3.out z57 x7_1 p317 (by first | exact q317 | exact of_decide_eq_true sqH | (have e_ := (Kd.N_reads' HO_3.out).1; omega)); obtain ⟨ua317_2, uc317_2, ua317_3, uc317_3, rfl, ul317_2, ge317_2, ul317_3, ge317_3⟩ := k57_openF hMe317; have hv317_2 := hcc317 2 _ rfl; rw [add_field _ _ 2 (by omega)] at hv317_2; replace hv317_2 := Option.some.inj (hv317_2.symm.trans hx317_2); injection hv317_2 with hva_ hvn_ hvc_; rw [hva_] at ge317_2; rw [hvc_] at ul317_2; have HL317_2 := sqM (show Kd.V k62 62 _ w.heap.size _ _ ((rd_T57 t301 x7_1).f2) from Kd.V_mk ul317_2 ge317_2); clear hva_ hvn_ hvc_ ge317_2 ul317_2; have hv317_3 := hcc317 3 _ rfl; rw [add_field _ _ 3 (by omega)] at hv317_3; replace hv317_3 := Option.some.inj (hv317_3.symm.trans hx317_3); injection hv317_3 with hva_ hvn_ hvc_; rw [hva_] at ge317_3; rw [hvc_] at ul317_3; have HL317_3 := sqM (show Kd.V k59 59 _ w.heap.size _ _ ((rd_T57 t301 x7_1).f3) from Kd.V_mk ul317_3 ge317_3); clear hva_ hvn_ hvc_ ge317_3 ul317_3; clear hcc317 hce317; have HR317_2 := sqM hi317_2; have HC317_2 := sqM hl317_2; clear hi317_2 hl317_2; have HR317_3 := sqM hi317_3; have HC317_3 := sqM hl317_3; clear hi317_3 hl317_3; replace p317 := eq_true p317; replace q317 := eq_true q317; have ea_ := Option.some.inj (hx309_2.symm.trans hx317_2); injection ea_ with ea_ en_ ec_; subst ea_; subst ec_; clear en_; have ea_ := Option.some.inj (hx309_3.symm.trans hx317_3); injection ea_ with ea_ en_ ec_; subst ea_; subst ec_; clear en_; have p318 : 0 ≤ (x8_2 : Int) := of_decide_eq_true sqH; have q318 : x8_2 < (t301.length : Int) := of_decide_eq_true sqH; obtain ⟨ad318, A318_2, c318_2, A318_3, c318_3, e318, hx318_0, hx318_1, hx318_2, hx318_3, hx318_4, hx318_5, hx318_6, hl318_2, hi318_2, hl318_3, hi318_3⟩ := at_T57 (Kd.N_reads' HO_3.out).2.2 x8_2 p318 q318; obtain rfl : ad307 = ad318 := (by injection e318); obtain ⟨ce318, hce318, hMe318, hcc318⟩ := Kd.N_get HO_3.out z57 x8_2 p318 (by first | exact q318 | exact of_decide_eq_true sqH | (have e_ := (Kd.N_reads' HO_3.out).1; omega)); obtain ⟨ua318_2, uc318_2, ua318_3, uc318_3, rfl, ul318_2, ge318_2, ul318_3, ge318_3⟩ := k57_openF hMe318; have hv318_2 := hcc318 2 _ rfl; rw [add_field _ _ 2 (by omega)] at hv318_2; replace hv318_2 := Option.some.inj (hv318_2.symm.trans hx318_2); injection hv318_2 with hva_ hvn_ hvc_; rw [hva_] at ge318_2; rw [hvc_] at ul318_2; have HL318_2 := sqM (show Kd.V k62 62 _ w.heap.size _ _ ((rd_T57 t301 x8_2).f2) from Kd.V_mk ul318_2 ge318_2); clear hva_ hvn_ hvc_ ge318_2 ul318_2; have hv318_3 := hcc318 3 _ rfl; rw [add_field _ _ 3 (by omega)] at hv318_3; replace hv318_3 := Option.some.inj (hv318_3.symm.trans hx318_3); injection hv318_3 with hva_ hvn_ hvc_; rw [hva_] at ge318_3; rw [hvc_] at ul318_3; have HL318_3 := sqM (show Kd.V k59 59 _ w.heap.size _ _ ((rd_T57 t301 x8_2).f3) from Kd.V_mk ul318_3 ge318_3); clear hva_ hvn_ hvc_ ge318_3 ul318_3; clear hcc318 hce318; have HR318_2 := sqM hi318_2; have HC318_2 := sqM hl318_2; clear hi318_2 hl318_2; have HR318_3 := sqM hi318_3; have HC318_3 := sqM hl318_3; clear hi318_3 hl318_3; replace p318 := eq_true p318; replace q318 := eq_true q318; have ea_ := Option.some.inj (hx311_2.symm.trans hx318_2); injection ea_ with ea_ en_ ec_; subst ea_; subst ec_; clear en_; have ea_ := Option.some.inj (hx311_3.symm.trans hx318_3); injection ea_ with ea_ en_ ec_; subst ea_; subst ec_; clear en_)))
 go_roundg k2
 case measure => have := HK1.out; have := HK2.out; omega
 case rel => exact ⟨(wrap64 (x8_2 + 1)), sqI, H', ⟨by have := HK1.out; have := HK2.out; omega⟩, ⟨sqN HO_3.out⟩, ⟨sqR HO_4.out⟩, ⟨sqR HO_5.out⟩, ⟨sqR HO_6.out⟩, ⟨sqK BK300.out⟩, ⟨sqC HR307_2.out⟩, ⟨sqC HR307_3.out⟩, ⟨sqB1 HB.out GE300.out⟩⟩

end Go.Proofs.Ytdcabfonjmeajaa.PConf
