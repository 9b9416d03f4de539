/- Lean functions for Go functions of the given program, and proofs that the code computes them, each under its theorem's own conditions. Written by a program of this session. -/
import Derived.Test.YtdcabfonjmeajaaPConfx0
import Derived.Test.YtdcabfonjmeajaaPConfx9
namespace Go.Proofs.Ytdcabfonjmeajaa.PConf
open Go.RowKit Go.Proofs.YtdcabfonjmeajaaW.PrintWords Go.Proofs.YtdcabfonjmeajaaW.PrintLast Go.Proofs.YtdcabfonjmeajaaW.PrintMore
attribute [local go_sem] max2_int min2_int max_two min_two max_three min_three max_four min_four   -- for this text's walks alone
set_option linter.unusedVariables false
set_option linter.unusedSimpArgs false

/-! ### boarderref13_Places: function 44 -/
mutual
def boarderref13_Places.l0 : Nat → Int → Int → Int → List (S41) → Option (Bool)
  | 0, _, _, _, _ => none
  | k + 1, x3, x269000, x269001, x269002 => if x3 < (x269002.length : Int) then (boarderref13_Places.l1 k x3 0 x269000 x269001 x269002) else (some true)
def boarderref13_Places.l1 : Nat → Int → Int → Int → Int → List (S41) → Option (Bool)
  | 0, _, _, _, _, _ => none
  | k + 1, x3, x4, x269000, x269001, x269002 => if 0 ≤ x3 then (if x3 < (x269002.length : Int) then (if x4 < (((rd_T41 x269002 x3).f0).length : Int) then (if 0 ≤ x4 then (boarderref13_Places.l2 k x3 x4 0 x269000 x269001 x269002 ((rd_T57 ((rd_T41 x269002 x3).f0) x4).f0) ((rd_T57 ((rd_T41 x269002 x3).f0) x4).f1) ((rd_T57 ((rd_T41 x269002 x3).f0) x4).f2) ((rd_T57 ((rd_T41 x269002 x3).f0) x4).f3) ((rd_T57 ((rd_T41 x269002 x3).f0) x4).f4) ((rd_T57 ((rd_T41 x269002 x3).f0) x4).f5) ((rd_T57 ((rd_T41 x269002 x3).f0) x4).f6)) else (none)) else (boarderref13_Places.l0 k (wrap64 (x3 + 1)) x269000 x269001 x269002)) else (none)) else (none)
def boarderref13_Places.l2 : Nat → Int → Int → Int → Int → Int → List (S41) → Int → Int → List (S62) → List (S59) → Int → Int → Int → Option (Bool)
  | 0, _, _, _, _, _, _, _, _, _, _, _, _, _ => none
  | k + 1, x3, x4, x6, x269000, x269001, x269002, x273000, x273001, x273002, x273003, x273004, x273005, x273006 => if x6 < (x273002.length : Int) then (if 0 ≤ x6 then ((boarderref13_lends.f k x273000 x273001 x273002 x273003 x273004 x273005 x273006 ((rd_T62 x273002 x6).f0)).bind fun t275 => (if t275 = true then ((boarderref13_lends.f k x273000 x273001 x273002 x273003 x273004 x273005 x273006 ((rd_T62 x273002 x6).f1)).bind fun t276 => (if t276 = true then (if x269000 ≥ ((rd_T62 x273002 x6).f0) then (if x269000 ≤ ((rd_T62 x273002 x6).f1) then (some false) else (boarderref13_Places.l2 k x3 x4 (wrap64 (x6 + 1)) x269000 x269001 x269002 x273000 x273001 x273002 x273003 x273004 x273005 x273006)) else (boarderref13_Places.l2 k x3 x4 (wrap64 (x6 + 1)) x269000 x269001 x269002 x273000 x273001 x273002 x273003 x273004 x273005 x273006)) else (some false))) else (some false))) else (none)) else (boarderref13_Places.l3 k x3 x4 0 x269000 x269001 x269002 x273000 x273001 x273002 x273003 x273004 x273005 x273006)
def boarderref13_Places.l3 : Nat → Int → Int → Int → Int → Int → List (S41) → Int → Int → List (S62) → List (S59) → Int → Int → Int → Option (Bool)
  | 0, _, _, _, _, _, _, _, _, _, _, _, _, _ => none
  | k + 1, x3, x4, x8, x269000, x269001, x269002, x273000, x273001, x273002, x273003, x273004, x273005, x273006 => if x8 < (x273003.length : Int) then (if 0 ≤ x8 then ((boarderref13_lends.f k x273000 x273001 x273002 x273003 x273004 x273005 x273006 ((rd_T59 x273003 x8).f1)).bind fun t278 => (if t278 = true then (if ((rd_T59 x273003 x8).f1) = x269000 then (some false) else (boarderref13_Places.l3 k x3 x4 (wrap64 (x8 + 1)) x269000 x269001 x269002 x273000 x273001 x273002 x273003 x273004 x273005 x273006)) else (some false))) else (none)) else (if x273005 = 0 then (boarderref13_Places.l1 k x3 (wrap64 (x4 + 1)) x269000 x269001 x269002) else ((boarderref01_Has.f k x273000 x273001 x273005).bind fun t280 => (if t280 = true then (boarderref13_Places.l1 k x3 (wrap64 (x4 + 1)) x269000 x269001 x269002) else (some false))))
end
def boarderref13_Places.f (k : Nat) (a0_0 : Int) (a0_1 : Int) (l0_2 : List (S41)) : Option (Bool) := boarderref13_Places.l0 k 0 a0_0 a0_1 l0_2
def boarderref13_Places.T17 : Bool × List (List Nat × List Nat) := (true, [([], []), ([], []), ([1], [1]), ([], []), ([2, 3], [2, 3]), ([4], [4]), ([5], [5]), ([0, 6], [0, 6]), ([7], [7]), ([8, 7], [8]), ([9], [9]), ([10, 9], [9, 10]), ([9], [9]), ([11, 12, 9], [9, 11, 12]), ([13, 9], [9, 13]), ([14, 9], [9, 14]), ([9], [9]), ([16, 9], [9, 16]), ([15, 17, 9], [9, 15, 17]), ([9, 18], [9, 18])])
def boarderref13_Places.B17 : List Nat := [0, 0, 2, 0, 14, 30, 62, 127, 255, 511, 1023, 2047, 1023, 8191, 16383, 32767, 1023, 66559, 262143, 524287]
theorem boarderref13_Places.tab17 : rtab .any (opsOf Try.f44 17) = boarderref13_Places.T17 := by kernel_rfl
theorem boarderref13_Places.bits17 : waitsOk boarderref13_Places.T17.2 boarderref13_Places.B17 = true := by kernel_rfl
set_option maxHeartbeats 8000000 in
set_option maxRecDepth 100000 in
theorem boarderref13_Places.calls (k : Nat) (a0_0 : Int) (a0_1 : Int) (A0_2 : Option Addr) (c0_2 : Nat) (l0_2 : List (S41)) (r : Bool) (w : World) (hr0_2 : Kd.C k41 w A0_2 l0_2.length l0_2) (hc0_2 : l0_2.length ≤ c0_2) (h : boarderref13_Places.f k a0_0 a0_1 l0_2 = some r) :
    Calls Try.prog 44 #[.agg #[.int .i64 a0_0, .int .i64 a0_1, .slice A0_2 l0_2.length c0_2]] w fun e w' => e = .returned (.bool r) ∧ Below w.heap.size w w' := by
 have hu24 := Try.underlying24
 have hu57 := Try.underlying57
 have hu62 := Try.underlying62
 have HR0_2 := Aside0.mk hr0_2
 have HC0_2 := Aside0.mk hc0_2
 clear hr0_2 hc0_2
 have HB := Aside0.mk (Below.refl w.heap.size w)
 have H : (boarderref13_Places.l0 k 0 a0_0 a0_1 l0_2) = some r := h
 clear h
 have H' := Aside0.mk H
 clear H
 go_enter Try.func44, Try.ntmps44
 go_wp2_with (first | ((with_reducible refine gate_dst (N := 1) rfl ?_); refine box_event rfl (N := 1) rfl (cs := #[.int .i64 a0_0, .int .i64 a0_1, .slice A0_2 l0_2.length c0_2]) (t := 24) sqs ?_; intro gb268 hg w2 hbox hb; have BK268 := sqM (hbox); have GW268 := sqM (sqZ hg (sqB HB.out)); have GE268 := sqM (sqZ hg (sqB HB.out)); replace HB := sqM (below_step (sqB HB.out) hb); clear hb hbox hg))
 go_loopg [3] k (fun kq v3 w' => ∃ (x3_1 : Int), v3 = .int .i64 x3_1 ∧ Aside0 (boarderref13_Places.l0 kq x3_1 a0_0 a0_1 l0_2 = some r) ∧ Aside0 (kq ≤ k) ∧ Aside0 (w'.heap[gb268]? = some (.cells #[.int .i64 a0_0, .int .i64 a0_1, (.slice A0_2 l0_2.length c0_2)] 24 (0, 0))) ∧ Aside0 (Below w.heap.size w w'))
 case atStart => exact ⟨(0), sqI, H', ⟨Nat.le_refl _⟩, ⟨sqK BK268.out⟩, ⟨sqB1 HB.out GE268.out⟩⟩
 clear H'
 try clear p2
 obtain ⟨x3_1, rfl, HA, HK1, BK268, HB⟩ := hrel
 cases gk with
 | zero => exact absurd HA.out (by simp [boarderref13_Places.l0])
 | succ k1 => ?_
 have H := HA.out
 clear HA
 simp only [boarderref13_Places.l0] at H
 by_cases c3 : x3_1 < (l0_2.length : Int)
 rotate_left
 · rw [if_neg c3] at H
   have c3b0 : decide (x3_1 < (l0_2.length : Int)) = false := decide_eq_false c3
   clear c3
   obtain rfl := Option.some.inj H
   obtain ⟨hcz108_0, hcz108_1, hcz108_2, hfz108_0, hfz108_1, hfz108_2⟩ := sqF3 BK268.out
   go_wp2
   go_ret
   exact ⟨sqE, sqB1 HB.out GE268.out⟩
 rw [if_pos c3] at H
 have c3b0 : decide (x3_1 < (l0_2.length : Int)) = true := decide_eq_true c3
 clear c3
 have H' := Aside0.mk H
 clear H
 obtain ⟨hcz4_0, hcz4_1, hcz4_2, hfz4_0, hfz4_1, hfz4_2⟩ := sqF3 BK268.out
 go_wp2
 go_loopg [4] k1 (fun kq v4 w' => ∃ (x4_2 : Int), v4 = .int .i64 x4_2 ∧ Aside0 (boarderref13_Places.l1 kq x3_1 x4_2 a0_0 a0_1 l0_2 = some r) ∧ Aside0 (kq ≤ k1) ∧ Aside0 (w'.heap[gb268]? = some (.cells #[.int .i64 a0_0, .int .i64 a0_1, (.slice A0_2 l0_2.length c0_2)] 24 (0, 0))) ∧ Aside0 (Below w.heap.size w w'))
 case atStart => exact ⟨(0), sqI, H', ⟨Nat.le_refl _⟩, ⟨sqK BK268.out⟩, ⟨sqB1 HB.out GE268.out⟩⟩
 clear H'
 try clear p2
 try clear c3
 try clear c3b0
 try clear c4
 try clear hcz4_0 hcz4_1 hcz4_2 hfz4_0 hfz4_1 hfz4_2
 try clear p2
 obtain ⟨x4_2, rfl, HA, HK2, BK268, HB⟩ := hrel
 cases gk with
 | zero => exact absurd HA.out (by simp [boarderref13_Places.l1])
 | succ k2 => ?_
 have H := HA.out
 clear HA
 simp only [boarderref13_Places.l1] at H
 by_cases c5 : 0 ≤ x3_1
 rotate_left
 · rw [if_neg c5] at H
   exact absurd H (by simp)
 rw [if_pos c5] at H
 have c5b0 : decide (0 ≤ x3_1) = true := decide_eq_true c5
 clear c5
 by_cases c6 : x3_1 < (l0_2.length : Int)
 rotate_left
 · rw [if_neg c6] at H
   exact absurd H (by simp)
 rw [if_pos c6] at H
 have c6b0 : decide (x3_1 < (l0_2.length : Int)) = true := decide_eq_true c6
 clear c6
 by_cases c7 : x4_2 < (((rd_T41 l0_2 x3_1).f0).length : Int)
 rotate_left
 · rw [if_neg c7] at H
   have c7b0 : decide (x4_2 < (((rd_T41 l0_2 x3_1).f0).length : Int)) = false := decide_eq_false c7
   clear c7
   have H' := Aside0.mk H
   clear H
   obtain ⟨hcz107_0, hcz107_1, hcz107_2, hfz107_0, hfz107_1, hfz107_2⟩ := sqF3 BK268.out
   have p269 : 0 ≤ (x3_1 : Int) := of_decide_eq_true sqH
   have q269 : x3_1 < (l0_2.length : Int) := of_decide_eq_true sqH
   obtain ⟨ad269, A269_0, c269_0, e269, hx269_0, hl269_0, hi269_0⟩ := at_T41 HR0_2.out x3_1 p269 q269
   cases e269
   replace hx269_0 := sqx HB.out hx269_0
   have HR269_0 := Aside0.mk hi269_0
   have HC269_0 := Aside0.mk hl269_0
   clear hi269_0 hl269_0
   replace p269 := eq_true p269
   replace q269 := eq_true q269
   go_wp2
   go_roundg k2
   case measure => have := HK1.out; have := HK2.out; omega
   case rel => exact ⟨(wrap64 (x3_1 + 1)), sqI, H', ⟨by have := HK1.out; have := HK2.out; omega⟩, ⟨sqK BK268.out⟩, ⟨sqB1 HB.out GE268.out⟩⟩
 rw [if_pos c7] at H
 have c7b0 : decide (x4_2 < (((rd_T41 l0_2 x3_1).f0).length : Int)) = true := decide_eq_true c7
 clear c7
 by_cases c8 : 0 ≤ x4_2
 rotate_left
 · rw [if_neg c8] at H
   exact absurd H (by simp)
 rw [if_pos c8] at H
 have c8b0 : decide (0 ≤ x4_2) = true := decide_eq_true c8
 clear c8
 have H' := Aside0.mk H
 clear H
 obtain ⟨hcz9_0, hcz9_1, hcz9_2, hfz9_0, hfz9_1, hfz9_2⟩ := sqF3 BK268.out
 have p269 : 0 ≤ (x3_1 : Int) := of_decide_eq_true sqH
 have q269 : x3_1 < (l0_2.length : Int) := of_decide_eq_true sqH
 obtain ⟨ad269, A269_0, c269_0, e269, hx269_0, hl269_0, hi269_0⟩ := at_T41 HR0_2.out x3_1 p269 q269
 cases e269
 replace hx269_0 := sqx HB.out hx269_0
 have HR269_0 := Aside0.mk hi269_0
 have HC269_0 := Aside0.mk hl269_0
 clear hi269_0 hl269_0
 replace p269 := eq_true p269
 replace q269 := eq_true q269
 have p270 : 0 ≤ (x3_1 : Int) := of_decide_eq_true sqH
 have q270 : x3_1 < (l0_2.length : Int) := of_decide_eq_true sqH
 obtain ⟨ad270, A270_0, c270_0, e270, hx270_0, hl270_0, hi270_0⟩ := at_T41 HR0_2.out x3_1 p270 q270
 obtain rfl : ad269 = ad270 := (by injection e270)
 replace hx270_0 := sqx HB.out hx270_0
 have HR270_0 := Aside0.mk hi270_0
 have HC270_0 := Aside0.mk hl270_0
 clear hi270_0 hl270_0
 replace p270 := eq_true p270
 replace q270 := eq_true q270
 have ea_ := Option.some.inj (hx269_0.symm.trans hx270_0)
 injection ea_ with ea_ en_ ec_
 subst ea_
 subst ec_
 clear en_
 have p271 : 0 ≤ (x4_2 : Int) := of_decide_eq_true sqH
 have q271 : x4_2 < (((rd_T41 l0_2 x3_1).f0).length : Int) := of_decide_eq_true sqH
 obtain ⟨ad271, A271_2, c271_2, A271_3, c271_3, e271, hx271_0, hx271_1, hx271_2, hx271_3, hx271_4, hx271_5, hx271_6, hl271_2, hi271_2, hl271_3, hi271_3⟩ := at_T57 HR270_0.out x4_2 p271 q271
 cases e271
 replace hx271_0 := sqx HB.out hx271_0
 replace hx271_1 := sqx HB.out hx271_1
 replace hx271_2 := sqx HB.out hx271_2
 replace hx271_3 := sqx HB.out hx271_3
 replace hx271_4 := sqx HB.out hx271_4
 replace hx271_5 := sqx HB.out hx271_5
 replace hx271_6 := sqx HB.out hx271_6
 have HR271_2 := Aside0.mk hi271_2
 have HC271_2 := Aside0.mk hl271_2
 clear hi271_2 hl271_2
 have HR271_3 := Aside0.mk hi271_3
 have HC271_3 := Aside0.mk hl271_3
 clear hi271_3 hl271_3
 replace p271 := eq_true p271
 replace q271 := eq_true q271
 go_wp2_with (first | ((with_reducible refine gate_dst (N := 5) rfl ?_); refine box_event rfl (N := 5) rfl (cs := #[.int .i64 0, .int .i64 0, .slice none 0 0, .slice none 0 0, .int .i64 0, .int .i64 0, .int .i64 0]) (t := 57) sqs ?_; intro gb272 hg w10 hbox hb; have BK272 := sqM (hbox); have GW272 := sqM (sqZ hg (sqB1 HB.out GE268.out)); have GE272 := sqM (sqZ hg (sqB1 HB.out GE268.out)); have NB268_272 := sqM (sqL hg (sqK BK268.out)); have NB272_268 := sqM (sqG hg (sqK BK268.out)); replace BK268 := sqM (blk_below (sqK BK268.out) hb); replace HB := sqM (below_step (sqB1 HB.out GE268.out) hb); clear hb hbox hg; have hnb11 := NB272_268.out; have hnc11 := NB268_272.out; obtain ⟨hcz12_0, hcz12_1, hcz12_2, hcz12_3, hcz12_4, hcz12_5, hcz12_6, hfz12_0, hfz12_1, hfz12_2, hfz12_3, hfz12_4, hfz12_5, hfz12_6⟩ := sqF7 BK272.out))
 go_loopg [6] k2 (fun kq v6 w' => ∃ (x6_3 : Int), v6 = .int .i64 x6_3 ∧ Aside0 (boarderref13_Places.l2 kq x3_1 x4_2 x6_3 a0_0 a0_1 l0_2 ((rd_T57 ((rd_T41 l0_2 x3_1).f0) x4_2).f0) ((rd_T57 ((rd_T41 l0_2 x3_1).f0) x4_2).f1) ((rd_T57 ((rd_T41 l0_2 x3_1).f0) x4_2).f2) ((rd_T57 ((rd_T41 l0_2 x3_1).f0) x4_2).f3) ((rd_T57 ((rd_T41 l0_2 x3_1).f0) x4_2).f4) ((rd_T57 ((rd_T41 l0_2 x3_1).f0) x4_2).f5) ((rd_T57 ((rd_T41 l0_2 x3_1).f0) x4_2).f6) = some r) ∧ Aside0 (kq ≤ k2) ∧ Aside0 (w'.heap[gb268]? = some (.cells #[.int .i64 a0_0, .int .i64 a0_1, (.slice (some ad269) l0_2.length c0_2)] 24 (0, 0))) ∧ Aside0 (w'.heap[gb272]? = some (.cells #[.int .i64 ((rd_T57 ((rd_T41 l0_2 x3_1).f0) x4_2).f0), .int .i64 ((rd_T57 ((rd_T41 l0_2 x3_1).f0) x4_2).f1), (.slice A271_2 ((rd_T57 ((rd_T41 l0_2 x3_1).f0) x4_2).f2).length c271_2), (.slice A271_3 ((rd_T57 ((rd_T41 l0_2 x3_1).f0) x4_2).f3).length c271_3), .int .i64 ((rd_T57 ((rd_T41 l0_2 x3_1).f0) x4_2).f4), .int .i64 ((rd_T57 ((rd_T41 l0_2 x3_1).f0) x4_2).f5), .int .i64 ((rd_T57 ((rd_T41 l0_2 x3_1).f0) x4_2).f6)] 57 (0, 0))) ∧ Aside0 (Below w.heap.size w w'))
 case atStart => exact ⟨(0), sqI, H', ⟨Nat.le_refl _⟩, ⟨(sqK (sqX7 BK268.out NB268_272.out))⟩, ⟨(sqK (sqP7 BK272.out))⟩, ⟨sqB2 HB.out GE268.out GE272.out⟩⟩
 clear H'
 try clear c1
 try clear c2
 try clear p2
 try clear q2
 try clear hx2
 try clear c3
 try clear c3b0
 try clear c4
 try clear c5
 try clear c5b0
 try clear c6
 try clear c6b0
 try clear c7
 try clear c7b0
 try clear c8
 try clear c8b0
 try clear c11
 try clear hcz12_0 hcz12_1 hcz12_2 hcz12_3 hcz12_4 hcz12_5 hcz12_6
 try clear hcz4_0 hcz4_1 hcz4_2
 try clear hcz9_0 hcz9_1 hcz9_2
 try clear hfz12_0 hfz12_1 hfz12_2 hfz12_3 hfz12_4 hfz12_5 hfz12_6
 try clear hfz4_0 hfz4_1 hfz4_2
 try clear hfz9_0 hfz9_1 hfz9_2
 try clear hx269_0
 try clear hx270_0
 try clear hx271_0 hx271_1 hx271_2 hx271_3 hx271_4 hx271_5 hx271_6
 try clear p2
 try clear p269
 try clear p270
 try clear p271
 try clear q269
 try clear q270
 try clear q271
 obtain ⟨x6_3, rfl, HA, HK3, BK268, BK272, HB⟩ := hrel
 cases gk with
 | zero => exact absurd HA.out (by simp [boarderref13_Places.l2])
 | succ k3 => ?_
 have H := HA.out
 clear HA
 simp only [boarderref13_Places.l2] at H
 by_cases c13 : x6_3 < (((rd_T57 ((rd_T41 l0_2 x3_1).f0) x4_2).f2).length : Int)
 · rw [if_pos c13] at H
   have c13b0 : decide (x6_3 < (((rd_T57 ((rd_T41 l0_2 x3_1).f0) x4_2).f2).length : Int)) = true := decide_eq_true c13
   clear c13
   by_cases c14 : 0 ≤ x6_3
   rotate_left
   · rw [if_neg c14] at H
     exact absurd H (by simp)
   rw [if_pos c14] at H
   have c14b0 : decide (0 ≤ x6_3) = true := decide_eq_true c14
   clear c14
   replace H := Option.bind_eq_some_iff.mp H
   obtain ⟨t275, A150, H⟩ := H
   replace H : (if t275 = true then ((boarderref13_lends.f k3 ((rd_T57 ((rd_T41 l0_2 x3_1).f0) x4_2).f0) ((rd_T57 ((rd_T41 l0_2 x3_1).f0) x4_2).f1) ((rd_T57 ((rd_T41 l0_2 x3_1).f0) x4_2).f2) ((rd_T57 ((rd_T41 l0_2 x3_1).f0) x4_2).f3) ((rd_T57 ((rd_T41 l0_2 x3_1).f0) x4_2).f4) ((rd_T57 ((rd_T41 l0_2 x3_1).f0) x4_2).f5) ((rd_T57 ((rd_T41 l0_2 x3_1).f0) x4_2).f6) ((rd_T62 ((rd_T57 ((rd_T41 l0_2 x3_1).f0) x4_2).f2) x6_3).f1)).bind fun t276 => (if t276 = true then (if a0_0 ≥ ((rd_T62 ((rd_T57 ((rd_T41 l0_2 x3_1).f0) x4_2).f2) x6_3).f0) then (if a0_0 ≤ ((rd_T62 ((rd_T57 ((rd_T41 l0_2 x3_1).f0) x4_2).f2) x6_3).f1) then (some false) else (boarderref13_Places.l2 k3 x3_1 x4_2 (wrap64 (x6_3 + 1)) a0_0 a0_1 l0_2 ((rd_T57 ((rd_T41 l0_2 x3_1).f0) x4_2).f0) ((rd_T57 ((rd_T41 l0_2 x3_1).f0) x4_2).f1) ((rd_T57 ((rd_T41 l0_2 x3_1).f0) x4_2).f2) ((rd_T57 ((rd_T41 l0_2 x3_1).f0) x4_2).f3) ((rd_T57 ((rd_T41 l0_2 x3_1).f0) x4_2).f4) ((rd_T57 ((rd_T41 l0_2 x3_1).f0) x4_2).f5) ((rd_T57 ((rd_T41 l0_2 x3_1).f0) x4_2).f6))) else (boarderref13_Places.l2 k3 x3_1 x4_2 (wrap64 (x6_3 + 1)) a0_0 a0_1 l0_2 ((rd_T57 ((rd_T41 l0_2 x3_1).f0) x4_2).f0) ((rd_T57 ((rd_T41 l0_2 x3_1).f0) x4_2).f1) ((rd_T57 ((rd_T41 l0_2 x3_1).f0) x4_2).f2) ((rd_T57 ((rd_T41 l0_2 x3_1).f0) x4_2).f3) ((rd_T57 ((rd_T41 l0_2 x3_1).f0) x4_2).f4) ((rd_T57 ((rd_T41 l0_2 x3_1).f0) x4_2).f5) ((rd_T57 ((rd_T41 l0_2 x3_1).f0) x4_2).f6))) else (some false))) else (some false)) = some r := H
   have A15 := Aside0.mk A150
   clear A150
   by_cases c16 : t275 = true
   rotate_left
   · replace c16 := Bool.eq_false_iff.mpr c16
     subst c16
     have H1 : (some false) = some r := by rw [if_neg (show ¬ (false = true) by decide)] at H; exact H
     clear H
     have H := H1
     clear H1
     obtain rfl := Option.some.inj H
     have hnb71 := NB272_268.out
     have hnc71 := NB268_272.out
     obtain ⟨hcz72_0, hcz72_1, hcz72_2, hcz72_3, hcz72_4, hcz72_5, hcz72_6, hfz72_0, hfz72_1, hfz72_2, hfz72_3, hfz72_4, hfz72_5, hfz72_6⟩ := sqF7 BK272.out
     have p273 : 0 ≤ (x6_3 : Int) := of_decide_eq_true sqH
     have q273 : x6_3 < (((rd_T57 ((rd_T41 l0_2 x3_1).f0) x4_2).f2).length : Int) := of_decide_eq_true sqH
     obtain ⟨ad273, e273, hx273_0, hx273_1⟩ := at_T62 HR271_2.out x6_3 p273 q273
     cases e273
     replace hx273_0 := sqx HB.out hx273_0
     replace hx273_1 := sqx HB.out hx273_1
     replace p273 := eq_true p273
     replace q273 := eq_true q273
     go_wp2_with (first | ((with_reducible refine gate_dst (N := 7) rfl ?_); refine box_event rfl (N := 7) rfl (cs := #[.int .i64 0, .int .i64 0]) (t := 62) sqs ?_; intro gb274 hg w73 hbox hb; have BK274 := sqM (hbox); have GW274 := sqM (sqZ hg (sqB2 HB.out GE268.out GE272.out)); have GE274 := sqM (sqZ hg (sqB2 HB.out GE268.out GE272.out)); have NB268_274 := sqM (sqL hg (sqK BK268.out)); have NB274_268 := sqM (sqG hg (sqK BK268.out)); have NB272_274 := sqM (sqL hg (sqK BK272.out)); have NB274_272 := sqM (sqG hg (sqK BK272.out)); replace BK268 := sqM (blk_below (sqK BK268.out) hb); replace BK272 := sqM (blk_below (sqK BK272.out) hb); replace HB := sqM (below_step (sqB2 HB.out GE268.out GE272.out) hb); clear hb hbox hg; have hnb74 := NB274_268.out; have hnc74 := NB268_274.out; have hnb75 := NB274_272.out; have hnc75 := NB272_274.out; obtain ⟨hcz76_0, hcz76_1, hfz76_0, hfz76_1⟩ := sqF2 BK274.out; obtain ⟨hcz77_0, hcz77_1, hcz77_2, hcz77_3, hcz77_4, hcz77_5, hcz77_6, hfz77_0, hfz77_1, hfz77_2, hfz77_3, hfz77_4, hfz77_5, hfz77_6⟩ := sqF7 BK272.out) | ((with_reducible refine gate_callee (f := 72) rfl ?_); refine goesL_ (some 51) rfl rfl Try.func72 (by kernel_rfl) rfl #[.agg #[.int .i64 ((rd_T57 ((rd_T41 l0_2 x3_1).f0) x4_2).f0), .int .i64 ((rd_T57 ((rd_T41 l0_2 x3_1).f0) x4_2).f1), .slice (some ad273) ((rd_T57 ((rd_T41 l0_2 x3_1).f0) x4_2).f2).length c271_2, .slice A271_3 ((rd_T57 ((rd_T41 l0_2 x3_1).f0) x4_2).f3).length c271_3, .int .i64 ((rd_T57 ((rd_T41 l0_2 x3_1).f0) x4_2).f4), .int .i64 ((rd_T57 ((rd_T41 l0_2 x3_1).f0) x4_2).f5), .int .i64 ((rd_T57 ((rd_T41 l0_2 x3_1).f0) x4_2).f6)], .int .i64 ((rd_T62 ((rd_T57 ((rd_T41 l0_2 x3_1).f0) x4_2).f2) x6_3).f0)] rfl sqA ?_; (with_reducible refine (boarderref13_lends.calls _ _ _ _ _ _ _ _ _ _ _ _ _ _ _ ?side1 ?side2 ?side3 ?side4 A15.out).mono ?_); (case side1 => exact Kd.C_below HR271_2.out (sqB3 HB.out GE268.out GE272.out GE274.out)); (case side2 => exact HC271_2.out); (case side3 => exact Kd.C_below HR271_3.out (sqB3 HB.out GE268.out GE272.out GE274.out)); (case side4 => exact HC271_3.out); rintro e w78 ⟨rfl, hb⟩; refine ⟨_, rfl, ?_⟩; replace BK268 := sqM (blk_below (sqK (sqX2 BK268.out NB268_274.out)) hb); replace BK272 := sqM (blk_below (sqK (sqX2 BK272.out NB272_274.out)) hb); replace BK274 := sqM (blk_below (sqK (sqP2 BK274.out)) hb); replace HB := sqM (below_step (sqB3 HB.out GE268.out GE272.out GE274.out) hb); (try clear hb); (try clear hb2); (try clear hk); (try clear hi)))
     go_ret
     exact ⟨sqE, sqB3 HB.out GE268.out GE272.out GE274.out⟩
   subst c16
   have H1 : ((boarderref13_lends.f k3 ((rd_T57 ((rd_T41 l0_2 x3_1).f0) x4_2).f0) ((rd_T57 ((rd_T41 l0_2 x3_1).f0) x4_2).f1) ((rd_T57 ((rd_T41 l0_2 x3_1).f0) x4_2).f2) ((rd_T57 ((rd_T41 l0_2 x3_1).f0) x4_2).f3) ((rd_T57 ((rd_T41 l0_2 x3_1).f0) x4_2).f4) ((rd_T57 ((rd_T41 l0_2 x3_1).f0) x4_2).f5) ((rd_T57 ((rd_T41 l0_2 x3_1).f0) x4_2).f6) ((rd_T62 ((rd_T57 ((rd_T41 l0_2 x3_1).f0) x4_2).f2) x6_3).f1)).bind fun t276 => (if t276 = true then (if a0_0 ≥ ((rd_T62 ((rd_T57 ((rd_T41 l0_2 x3_1).f0) x4_2).f2) x6_3).f0) then (if a0_0 ≤ ((rd_T62 ((rd_T57 ((rd_T41 l0_2 x3_1).f0) x4_2).f2) x6_3).f1) then (some false) else (boarderref13_Places.l2 k3 x3_1 x4_2 (wrap64 (x6_3 + 1)) a0_0 a0_1 l0_2 ((rd_T57 ((rd_T41 l0_2 x3_1).f0) x4_2).f0) ((rd_T57 ((rd_T41 l0_2 x3_1).f0) x4_2).f1) ((rd_T57 ((rd_T41 l0_2 x3_1).f0) x4_2).f2) ((rd_T57 ((rd_T41 l0_2 x3_1).f0) x4_2).f3) ((rd_T57 ((rd_T41 l0_2 x3_1).f0) x4_2).f4) ((rd_T57 ((rd_T41 l0_2 x3_1).f0) x4_2).f5) ((rd_T57 ((rd_T41 l0_2 x3_1).f0) x4_2).f6))) else (boarderref13_Places.l2 k3 x3_1 x4_2 (wrap64 (x6_3 + 1)) a0_0 a0_1 l0_2 ((rd_T57 ((rd_T41 l0_2 x3_1).f0) x4_2).f0) ((rd_T57 ((rd_T41 l0_2 x3_1).f0) x4_2).f1) ((rd_T57 ((rd_T41 l0_2 x3_1).f0) x4_2).f2) ((rd_T57 ((rd_T41 l0_2 x3_1).f0) x4_2).f3) ((rd_T57 ((rd_T41 l0_2 x3_1).f0) x4_2).f4) ((rd_T57 ((rd_T41 l0_2 x3_1).f0) x4_2).f5) ((rd_T57 ((rd_T41 l0_2 x3_1).f0) x4_2).f6))) else (some false))) = some r := by rw [if_pos rfl] at H; exact H
   clear H
   have H := H1
   clear H1
   replace H := Option.bind_eq_some_iff.mp H
   obtain ⟨t276, A170, H⟩ := H
   replace H : (if t276 = true then (if a0_0 ≥ ((rd_T62 ((rd_T57 ((rd_T41 l0_2 x3_1).f0) x4_2).f2) x6_3).f0) then (if a0_0 ≤ ((rd_T62 ((rd_T57 ((rd_T41 l0_2 x3_1).f0) x4_2).f2) x6_3).f1) then (some false) else (boarderref13_Places.l2 k3 x3_1 x4_2 (wrap64 (x6_3 + 1)) a0_0 a0_1 l0_2 ((rd_T57 ((rd_T41 l0_2 x3_1).f0) x4_2).f0) ((rd_T57 ((rd_T41 l0_2 x3_1).f0) x4_2).f1) ((rd_T57 ((rd_T41 l0_2 x3_1).f0) x4_2).f2) ((rd_T57 ((rd_T41 l0_2 x3_1).f0) x4_2).f3) ((rd_T57 ((rd_T41 l0_2 x3_1).f0) x4_2).f4) ((rd_T57 ((rd_T41 l0_2 x3_1).f0) x4_2).f5) ((rd_T57 ((rd_T41 l0_2 x3_1).f0) x4_2).f6))) else (boarderref13_Places.l2 k3 x3_1 x4_2 (wrap64 (x6_3 + 1)) a0_0 a0_1 l0_2 ((rd_T57 ((rd_T41 l0_2 x3_1).f0) x4_2).f0) ((rd_T57 ((rd_T41 l0_2 x3_1).f0) x4_2).f1) ((rd_T57 ((rd_T41 l0_2 x3_1).f0) x4_2).f2) ((rd_T57 ((rd_T41 l0_2 x3_1).f0) x4_2).f3) ((rd_T57 ((rd_T41 l0_2 x3_1).f0) x4_2).f4) ((rd_T57 ((rd_T41 l0_2 x3_1).f0) x4_2).f5) ((rd_T57 ((rd_T41 l0_2 x3_1).f0) x4_2).f6))) else (some false)) = some r := H
   have A17 := Aside0.mk A170
   clear A170
   by_cases c18 : t276 = true
   rotate_left
   · replace c18 := Bool.eq_false_iff.mpr c18
     subst c18
     have H1 : (some false) = some r := by rw [if_neg (show ¬ (false = true) by decide)] at H; exact H
     clear H
     have H := H1
     clear H1
     obtain rfl := Option.some.inj H
     have hnb60 := NB272_268.out
     have hnc60 := NB268_272.out
     obtain ⟨hcz61_0, hcz61_1, hcz61_2, hcz61_3, hcz61_4, hcz61_5, hcz61_6, hfz61_0, hfz61_1, hfz61_2, hfz61_3, hfz61_4, hfz61_5, hfz61_6⟩ := sqF7 BK272.out
     have p273 : 0 ≤ (x6_3 : Int) := of_decide_eq_true sqH
     have q273 : x6_3 < (((rd_T57 ((rd_T41 l0_2 x3_1).f0) x4_2).f2).length : Int) := of_decide_eq_true sqH
     obtain ⟨ad273, e273, hx273_0, hx273_1⟩ := at_T62 HR271_2.out x6_3 p273 q273
     cases e273
     replace hx273_0 := sqx HB.out hx273_0
     replace hx273_1 := sqx HB.out hx273_1
     replace p273 := eq_true p273
     replace q273 := eq_true q273
     go_wp2_with (first | ((with_reducible refine gate_dst (N := 7) rfl ?_); refine box_event rfl (N := 7) rfl (cs := #[.int .i64 0, .int .i64 0]) (t := 62) sqs ?_; intro gb274 hg w62 hbox hb; have BK274 := sqM (hbox); have GW274 := sqM (sqZ hg (sqB2 HB.out GE268.out GE272.out)); have GE274 := sqM (sqZ hg (sqB2 HB.out GE268.out GE272.out)); have NB268_274 := sqM (sqL hg (sqK BK268.out)); have NB274_268 := sqM (sqG hg (sqK BK268.out)); have NB272_274 := sqM (sqL hg (sqK BK272.out)); have NB274_272 := sqM (sqG hg (sqK BK272.out)); replace BK268 := sqM (blk_below (sqK BK268.out) hb); replace BK272 := sqM (blk_below (sqK BK272.out) hb); replace HB := sqM (below_step (sqB2 HB.out GE268.out GE272.out) hb); clear hb hbox hg; have hnb63 := NB274_268.out; have hnc63 := NB268_274.out; have hnb64 := NB274_272.out; have hnc64 := NB272_274.out; obtain ⟨hcz65_0, hcz65_1, hfz65_0, hfz65_1⟩ := sqF2 BK274.out; obtain ⟨hcz66_0, hcz66_1, hcz66_2, hcz66_3, hcz66_4, hcz66_5, hcz66_6, hfz66_0, hfz66_1, hfz66_2, hfz66_3, hfz66_4, hfz66_5, hfz66_6⟩ := sqF7 BK272.out) | ((with_reducible refine gate_callee (f := 72) rfl ?_); refine goesL_ (some 51) rfl rfl Try.func72 (by kernel_rfl) rfl #[.agg #[.int .i64 ((rd_T57 ((rd_T41 l0_2 x3_1).f0) x4_2).f0), .int .i64 ((rd_T57 ((rd_T41 l0_2 x3_1).f0) x4_2).f1), .slice (some ad273) ((rd_T57 ((rd_T41 l0_2 x3_1).f0) x4_2).f2).length c271_2, .slice A271_3 ((rd_T57 ((rd_T41 l0_2 x3_1).f0) x4_2).f3).length c271_3, .int .i64 ((rd_T57 ((rd_T41 l0_2 x3_1).f0) x4_2).f4), .int .i64 ((rd_T57 ((rd_T41 l0_2 x3_1).f0) x4_2).f5), .int .i64 ((rd_T57 ((rd_T41 l0_2 x3_1).f0) x4_2).f6)], .int .i64 ((rd_T62 ((rd_T57 ((rd_T41 l0_2 x3_1).f0) x4_2).f2) x6_3).f0)] rfl sqA ?_; (with_reducible refine (boarderref13_lends.calls _ _ _ _ _ _ _ _ _ _ _ _ _ _ _ ?side1 ?side2 ?side3 ?side4 A15.out).mono ?_); (case side1 => exact Kd.C_below HR271_2.out (sqB3 HB.out GE268.out GE272.out GE274.out)); (case side2 => exact HC271_2.out); (case side3 => exact Kd.C_below HR271_3.out (sqB3 HB.out GE268.out GE272.out GE274.out)); (case side4 => exact HC271_3.out); rintro e w67 ⟨rfl, hb⟩; refine ⟨_, rfl, ?_⟩; replace BK268 := sqM (blk_below (sqK (sqX2 BK268.out NB268_274.out)) hb); replace BK272 := sqM (blk_below (sqK (sqX2 BK272.out NB272_274.out)) hb); replace BK274 := sqM (blk_below (sqK (sqP2 BK274.out)) hb); replace HB := sqM (below_step (sqB3 HB.out GE268.out GE272.out GE274.out) hb); (try clear hb); (try clear hb2); (try clear hk); (try clear hi); obtain ⟨hcz68_0, hcz68_1, hcz68_2, hcz68_3, hcz68_4, hcz68_5, hcz68_6, hfz68_0, hfz68_1, hfz68_2, hfz68_3, hfz68_4, hfz68_5, hfz68_6⟩ := sqF7 BK272.out; obtain ⟨hcz69_0, hcz69_1, hfz69_0, hfz69_1⟩ := sqF2 BK274.out) | (go_at_call 72; (with_reducible refine (boarderref13_lends.calls _ _ _ _ _ _ _ _ _ _ _ _ _ _ _ ?side1 ?side2 ?side3 ?side4 A17.out).mono ?_); (case side1 => repeat (first | exact (Kd.C_below HR271_2.out HB.out) | (with_reducible refine Kd.C_alloc ?_ _) | (with_reducible refine Kd.C_drewN ?_ _) | (with_reducible refine Kd.C_drew ?_))); (case side2 => exact HC271_2.out); (case side3 => repeat (first | exact (Kd.C_below HR271_3.out HB.out) | (with_reducible refine Kd.C_alloc ?_ _) | (with_reducible refine Kd.C_drewN ?_ _) | (with_reducible refine Kd.C_drew ?_))); (case side4 => exact HC271_3.out); rintro e w70 ⟨rfl, hb⟩; replace BK268 := sqM (blk_below (sqK BK268.out) hb); replace BK272 := sqM (blk_below (sqK BK272.out) hb); replace BK274 := sqM (blk_below (sqK BK274.out) hb); replace HB := sqM (below_step (sqB3 HB.out GE268.out GE272.out GE274.out) hb); (try clear hb); (try clear hb2); (try clear hk); (try clear hi)))
     go_ret
     exact ⟨sqE, sqB3 HB.out GE268.out GE272.out GE274.out⟩
   subst c18
   have H1 : (if a0_0 ≥ ((rd_T62 ((rd_T57 ((rd_T41 l0_2 x3_1).f0) x4_2).f2) x6_3).f0) then (if a0_0 ≤ ((rd_T62 ((rd_T57 ((rd_T41 l0_2 x3_1).f0) x4_2).f2) x6_3).f1) then (some false) else (boarderref13_Places.l2 k3 x3_1 x4_2 (wrap64 (x6_3 + 1)) a0_0 a0_1 l0_2 ((rd_T57 ((rd_T41 l0_2 x3_1).f0) x4_2).f0) ((rd_T57 ((rd_T41 l0_2 x3_1).f0) x4_2).f1) ((rd_T57 ((rd_T41 l0_2 x3_1).f0) x4_2).f2) ((rd_T57 ((rd_T41 l0_2 x3_1).f0) x4_2).f3) ((rd_T57 ((rd_T41 l0_2 x3_1).f0) x4_2).f4) ((rd_T57 ((rd_T41 l0_2 x3_1).f0) x4_2).f5) ((rd_T57 ((rd_T41 l0_2 x3_1).f0) x4_2).f6))) else (boarderref13_Places.l2 k3 x3_1 x4_2 (wrap64 (x6_3 + 1)) a0_0 a0_1 l0_2 ((rd_T57 ((rd_T41 l0_2 x3_1).f0) x4_2).f0) ((rd_T57 ((rd_T41 l0_2 x3_1).f0) x4_2).f1) ((rd_T57 ((rd_T41 l0_2 x3_1).f0) x4_2).f2) ((rd_T57 ((rd_T41 l0_2 x3_1).f0) x4_2).f3) ((rd_T57 ((rd_T41 l0_2 x3_1).f0) x4_2).f4) ((rd_T57 ((rd_T41 l0_2 x3_1).f0) x4_2).f5) ((rd_T57 ((rd_T41 l0_2 x3_1).f0) x4_2).f6))) = some r := by rw [if_pos rfl] at H; exact H
   clear H
   have H := H1
   clear H1
   by_cases c19 : a0_0 ≥ ((rd_T62 ((rd_T57 ((rd_T41 l0_2 x3_1).f0) x4_2).f2) x6_3).f0)
   rotate_left
   · rw [if_neg c19] at H
     have c19b0 : decide (((rd_T62 ((rd_T57 ((rd_T41 l0_2 x3_1).f0) x4_2).f2) x6_3).f0) ≤ a0_0) = false := decide_eq_false c19
     clear c19
     have H' := Aside0.mk H
     clear H
     have hnb47 := NB272_268.out
     have hnc47 := NB268_272.out
     obtain ⟨hcz48_0, hcz48_1, hcz48_2, hcz48_3, hcz48_4, hcz48_5, hcz48_6, hfz48_0, hfz48_1, hfz48_2, hfz48_3, hfz48_4, hfz48_5, hfz48_6⟩ := sqF7 BK272.out
     have p273 : 0 ≤ (x6_3 : Int) := of_decide_eq_true sqH
     have q273 : x6_3 < (((rd_T57 ((rd_T41 l0_2 x3_1).f0) x4_2).f2).length : Int) := of_decide_eq_true sqH
     obtain ⟨ad273, e273, hx273_0, hx273_1⟩ := at_T62 HR271_2.out x6_3 p273 q273
     cases e273
     replace hx273_0 := sqx HB.out hx273_0
     replace hx273_1 := sqx HB.out hx273_1
     replace p273 := eq_true p273
     replace q273 := eq_true q273
     go_wp2_with (first | ((with_reducible refine gate_dst (N := 7) rfl ?_); refine box_event rfl (N := 7) rfl (cs := #[.int .i64 0, .int .i64 0]) (t := 62) sqs ?_; intro gb274 hg w49 hbox hb; have BK274 := sqM (hbox); have GW274 := sqM (sqZ hg (sqB2 HB.out GE268.out GE272.out)); have GE274 := sqM (sqZ hg (sqB2 HB.out GE268.out GE272.out)); have NB268_274 := sqM (sqL hg (sqK BK268.out)); have NB274_268 := sqM (sqG hg (sqK BK268.out)); have NB272_274 := sqM (sqL hg (sqK BK272.out)); have NB274_272 := sqM (sqG hg (sqK BK272.out)); replace BK268 := sqM (blk_below (sqK BK268.out) hb); replace BK272 := sqM (blk_below (sqK BK272.out) hb); replace HB := sqM (below_step (sqB2 HB.out GE268.out GE272.out) hb); clear hb hbox hg; have hnb50 := NB274_268.out; have hnc50 := NB268_274.out; have hnb51 := NB274_272.out; have hnc51 := NB272_274.out; obtain ⟨hcz52_0, hcz52_1, hfz52_0, hfz52_1⟩ := sqF2 BK274.out; obtain ⟨hcz53_0, hcz53_1, hcz53_2, hcz53_3, hcz53_4, hcz53_5, hcz53_6, hfz53_0, hfz53_1, hfz53_2, hfz53_3, hfz53_4, hfz53_5, hfz53_6⟩ := sqF7 BK272.out) | ((with_reducible refine gate_callee (f := 72) rfl ?_); refine goesL_ (some 51) rfl rfl Try.func72 (by kernel_rfl) rfl #[.agg #[.int .i64 ((rd_T57 ((rd_T41 l0_2 x3_1).f0) x4_2).f0), .int .i64 ((rd_T57 ((rd_T41 l0_2 x3_1).f0) x4_2).f1), .slice (some ad273) ((rd_T57 ((rd_T41 l0_2 x3_1).f0) x4_2).f2).length c271_2, .slice A271_3 ((rd_T57 ((rd_T41 l0_2 x3_1).f0) x4_2).f3).length c271_3, .int .i64 ((rd_T57 ((rd_T41 l0_2 x3_1).f0) x4_2).f4), .int .i64 ((rd_T57 ((rd_T41 l0_2 x3_1).f0) x4_2).f5), .int .i64 ((rd_T57 ((rd_T41 l0_2 x3_1).f0) x4_2).f6)], .int .i64 ((rd_T62 ((rd_T57 ((rd_T41 l0_2 x3_1).f0) x4_2).f2) x6_3).f0)] rfl sqA ?_; (with_reducible refine (boarderref13_lends.calls _ _ _ _ _ _ _ _ _ _ _ _ _ _ _ ?side1 ?side2 ?side3 ?side4 A15.out).mono ?_); (case side1 => exact Kd.C_below HR271_2.out (sqB3 HB.out GE268.out GE272.out GE274.out)); (case side2 => exact HC271_2.out); (case side3 => exact Kd.C_below HR271_3.out (sqB3 HB.out GE268.out GE272.out GE274.out)); (case side4 => exact HC271_3.out); rintro e w54 ⟨rfl, hb⟩; refine ⟨_, rfl, ?_⟩; replace BK268 := sqM (blk_below (sqK (sqX2 BK268.out NB268_274.out)) hb); replace BK272 := sqM (blk_below (sqK (sqX2 BK272.out NB272_274.out)) hb); replace BK274 := sqM (blk_below (sqK (sqP2 BK274.out)) hb); replace HB := sqM (below_step (sqB3 HB.out GE268.out GE272.out GE274.out) hb); (try clear hb); (try clear hb2); (try clear hk); (try clear hi); obtain ⟨hcz55_0, hcz55_1, hcz55_2, hcz55_3, hcz55_4, hcz55_5, hcz55_6, hfz55_0, hfz55_1, hfz55_2, hfz55_3, hfz55_4, hfz55_5, hfz55_6⟩ := sqF7 BK272.out; obtain ⟨hcz56_0, hcz56_1, hfz56_0, hfz56_1⟩ := sqF2 BK274.out) | (go_at_call 72; (with_reducible refine (boarderref13_lends.calls _ _ _ _ _ _ _ _ _ _ _ _ _ _ _ ?side1 ?side2 ?side3 ?side4 A17.out).mono ?_); (case side1 => repeat (first | exact (Kd.C_below HR271_2.out HB.out) | (with_reducible refine Kd.C_alloc ?_ _) | (with_reducible refine Kd.C_drewN ?_ _) | (with_reducible refine Kd.C_drew ?_))); (case side2 => exact HC271_2.out); (case side3 => repeat (first | exact (Kd.C_below HR271_3.out HB.out) | (with_reducible refine Kd.C_alloc ?_ _) | (with_reducible refine Kd.C_drewN ?_ _) | (with_reducible refine Kd.C_drew ?_))); (case side4 => exact HC271_3.out); rintro e w57 ⟨rfl, hb⟩; replace BK268 := sqM (blk_below (sqK BK268.out) hb); replace BK272 := sqM (blk_below (sqK BK272.out) hb); replace BK274 := sqM (blk_below (sqK BK274.out) hb); replace HB := sqM (below_step (sqB3 HB.out GE268.out GE272.out GE274.out) hb); (try clear hb); (try clear hb2); (try clear hk); (try clear hi); obtain ⟨hcz58_0, hcz58_1, hcz58_2, hfz58_0, hfz58_1, hfz58_2⟩ := sqF3 BK268.out; obtain ⟨hcz59_0, hcz59_1, hfz59_0, hfz59_1⟩ := sqF2 BK274.out))
     go_roundg k3
     case measure => have := HK1.out; have := HK2.out; have := HK3.out; omega
     case rel => exact ⟨(wrap64 (x6_3 + 1)), sqI, H', ⟨by have := HK1.out; have := HK2.out; have := HK3.out; omega⟩, ⟨sqK BK268.out⟩, ⟨sqK BK272.out⟩, ⟨sqB3 HB.out GE268.out GE272.out GE274.out⟩⟩
   rw [if_pos c19] at H
   have c19b0 : decide (((rd_T62 ((rd_T57 ((rd_T41 l0_2 x3_1).f0) x4_2).f2) x6_3).f0) ≤ a0_0) = true := decide_eq_true c19
   clear c19
   by_cases c20 : a0_0 ≤ ((rd_T62 ((rd_T57 ((rd_T41 l0_2 x3_1).f0) x4_2).f2) x6_3).f1)
   · rw [if_pos c20] at H
     have c20b0 : decide (a0_0 ≤ ((rd_T62 ((rd_T57 ((rd_T41 l0_2 x3_1).f0) x4_2).f2) x6_3).f1)) = true := decide_eq_true c20
     clear c20
     obtain rfl := Option.some.inj H
     have hnb21 := NB272_268.out
     have hnc21 := NB268_272.out
     obtain ⟨hcz22_0, hcz22_1, hcz22_2, hcz22_3, hcz22_4, hcz22_5, hcz22_6, hfz22_0, hfz22_1, hfz22_2, hfz22_3, hfz22_4, hfz22_5, hfz22_6⟩ := sqF7 BK272.out
     have p273 : 0 ≤ (x6_3 : Int) := of_decide_eq_true sqH
     have q273 : x6_3 < (((rd_T57 ((rd_T41 l0_2 x3_1).f0) x4_2).f2).length : Int) := of_decide_eq_true sqH
     obtain ⟨ad273, e273, hx273_0, hx273_1⟩ := at_T62 HR271_2.out x6_3 p273 q273
     cases e273
     replace hx273_0 := sqx HB.out hx273_0
     replace hx273_1 := sqx HB.out hx273_1
     replace p273 := eq_true p273
     replace q273 := eq_true q273
     go_wp2_with (first | ((with_reducible refine gate_dst (N := 7) rfl ?_); refine box_event rfl (N := 7) rfl (cs := #[.int .i64 0, .int .i64 0]) (t := 62) sqs ?_; intro gb274 hg w23 hbox hb; have BK274 := sqM (hbox); have GW274 := sqM (sqZ hg (sqB2 HB.out GE268.out GE272.out)); have GE274 := sqM (sqZ hg (sqB2 HB.out GE268.out GE272.out)); have NB268_274 := sqM (sqL hg (sqK BK268.out)); have NB274_268 := sqM (sqG hg (sqK BK268.out)); have NB272_274 := sqM (sqL hg (sqK BK272.out)); have NB274_272 := sqM (sqG hg (sqK BK272.out)); replace BK268 := sqM (blk_below (sqK BK268.out) hb); replace BK272 := sqM (blk_below (sqK BK272.out) hb); replace HB := sqM (below_step (sqB2 HB.out GE268.out GE272.out) hb); clear hb hbox hg; have hnb24 := NB274_268.out; have hnc24 := NB268_274.out; have hnb25 := NB274_272.out; have hnc25 := NB272_274.out; obtain ⟨hcz26_0, hcz26_1, hfz26_0, hfz26_1⟩ := sqF2 BK274.out; obtain ⟨hcz27_0, hcz27_1, hcz27_2, hcz27_3, hcz27_4, hcz27_5, hcz27_6, hfz27_0, hfz27_1, hfz27_2, hfz27_3, hfz27_4, hfz27_5, hfz27_6⟩ := sqF7 BK272.out) | ((with_reducible refine gate_callee (f := 72) rfl ?_); refine goesL_ (some 51) rfl rfl Try.func72 (by kernel_rfl) rfl #[.agg #[.int .i64 ((rd_T57 ((rd_T41 l0_2 x3_1).f0) x4_2).f0), .int .i64 ((rd_T57 ((rd_T41 l0_2 x3_1).f0) x4_2).f1), .slice (some ad273) ((rd_T57 ((rd_T41 l0_2 x3_1).f0) x4_2).f2).length c271_2, .slice A271_3 ((rd_T57 ((rd_T41 l0_2 x3_1).f0) x4_2).f3).length c271_3, .int .i64 ((rd_T57 ((rd_T41 l0_2 x3_1).f0) x4_2).f4), .int .i64 ((rd_T57 ((rd_T41 l0_2 x3_1).f0) x4_2).f5), .int .i64 ((rd_T57 ((rd_T41 l0_2 x3_1).f0) x4_2).f6)], .int .i64 ((rd_T62 ((rd_T57 ((rd_T41 l0_2 x3_1).f0) x4_2).f2) x6_3).f0)] rfl sqA ?_; (with_reducible refine (boarderref13_lends.calls _ _ _ _ _ _ _ _ _ _ _ _ _ _ _ ?side1 ?side2 ?side3 ?side4 A15.out).mono ?_); (case side1 => exact Kd.C_below HR271_2.out (sqB3 HB.out GE268.out GE272.out GE274.out)); (case side2 => exact HC271_2.out); (case side3 => exact Kd.C_below HR271_3.out (sqB3 HB.out GE268.out GE272.out GE274.out)); (case side4 => exact HC271_3.out); rintro e w28 ⟨rfl, hb⟩; refine ⟨_, rfl, ?_⟩; replace BK268 := sqM (blk_below (sqK (sqX2 BK268.out NB268_274.out)) hb); replace BK272 := sqM (blk_below (sqK (sqX2 BK272.out NB272_274.out)) hb); replace BK274 := sqM (blk_below (sqK (sqP2 BK274.out)) hb); replace HB := sqM (below_step (sqB3 HB.out GE268.out GE272.out GE274.out) hb); (try clear hb); (try clear hb2); (try clear hk); (try clear hi); obtain ⟨hcz29_0, hcz29_1, hcz29_2, hcz29_3, hcz29_4, hcz29_5, hcz29_6, hfz29_0, hfz29_1, hfz29_2, hfz29_3, hfz29_4, hfz29_5, hfz29_6⟩ := sqF7 BK272.out; obtain ⟨hcz30_0, hcz30_1, hfz30_0, hfz30_1⟩ := sqF2 BK274.out) | (go_at_call 72; (with_reducible refine (boarderref13_lends.calls _ _ _ _ _ _ _ _ _ _ _ _ _ _ _ ?side1 ?side2 ?side3 ?side4 A17.out).mono ?_); (case side1 => repeat (first | exact (Kd.C_below HR271_2.out HB.out) | (with_reducible refine Kd.C_alloc ?_ _) | (with_reducible refine Kd.C_drewN ?_ _) | (with_reducible refine Kd.C_drew ?_))); (case side2 => exact HC271_2.out); (case side3 => repeat (first | exact (Kd.C_below HR271_3.out HB.out) | (with_reducible refine Kd.C_alloc ?_ _) | (with_reducible refine Kd.C_drewN ?_ _) | (with_reducible refine Kd.C_drew ?_))); (case side4 => exact HC271_3.out); rintro e w31 ⟨rfl, hb⟩; replace BK268 := sqM (blk_below (sqK BK268.out) hb); replace BK272 := sqM (blk_below (sqK BK272.out) hb); replace BK274 := sqM (blk_below (sqK BK274.out) hb); replace HB := sqM (below_step (sqB3 HB.out GE268.out GE272.out GE274.out) hb); (try clear hb); (try clear hb2); (try clear hk); (try clear hi); obtain ⟨hcz32_0, hcz32_1, hcz32_2, hfz32_0, hfz32_1, hfz32_2⟩ := sqF3 BK268.out; obtain ⟨hcz33_0, hcz33_1, hfz33_0, hfz33_1⟩ := sqF2 BK274.out))
     go_ret
     exact ⟨sqE, sqB3 HB.out GE268.out GE272.out GE274.out⟩
   rw [if_neg c20] at H
   have c20b0 : decide (a0_0 ≤ ((rd_T62 ((rd_T57 ((rd_T41 l0_2 x3_1).f0) x4_2).f2) x6_3).f1)) = false := decide_eq_false c20
   clear c20
   have H' := Aside0.mk H
   clear H
   have hnb34 := NB272_268.out
   have hnc34 := NB268_272.out
   obtain ⟨hcz35_0, hcz35_1, hcz35_2, hcz35_3, hcz35_4, hcz35_5, hcz35_6, hfz35_0, hfz35_1, hfz35_2, hfz35_3, hfz35_4, hfz35_5, hfz35_6⟩ := sqF7 BK272.out
   have p273 : 0 ≤ (x6_3 : Int) := of_decide_eq_true sqH
   have q273 : x6_3 < (((rd_T57 ((rd_T41 l0_2 x3_1).f0) x4_2).f2).length : Int) := of_decide_eq_true sqH
   obtain ⟨ad273, e273, hx273_0, hx273_1⟩ := at_T62 HR271_2.out x6_3 p273 q273
   cases e273
   replace hx273_0 := sqx HB.out hx273_0
   replace hx273_1 := sqx HB.out hx273_1
   replace p273 := eq_true p273
   replace q273 := eq_true q273
   go_wp2_with (first | ((with_reducible refine gate_dst (N := 7) rfl ?_); refine box_event rfl (N := 7) rfl (cs := #[.int .i64 0, .int .i64 0]) (t := 62) sqs ?_; intro gb274 hg w36 hbox hb; have BK274 := sqM (hbox); have GW274 := sqM (sqZ hg (sqB2 HB.out GE268.out GE272.out)); have GE274 := sqM (sqZ hg (sqB2 HB.out GE268.out GE272.out)); have NB268_274 := sqM (sqL hg (sqK BK268.out)); have NB274_268 := sqM (sqG hg (sqK BK268.out)); have NB272_274 := sqM (sqL hg (sqK BK272.out)); have NB274_272 := sqM (sqG hg (sqK BK272.out)); replace BK268 := sqM (blk_below (sqK BK268.out) hb); replace BK272 := sqM (blk_below (sqK BK272.out) hb); replace HB := sqM (below_step (sqB2 HB.out GE268.out GE272.out) hb); clear hb hbox hg; have hnb37 := NB274_268.out; have hnc37 := NB268_274.out; have hnb38 := NB274_272.out; have hnc38 := NB272_274.out; obtain ⟨hcz39_0, hcz39_1, hfz39_0, hfz39_1⟩ := sqF2 BK274.out; obtain ⟨hcz40_0, hcz40_1, hcz40_2, hcz40_3, hcz40_4, hcz40_5, hcz40_6, hfz40_0, hfz40_1, hfz40_2, hfz40_3, hfz40_4, hfz40_5, hfz40_6⟩ := sqF7 BK272.out) | ((with_reducible refine gate_callee (f := 72) rfl ?_); refine goesL_ (some 51) rfl rfl Try.func72 (by kernel_rfl) rfl #[.agg #[.int .i64 ((rd_T57 ((rd_T41 l0_2 x3_1).f0) x4_2).f0), .int .i64 ((rd_T57 ((rd_T41 l0_2 x3_1).f0) x4_2).f1), .slice (some ad273) ((rd_T57 ((rd_T41 l0_2 x3_1).f0) x4_2).f2).length c271_2, .slice A271_3 ((rd_T57 ((rd_T41 l0_2 x3_1).f0) x4_2).f3).length c271_3, .int .i64 ((rd_T57 ((rd_T41 l0_2 x3_1).f0) x4_2).f4), .int .i64 ((rd_T57 ((rd_T41 l0_2 x3_1).f0) x4_2).f5), .int .i64 ((rd_T57 ((rd_T41 l0_2 x3_1).f0) x4_2).f6)], .int .i64 ((rd_T62 ((rd_T57 ((rd_T41 l0_2 x3_1).f0) x4_2).f2) x6_3).f0)] rfl sqA ?_; (with_reducible refine (boarderref13_lends.calls _ _ _ _ _ _ _ _ _ _ _ _ _ _ _ ?side1 ?side2 ?side3 ?side4 A15.out).mono ?_); (case side1 => exact Kd.C_below HR271_2.out (sqB3 HB.out GE268.out GE272.out GE274.out)); (case side2 => exact HC271_2.out); (case side3 => exact Kd.C_below HR271_3.out (sqB3 HB.out GE268.out GE272.out GE274.out)); (case side4 => exact HC271_3.out); rintro e w41 ⟨rfl, hb⟩; refine ⟨_, rfl, ?_⟩; replace BK268 := sqM (blk_below (sqK (sqX2 BK268.out NB268_274.out)) hb); replace BK272 := sqM (blk_below (sqK (sqX2 BK272.out NB272_274.out)) hb); replace BK274 := sqM (blk_below (sqK (sqP2 BK274.out)) hb); replace HB := sqM (below_step (sqB3 HB.out GE268.out GE272.out GE274.out) hb); (try clear hb); (try clear hb2); (try clear hk); (try clear hi); obtain ⟨hcz42_0, hcz42_1, hcz42_2, hcz42_3, hcz42_4, hcz42_5, hcz42_6, hfz42_0, hfz42_1, hfz42_2, hfz42_3, hfz42_4, hfz42_5, hfz42_6⟩ := sqF7 BK272.out; obtain ⟨hcz43_0, hcz43_1, hfz43_0, hfz43_1⟩ := sqF2 BK274.out) | (go_at_call 72; (with_reducible refine (boarderref13_lends.calls _ _ _ _ _ _ _ _ _ _ _ _ _ _ _ ?side1 ?side2 ?side3 ?side4 A17.out).mono ?_); (case side1 => repeat (first | exact (Kd.C_below HR271_2.out HB.out) | (with_reducible refine Kd.C_alloc ?_ _) | (with_reducible refine Kd.C_drewN ?_ _) | (with_reducible refine Kd.C_drew ?_))); (case side2 => exact HC271_2.out); (case side3 => repeat (first | exact (Kd.C_below HR271_3.out HB.out) | (with_reducible refine Kd.C_alloc ?_ _) | (with_reducible refine Kd.C_drewN ?_ _) | (with_reducible refine Kd.C_drew ?_))); (case side4 => exact HC271_3.out); rintro e w44 ⟨rfl, hb⟩; replace BK268 := sqM (blk_below (sqK BK268.out) hb); replace BK272 := sqM (blk_below (sqK BK272.out) hb); replace BK274 := sqM (blk_below (sqK BK274.out) hb); replace HB := sqM (below_step (sqB3 HB.out GE268.out GE272.out GE274.out) hb); (try clear hb); (try clear hb2); (try clear hk); (try clear hi); obtain ⟨hcz45_0, hcz45_1, hcz45_2, hfz45_0, hfz45_1, hfz45_2⟩ := sqF3 BK268.out; obtain ⟨hcz46_0, hcz46_1, hfz46_0, hfz46_1⟩ := sqF2 BK274.out))
   go_roundg k3
   case measure => have := HK1.out; have := HK2.out; have := HK3.out; omega
   case rel => exact ⟨(wrap64 (x6_3 + 1)), sqI, H', ⟨by have := HK1.out; have := HK2.out; have := HK3.out; omega⟩, ⟨sqK BK268.out⟩, ⟨sqK BK272.out⟩, ⟨sqB3 HB.out GE268.out GE272.out GE274.out⟩⟩
 rw [if_neg c13] at H
 have c13b0 : decide (x6_3 < (((rd_T57 ((rd_T41 l0_2 x3_1).f0) x4_2).f2).length : Int)) = false := decide_eq_false c13
 clear c13
 have H' := Aside0.mk H
 clear H
 have hnb79 := NB272_268.out
 have hnc79 := NB268_272.out
 obtain ⟨hcz80_0, hcz80_1, hcz80_2, hcz80_3, hcz80_4, hcz80_5, hcz80_6, hfz80_0, hfz80_1, hfz80_2, hfz80_3, hfz80_4, hfz80_5, hfz80_6⟩ := sqF7 BK272.out
 go_wp2
 go_loopg [8] k3 (fun kq v8 w' => ∃ (x8_4 : Int), v8 = .int .i64 x8_4 ∧ Aside0 (boarderref13_Places.l3 kq x3_1 x4_2 x8_4 a0_0 a0_1 l0_2 ((rd_T57 ((rd_T41 l0_2 x3_1).f0) x4_2).f0) ((rd_T57 ((rd_T41 l0_2 x3_1).f0) x4_2).f1) ((rd_T57 ((rd_T41 l0_2 x3_1).f0) x4_2).f2) ((rd_T57 ((rd_T41 l0_2 x3_1).f0) x4_2).f3) ((rd_T57 ((rd_T41 l0_2 x3_1).f0) x4_2).f4) ((rd_T57 ((rd_T41 l0_2 x3_1).f0) x4_2).f5) ((rd_T57 ((rd_T41 l0_2 x3_1).f0) x4_2).f6) = some r) ∧ Aside0 (kq ≤ k3) ∧ Aside0 (w'.heap[gb268]? = some (.cells #[.int .i64 a0_0, .int .i64 a0_1, (.slice (some ad269) l0_2.length c0_2)] 24 (0, 0))) ∧ Aside0 (w'.heap[gb272]? = some (.cells #[.int .i64 ((rd_T57 ((rd_T41 l0_2 x3_1).f0) x4_2).f0), .int .i64 ((rd_T57 ((rd_T41 l0_2 x3_1).f0) x4_2).f1), (.slice A271_2 ((rd_T57 ((rd_T41 l0_2 x3_1).f0) x4_2).f2).length c271_2), (.slice A271_3 ((rd_T57 ((rd_T41 l0_2 x3_1).f0) x4_2).f3).length c271_3), .int .i64 ((rd_T57 ((rd_T41 l0_2 x3_1).f0) x4_2).f4), .int .i64 ((rd_T57 ((rd_T41 l0_2 x3_1).f0) x4_2).f5), .int .i64 ((rd_T57 ((rd_T41 l0_2 x3_1).f0) x4_2).f6)] 57 (0, 0))) ∧ Aside0 (Below w.heap.size w w'))
 case atStart => exact ⟨(0), sqI, H', ⟨Nat.le_refl _⟩, ⟨sqK BK268.out⟩, ⟨sqK BK272.out⟩, ⟨sqB2 HB.out GE268.out GE272.out⟩⟩
 clear H'
 try clear c1
 try clear c2
 try clear p2
 try clear q2
 try clear hx2
 try clear c3
 try clear c3b0
 try clear c4
 try clear c5
 try clear c5b0
 try clear c6
 try clear c6b0
 try clear p6
 try clear c7
 try clear c7b0
 try clear c8
 try clear c8b0
 try clear c11
 try clear c13
 try clear c13b0
 try clear c14
 try clear c14b0
 try clear c16
 try clear c18
 try clear c19
 try clear c19b0
 try clear c20
 try clear c20b0
 try clear c21
 try clear c24
 try clear c25
 try clear c26
 try clear p26
 try clear q26
 try clear hx26
 try clear c27
 try clear p27
 try clear q27
 try clear hx27
 try clear c34
 try clear c37
 try clear c38
 try clear c44
 try clear c47
 try clear c50
 try clear c51
 try clear c60
 try clear c63
 try clear c64
 try clear p64
 try clear c71
 try clear c72
 try clear c74
 try clear c75
 try clear c79
 try clear hcz12_0 hcz12_1 hcz12_2 hcz12_3 hcz12_4 hcz12_5 hcz12_6
 try clear hcz22_0 hcz22_1 hcz22_2 hcz22_3 hcz22_4 hcz22_5 hcz22_6
 try clear hcz26_0 hcz26_1
 try clear hcz27_0 hcz27_1 hcz27_2 hcz27_3 hcz27_4 hcz27_5 hcz27_6
 try clear hcz29_0 hcz29_1 hcz29_2 hcz29_3 hcz29_4 hcz29_5 hcz29_6
 try clear hcz30_0 hcz30_1
 try clear hcz32_0 hcz32_1 hcz32_2
 try clear hcz33_0 hcz33_1
 try clear hcz35_0 hcz35_1 hcz35_2 hcz35_3 hcz35_4 hcz35_5 hcz35_6
 try clear hcz39_0 hcz39_1
 try clear hcz40_0 hcz40_1 hcz40_2 hcz40_3 hcz40_4 hcz40_5 hcz40_6
 try clear hcz42_0 hcz42_1 hcz42_2 hcz42_3 hcz42_4 hcz42_5 hcz42_6
 try clear hcz43_0 hcz43_1
 try clear hcz45_0 hcz45_1 hcz45_2
 try clear hcz46_0 hcz46_1
 try clear hcz48_0 hcz48_1 hcz48_2 hcz48_3 hcz48_4 hcz48_5 hcz48_6
 try clear hcz4_0 hcz4_1 hcz4_2
 try clear hcz52_0 hcz52_1
 try clear hcz53_0 hcz53_1 hcz53_2 hcz53_3 hcz53_4 hcz53_5 hcz53_6
 try clear hcz55_0 hcz55_1 hcz55_2 hcz55_3 hcz55_4 hcz55_5 hcz55_6
 try clear hcz56_0 hcz56_1
 try clear hcz58_0 hcz58_1 hcz58_2
 try clear hcz59_0 hcz59_1
 try clear hcz61_0 hcz61_1 hcz61_2 hcz61_3 hcz61_4 hcz61_5 hcz61_6
 try clear hcz65_0 hcz65_1
 try clear hcz66_0 hcz66_1 hcz66_2 hcz66_3 hcz66_4 hcz66_5 hcz66_6
 try clear hcz68_0 hcz68_1 hcz68_2 hcz68_3 hcz68_4 hcz68_5 hcz68_6
 try clear hcz69_0 hcz69_1
 try clear hcz72_0 hcz72_1 hcz72_2 hcz72_3 hcz72_4 hcz72_5 hcz72_6
 try clear hcz76_0 hcz76_1
 try clear hcz77_0 hcz77_1 hcz77_2 hcz77_3 hcz77_4 hcz77_5 hcz77_6
 try clear hcz80_0 hcz80_1 hcz80_2 hcz80_3 hcz80_4 hcz80_5 hcz80_6
 try clear hcz9_0 hcz9_1 hcz9_2
 try clear hfz12_0 hfz12_1 hfz12_2 hfz12_3 hfz12_4 hfz12_5 hfz12_6
 try clear hfz22_0 hfz22_1 hfz22_2 hfz22_3 hfz22_4 hfz22_5 hfz22_6
 try clear hfz26_0 hfz26_1
 try clear hfz27_0 hfz27_1 hfz27_2 hfz27_3 hfz27_4 hfz27_5 hfz27_6
 try clear hfz29_0 hfz29_1 hfz29_2 hfz29_3 hfz29_4 hfz29_5 hfz29_6
 try clear hfz30_0 hfz30_1
 try clear hfz32_0 hfz32_1 hfz32_2
 try clear hfz33_0 hfz33_1
 try clear hfz35_0 hfz35_1 hfz35_2 hfz35_3 hfz35_4 hfz35_5 hfz35_6
 try clear hfz39_0 hfz39_1
 try clear hfz40_0 hfz40_1 hfz40_2 hfz40_3 hfz40_4 hfz40_5 hfz40_6
 try clear hfz42_0 hfz42_1 hfz42_2 hfz42_3 hfz42_4 hfz42_5 hfz42_6
 try clear hfz43_0 hfz43_1
 try clear hfz45_0 hfz45_1 hfz45_2
 try clear hfz46_0 hfz46_1
 try clear hfz48_0 hfz48_1 hfz48_2 hfz48_3 hfz48_4 hfz48_5 hfz48_6
 try clear hfz4_0 hfz4_1 hfz4_2
 try clear hfz52_0 hfz52_1
 try clear hfz53_0 hfz53_1 hfz53_2 hfz53_3 hfz53_4 hfz53_5 hfz53_6
 try clear hfz55_0 hfz55_1 hfz55_2 hfz55_3 hfz55_4 hfz55_5 hfz55_6
 try clear hfz56_0 hfz56_1
 try clear hfz58_0 hfz58_1 hfz58_2
 try clear hfz59_0 hfz59_1
 try clear hfz61_0 hfz61_1 hfz61_2 hfz61_3 hfz61_4 hfz61_5 hfz61_6
 try clear hfz65_0 hfz65_1
 try clear hfz66_0 hfz66_1 hfz66_2 hfz66_3 hfz66_4 hfz66_5 hfz66_6
 try clear hfz68_0 hfz68_1 hfz68_2 hfz68_3 hfz68_4 hfz68_5 hfz68_6
 try clear hfz69_0 hfz69_1
 try clear hfz72_0 hfz72_1 hfz72_2 hfz72_3 hfz72_4 hfz72_5 hfz72_6
 try clear hfz76_0 hfz76_1
 try clear hfz77_0 hfz77_1 hfz77_2 hfz77_3 hfz77_4 hfz77_5 hfz77_6
 try clear hfz80_0 hfz80_1 hfz80_2 hfz80_3 hfz80_4 hfz80_5 hfz80_6
 try clear hfz9_0 hfz9_1 hfz9_2
 try clear hx269_0
 try clear hx270_0
 try clear hx271_0 hx271_1 hx271_2 hx271_3 hx271_4 hx271_5 hx271_6
 try clear hx273_0 hx273_1
 try clear p2
 try clear p269
 try clear p270
 try clear p271
 try clear p273
 try clear q2
 try clear q269
 try clear q270
 try clear q271
 try clear q273
 obtain ⟨x8_4, rfl, HA, HK4, BK268, BK272, HB⟩ := hrel
 cases gk with
 | zero => exact absurd HA.out (by simp [boarderref13_Places.l3])
 | succ k4 => ?_
 have H := HA.out
 clear HA
 simp only [boarderref13_Places.l3] at H
 by_cases c81 : x8_4 < (((rd_T57 ((rd_T41 l0_2 x3_1).f0) x4_2).f3).length : Int)
 rotate_left
 · rw [if_neg c81] at H
   have c81b0 : decide (x8_4 < (((rd_T57 ((rd_T41 l0_2 x3_1).f0) x4_2).f3).length : Int)) = false := decide_eq_false c81
   clear c81
   by_cases c98 : ((rd_T57 ((rd_T41 l0_2 x3_1).f0) x4_2).f5) = 0
   · rw [if_pos c98] at H
     have c98b0 : (((rd_T57 ((rd_T41 l0_2 x3_1).f0) x4_2).f5) == 0) = true := beq_iff_eq.mpr c98
     have c98b1 : (((rd_T57 ((rd_T41 l0_2 x3_1).f0) x4_2).f5) != 0) = false := bne_eq_false_iff_eq.mpr c98
     clear c98
     have H' := Aside0.mk H
     clear H
     have hnb99 := NB272_268.out
     have hnc99 := NB268_272.out
     obtain ⟨hcz100_0, hcz100_1, hcz100_2, hcz100_3, hcz100_4, hcz100_5, hcz100_6, hfz100_0, hfz100_1, hfz100_2, hfz100_3, hfz100_4, hfz100_5, hfz100_6⟩ := sqF7 BK272.out
     go_wp2
     go_roundg k4
     case measure => have := HK1.out; have := HK2.out; have := HK3.out; have := HK4.out; omega
     case rel => exact ⟨(wrap64 (x4_2 + 1)), sqI, H', ⟨by have := HK1.out; have := HK2.out; have := HK3.out; have := HK4.out; omega⟩, ⟨sqK BK268.out⟩, ⟨sqB2 HB.out GE268.out GE272.out⟩⟩
   rw [if_neg c98] at H
   have c98b0 : (((rd_T57 ((rd_T41 l0_2 x3_1).f0) x4_2).f5) == 0) = false := beq_eq_false_iff_ne.mpr c98
   have c98b1 : (((rd_T57 ((rd_T41 l0_2 x3_1).f0) x4_2).f5) != 0) = true := bne_iff_ne.mpr c98
   replace H := Option.bind_eq_some_iff.mp H
   obtain ⟨t280, A1010, H⟩ := H
   replace H : (if t280 = true then (boarderref13_Places.l1 k4 x3_1 (wrap64 (x4_2 + 1)) a0_0 a0_1 l0_2) else (some false)) = some r := H
   have A101 := sqM A1010
   clear A1010
   by_cases c102 : t280 = true
   rotate_left
   · replace c102 := Bool.eq_false_iff.mpr c102
     subst c102
     have H1 : (some false) = some r := by rw [if_neg (show ¬ (false = true) by decide)] at H; exact H
     clear H
     have H := H1
     clear H1
     obtain rfl := Option.some.inj H
     have hnb105 := NB272_268.out
     have hnc105 := NB268_272.out
     obtain ⟨hcz106_0, hcz106_1, hcz106_2, hcz106_3, hcz106_4, hcz106_5, hcz106_6, hfz106_0, hfz106_1, hfz106_2, hfz106_3, hfz106_4, hfz106_5, hfz106_6⟩ := sqF7 BK272.out
     go_wp2_with (first | (go_at_call 50; (with_reducible refine (boarderref01_Has.calls _ _ _ _ _ _ A101.out).mono ?_); rintro e w' ⟨rfl, ⟨nd, rfl⟩⟩))
     go_ret
     exact ⟨sqE, sqB2 HB.out GE268.out GE272.out⟩
   subst c102
   have H1 : (boarderref13_Places.l1 k4 x3_1 (wrap64 (x4_2 + 1)) a0_0 a0_1 l0_2) = some r := by rw [if_pos rfl] at H; exact H
   clear H
   have H := H1
   clear H1
   have H' := Aside0.mk H
   clear H
   have hnb103 := NB272_268.out
   have hnc103 := NB268_272.out
   obtain ⟨hcz104_0, hcz104_1, hcz104_2, hcz104_3, hcz104_4, hcz104_5, hcz104_6, hfz104_0, hfz104_1, hfz104_2, hfz104_3, hfz104_4, hfz104_5, hfz104_6⟩ := sqF7 BK272.out
   go_wp2_with (first | (go_at_call 50; (with_reducible refine (boarderref01_Has.calls _ _ _ _ _ _ A101.out).mono ?_); rintro e w' ⟨rfl, ⟨nd, rfl⟩⟩))
   go_roundg k4
   case measure => have := HK1.out; have := HK2.out; have := HK3.out; have := HK4.out; omega
   case rel => exact ⟨(wrap64 (x4_2 + 1)), sqI, H', ⟨by have := HK1.out; have := HK2.out; have := HK3.out; have := HK4.out; omega⟩, ⟨sqK BK268.out⟩, ⟨sqB2 HB.out GE268.out GE272.out⟩⟩
 rw [if_pos c81] at H
 have c81b0 : decide (x8_4 < (((rd_T57 ((rd_T41 l0_2 x3_1).f0) x4_2).f3).length : Int)) = true := decide_eq_true c81
 clear c81
 by_cases c82 : 0 ≤ x8_4
 rotate_left
 · rw [if_neg c82] at H
   exact absurd H (by simp)
 rw [if_pos c82] at H
 have c82b0 : decide (0 ≤ x8_4) = true := decide_eq_true c82
 clear c82
 replace H := Option.bind_eq_some_iff.mp H
 obtain ⟨t278, A830, H⟩ := H
 replace H : (if t278 = true then (if ((rd_T59 ((rd_T57 ((rd_T41 l0_2 x3_1).f0) x4_2).f3) x8_4).f1) = a0_0 then (some false) else (boarderref13_Places.l3 k4 x3_1 x4_2 (wrap64 (x8_4 + 1)) a0_0 a0_1 l0_2 ((rd_T57 ((rd_T41 l0_2 x3_1).f0) x4_2).f0) ((rd_T57 ((rd_T41 l0_2 x3_1).f0) x4_2).f1) ((rd_T57 ((rd_T41 l0_2 x3_1).f0) x4_2).f2) ((rd_T57 ((rd_T41 l0_2 x3_1).f0) x4_2).f3) ((rd_T57 ((rd_T41 l0_2 x3_1).f0) x4_2).f4) ((rd_T57 ((rd_T41 l0_2 x3_1).f0) x4_2).f5) ((rd_T57 ((rd_T41 l0_2 x3_1).f0) x4_2).f6))) else (some false)) = some r := H
 have A83 := Aside0.mk A830
 clear A830
 by_cases c84 : t278 = true
 rotate_left
 · replace c84 := Bool.eq_false_iff.mpr c84
   subst c84
   have H1 : (some false) = some r := by rw [if_neg (show ¬ (false = true) by decide)] at H; exact H
   clear H
   have H := H1
   clear H1
   obtain rfl := Option.some.inj H
   have hnb94 := NB272_268.out
   have hnc94 := NB268_272.out
   obtain ⟨hcz95_0, hcz95_1, hcz95_2, hcz95_3, hcz95_4, hcz95_5, hcz95_6, hfz95_0, hfz95_1, hfz95_2, hfz95_3, hfz95_4, hfz95_5, hfz95_6⟩ := sqF7 BK272.out
   try go_wp2
   replace BK268 := sqM (blk_drew BK268.out)
   replace BK272 := sqM (blk_drew BK272.out)
   replace HB := sqM (below_drew1 HB.out)
   have p277 : 0 ≤ (x8_4 : Int) := of_decide_eq_true sqH
   have q277 : x8_4 < (((rd_T57 ((rd_T41 l0_2 x3_1).f0) x4_2).f3).length : Int) := of_decide_eq_true sqH
   obtain ⟨ad277, e277, hx277_0, hx277_1⟩ := at_T59 HR271_3.out x8_4 p277 q277
   have hw277_1 := hx277_1
   have hw277_0 := hx277_0
   cases e277
   replace hx277_0 := sqx HB.out hx277_0
   replace hx277_1 := sqx HB.out hx277_1
   replace p277 := eq_true p277
   replace q277 := eq_true q277
   refine start_ (n := 20) (S := fun w' => w'.cell? ⟨gb272, 0, none⟩ = some (.int .i64 ((rd_T57 ((rd_T41 l0_2 x3_1).f0) x4_2).f0)) ∧ w'.cell? ⟨gb272, 1, none⟩ = some (.int .i64 ((rd_T57 ((rd_T41 l0_2 x3_1).f0) x4_2).f1)) ∧ w'.cell? ⟨gb272, 2, none⟩ = some (.slice A271_2 ((rd_T57 ((rd_T41 l0_2 x3_1).f0) x4_2).f2).length c271_2) ∧ w'.cell? ⟨gb272, 3, none⟩ = some (.slice (some ad277) ((rd_T57 ((rd_T41 l0_2 x3_1).f0) x4_2).f3).length c271_3) ∧ w'.cell? ⟨gb272, 4, none⟩ = some (.int .i64 ((rd_T57 ((rd_T41 l0_2 x3_1).f0) x4_2).f4)) ∧ w'.cell? ⟨gb272, 5, none⟩ = some (.int .i64 ((rd_T57 ((rd_T41 l0_2 x3_1).f0) x4_2).f5)) ∧ w'.cell? ⟨gb272, 6, none⟩ = some (.int .i64 ((rd_T57 ((rd_T41 l0_2 x3_1).f0) x4_2).f6)) ∧ w'.cell? (ad277.add ((x8_4).toNat * 2)) = some (.string ((rd_T59 ((rd_T57 ((rd_T41 l0_2 x3_1).f0) x4_2).f3) x8_4).f0)) ∧ w'.cell? ⟨(ad277.add ((x8_4).toNat * 2)).block, (ad277.add ((x8_4).toNat * 2)).off + 1, none⟩ = some (.int .i64 ((rd_T59 ((rd_T57 ((rd_T41 l0_2 x3_1).f0) x4_2).f3) x8_4).f1))) (ds := []) #[false, false, false, false, false, false, false, false, false, false, false, false, false, false, false, false, false, false, false, false] (by kernel_rfl) rfl rfl ⟨(blk_cell BK272.out 0).trans rfl, (blk_cell BK272.out 1).trans rfl, (blk_cell BK272.out 2).trans rfl, (blk_cell BK272.out 3).trans rfl, (blk_cell BK272.out 4).trans rfl, (blk_cell BK272.out 5).trans rfl, (blk_cell BK272.out 6).trans rfl, ((HB.out.cell (World.block_lt_of_cell? w _ hw277_0)).trans hw277_0), ((HB.out.cell (World.block_lt_of_cell? w _ hw277_1)).trans hw277_1)⟩ (fun hHeld => ?_); refine with_tabW boarderref13_Places.tab17 boarderref13_Places.bits17 (fun HT_ HW_ => ?_)
   generalize wr.drew = w96 at BK268 BK272 HB hx277_0 hx277_1 hHeld ⊢
   refine pure_ (i := 1) (N := some 82) (v := ?_) (a' := ?_) #[false, true, false, false, false, false, false, false, false, false, false, false, false, false, false, false, false, false, false, false] rfl rfl (any_of HT_.out (by kernel_rfl)) (fun _ _ _ h => h) (Or.inl ⟨by rfl, ?_⟩) ?_ ?_
   rotate_left
   · intro w'
     go_simp
     with_reducible rfl
   rotate_left
   · simp only [Act.put, List.setIfInBounds_toArray, List.set_cons_zero, List.set_cons_succ, i64_w, i32_w]
     rfl
   refine pure_ (i := 3) (N := some 84) (v := ?_) (a' := ?_) #[false, true, false, true, false, false, false, false, false, false, false, false, false, false, false, false, false, false, false, false] rfl rfl (any_of HT_.out (by kernel_rfl)) (fun _ _ _ h => h) (Or.inl ⟨by rfl, ?_⟩) ?_ ?_
   rotate_left
   · intro w'
     go_simp
     with_reducible rfl
   rotate_left
   · simp only [Act.put, List.setIfInBounds_toArray, List.set_cons_zero, List.set_cons_succ, i64_w, i32_w]
     rfl
   refine take_ (i := 0) (N := some 81) (v := ?_) (a' := ?_) #[true, true, false, true, false, false, false, false, false, false, false, false, false, false, false, false, false, false, false, false] rfl rfl (take_ofW HT_.out HW_.out (by kernel_rfl)) (fun _ _ _ h => h) (Or.inl ⟨by rfl, ?_⟩) hHeld ?_ ?_
   rotate_left
   · rintro w' ⟨s0, s1, s2, s3, s4, s5, s6, s7, s8⟩
     go_simp
     with_reducible rfl
   rotate_left
   · simp only [Act.put, List.setIfInBounds_toArray, List.set_cons_zero, List.set_cons_succ, i64_w, i32_w]
     rfl
   refine take_ (i := 2) (N := some 83) (v := ?_) (a' := ?_) #[true, true, true, true, false, false, false, false, false, false, false, false, false, false, false, false, false, false, false, false] rfl rfl (take_ofW HT_.out HW_.out (by kernel_rfl)) (fun _ _ _ h => h) (Or.inl ⟨by rfl, ?_⟩) hHeld ?_ ?_
   rotate_left
   · rintro w' ⟨s0, s1, s2, s3, s4, s5, s6, s7, s8⟩
     go_simp
     with_reducible rfl
   rotate_left
   · simp only [Act.put, List.setIfInBounds_toArray, List.set_cons_zero, List.set_cons_succ, i64_w, i32_w]
     rfl
   refine pure_ (i := 4) (N := some 85) (v := ?_) (a' := ?_) #[true, true, true, true, true, false, false, false, false, false, false, false, false, false, false, false, false, false, false, false] rfl rfl (any_of HT_.out (by kernel_rfl)) (fun _ _ _ h => h) (Or.inl ⟨by rfl, ?_⟩) ?_ ?_
   rotate_left
   · intro w'
     go_simp
     with_reducible rfl
   rotate_left
   · simp only [Act.put, List.setIfInBounds_toArray, List.set_cons_zero, List.set_cons_succ, i64_w, i32_w]
     rfl
   refine pure_ (i := 5) (N := some 86) (v := ?_) (a' := ?_) #[true, true, true, true, true, true, false, false, false, false, false, false, false, false, false, false, false, false, false, false] rfl rfl (any_of HT_.out (by kernel_rfl)) (fun _ _ _ h => h) (Or.inl ⟨by rfl, ?_⟩) ?_ ?_
   rotate_left
   · intro w'
     go_simp
     with_reducible rfl
   rotate_left
   · simp only [Act.put, List.setIfInBounds_toArray, List.set_cons_zero, List.set_cons_succ, i64_w, i32_w]
     rfl
   refine take_ (i := 6) (N := some 87) (v := ?_) (a' := ?_) #[true, true, true, true, true, true, true, false, false, false, false, false, false, false, false, false, false, false, false, false] rfl rfl (take_ofW HT_.out HW_.out (by kernel_rfl)) (fun _ _ _ h => h) (Or.inl ⟨by rfl, ?_⟩) hHeld ?_ ?_
   rotate_left
   · rintro w' ⟨s0, s1, s2, s3, s4, s5, s6, s7, s8⟩
     go_simp
     with_reducible rfl
   rotate_left
   · simp only [Act.put, List.setIfInBounds_toArray, List.set_cons_zero, List.set_cons_succ, i64_w, i32_w]
     rfl
   refine one_ (i := 7) (N := some 88) #[true, true, true, true, true, true, true, true, false, false, false, false, false, false, false, false, false, false, false, false] rfl rfl (one_of HT_.out (by kernel_rfl)) (by decide) (fun K hK => ?_)
   refine goes_ Try.func72 (by kernel_rfl) rfl #[.agg #[.int .i64 ((rd_T57 ((rd_T41 l0_2 x3_1).f0) x4_2).f0), .int .i64 ((rd_T57 ((rd_T41 l0_2 x3_1).f0) x4_2).f1), .slice A271_2 ((rd_T57 ((rd_T41 l0_2 x3_1).f0) x4_2).f2).length c271_2, .slice (some ad277) ((rd_T57 ((rd_T41 l0_2 x3_1).f0) x4_2).f3).length c271_3, .int .i64 ((rd_T57 ((rd_T41 l0_2 x3_1).f0) x4_2).f4), .int .i64 ((rd_T57 ((rd_T41 l0_2 x3_1).f0) x4_2).f5), .int .i64 ((rd_T57 ((rd_T41 l0_2 x3_1).f0) x4_2).f6)], .int .i64 ((rd_T59 ((rd_T57 ((rd_T41 l0_2 x3_1).f0) x4_2).f3) x8_4).f1)] (by rfl) rfl rfl sqA ?_
   with_reducible refine (boarderref13_lends.calls _ _ _ _ _ _ _ _ _ _ _ _ _ _ _ ?side1 ?side2 ?side3 ?side4 A83.out).mono ?_
   (case side1 => repeat (first | exact (Kd.C_below HR271_2.out HB.out) | (with_reducible refine Kd.C_alloc ?_ _) | (with_reducible refine Kd.C_drewN ?_ _) | (with_reducible refine Kd.C_drew ?_)))
   (case side2 => exact HC271_2.out)
   (case side3 => repeat (first | exact (Kd.C_below HR271_3.out HB.out) | (with_reducible refine Kd.C_alloc ?_ _) | (with_reducible refine Kd.C_drewN ?_ _) | (with_reducible refine Kd.C_drew ?_)))
   (case side4 => exact HC271_3.out)
   rintro e w97 ⟨rfl, hb⟩
   refine ⟨_, rfl, ?_⟩
   replace BK268 := sqM (blk_below (sqK BK268.out) hb)
   replace BK272 := sqM (blk_below (sqK BK272.out) hb)
   replace HB := sqM (below_step (sqB2 HB.out GE268.out GE272.out) hb)
   (try clear hb)
   (try clear hb2)
   (try clear hk)
   (try clear hi)
   refine hK.out _ _ ⟨(blk_cell BK272.out 0).trans rfl, (blk_cell BK272.out 1).trans rfl, (blk_cell BK272.out 2).trans rfl, (blk_cell BK272.out 3).trans rfl, (blk_cell BK272.out 4).trans rfl, (blk_cell BK272.out 5).trans rfl, (blk_cell BK272.out 6).trans rfl, ((HB.out.cell (World.block_lt_of_cell? w _ hw277_0)).trans hw277_0), ((HB.out.cell (World.block_lt_of_cell? w _ hw277_1)).trans hw277_1)⟩ (fun hHeld => ?_)
   clear hK K
   refine norm_ (a' := ?_) ?_ ?_
   rotate_left
   · show Act.put _ (some 88) _ = _
     simp only [Act.put, List.setIfInBounds_toArray, List.set_cons_zero, List.set_cons_succ, i64_w, i32_w]
     rfl
   refine pure_ (i := 8) (N := some 89) (v := ?_) (a' := ?_) #[true, true, true, true, true, true, true, true, true, false, false, false, false, false, false, false, false, false, false, false] rfl rfl (any_of HT_.out (by kernel_rfl)) (fun _ _ _ h => h) (Or.inl ⟨by rfl, ?_⟩) ?_ ?_
   rotate_left
   · intro w'
     go_simp
     with_reducible rfl
   rotate_left
   · simp only [Act.put, List.setIfInBounds_toArray, List.set_cons_zero, List.set_cons_succ, i64_w, i32_w]
     rfl
   refine pure_ (i := 9) (N := some 90) (v := ?_) (a' := ?_) #[true, true, true, true, true, true, true, true, true, true, false, false, false, false, false, false, false, false, false, false] rfl rfl (any_of HT_.out (by kernel_rfl)) (fun _ _ _ h => h) (Or.inl ⟨by rfl, ?_⟩) ?_ ?_
   rotate_left
   · intro w'
     go_simp
     with_reducible rfl
   rotate_left
   · simp only [Act.put, List.setIfInBounds_toArray, List.set_cons_zero, List.set_cons_succ, i64_w, i32_w]
     rfl
   refine pure_ (i := 10) (N := some 91) (v := undef) (a' := ?_) #[true, true, true, true, true, true, true, true, true, true, true, false, false, false, false, false, false, false, false, false] rfl rfl (any_of HT_.out (by kernel_rfl)) (fun _ _ _ h => h) (Or.inr ⟨by rfl, rfl⟩) ?_ ?_
   rotate_left
   · simp only [Act.put, List.setIfInBounds_toArray, List.set_cons_zero, List.set_cons_succ, i64_w, i32_w]
     rfl
   refine pure_ (i := 11) (N := some 92) (v := undef) (a' := ?_) #[true, true, true, true, true, true, true, true, true, true, true, true, false, false, false, false, false, false, false, false] rfl rfl (any_of HT_.out (by kernel_rfl)) (fun _ _ _ h => h) (Or.inr ⟨by rfl, rfl⟩) ?_ ?_
   rotate_left
   · simp only [Act.put, List.setIfInBounds_toArray, List.set_cons_zero, List.set_cons_succ, i64_w, i32_w]
     rfl
   refine pure_ (i := 12) (N := some 93) (v := undef) (a' := ?_) #[true, true, true, true, true, true, true, true, true, true, true, true, true, false, false, false, false, false, false, false] rfl rfl (any_of HT_.out (by kernel_rfl)) (fun _ _ _ h => h) (Or.inr ⟨by rfl, rfl⟩) ?_ ?_
   rotate_left
   · simp only [Act.put, List.setIfInBounds_toArray, List.set_cons_zero, List.set_cons_succ, i64_w, i32_w]
     rfl
   refine pure_ (i := 13) (N := some 94) (v := undef) (a' := ?_) #[true, true, true, true, true, true, true, true, true, true, true, true, true, true, false, false, false, false, false, false] rfl rfl (any_of HT_.out (by kernel_rfl)) (fun _ _ _ h => h) (Or.inr ⟨by rfl, rfl⟩) ?_ ?_
   rotate_left
   · simp only [Act.put, List.setIfInBounds_toArray, List.set_cons_zero, List.set_cons_succ, i64_w, i32_w]
     rfl
   refine pure_ (i := 14) (N := some 95) (v := undef) (a' := ?_) #[true, true, true, true, true, true, true, true, true, true, true, true, true, true, true, false, false, false, false, false] rfl rfl (any_of HT_.out (by kernel_rfl)) (fun _ _ _ h => h) (Or.inr ⟨by rfl, rfl⟩) ?_ ?_
   rotate_left
   · simp only [Act.put, List.setIfInBounds_toArray, List.set_cons_zero, List.set_cons_succ, i64_w, i32_w]
     rfl
   refine pure_ (i := 15) (N := some 96) (v := undef) (a' := ?_) #[true, true, true, true, true, true, true, true, true, true, true, true, true, true, true, true, false, false, false, false] rfl rfl (any_of HT_.out (by kernel_rfl)) (fun _ _ _ h => h) (Or.inr ⟨by rfl, rfl⟩) ?_ ?_
   rotate_left
   · simp only [Act.put, List.setIfInBounds_toArray, List.set_cons_zero, List.set_cons_succ, i64_w, i32_w]
     rfl
   refine pure_ (i := 16) (N := some 97) (v := undef) (a' := ?_) #[true, true, true, true, true, true, true, true, true, true, true, true, true, true, true, true, true, false, false, false] rfl rfl (any_of HT_.out (by kernel_rfl)) (fun _ _ _ h => h) (Or.inr ⟨by rfl, rfl⟩) ?_ ?_
   rotate_left
   · simp only [Act.put, List.setIfInBounds_toArray, List.set_cons_zero, List.set_cons_succ, i64_w, i32_w]
     rfl
   refine pure_ (i := 17) (N := some 98) (v := undef) (a' := ?_) #[true, true, true, true, true, true, true, true, true, true, true, true, true, true, true, true, true, true, false, false] rfl rfl (any_of HT_.out (by kernel_rfl)) (fun _ _ _ h => h) (Or.inr ⟨by rfl, rfl⟩) ?_ ?_
   rotate_left
   · simp only [Act.put, List.setIfInBounds_toArray, List.set_cons_zero, List.set_cons_succ, i64_w, i32_w]
     rfl
   refine pure_ (i := 18) (N := some 99) (v := undef) (a' := ?_) #[true, true, true, true, true, true, true, true, true, true, true, true, true, true, true, true, true, true, true, false] rfl rfl (any_of HT_.out (by kernel_rfl)) (fun _ _ _ h => h) (Or.inr ⟨by rfl, rfl⟩) ?_ ?_
   rotate_left
   · simp only [Act.put, List.setIfInBounds_toArray, List.set_cons_zero, List.set_cons_succ, i64_w, i32_w]
     rfl
   refine pure_ (i := 19) (N := some 100) (v := ?_) (a' := ?_) #[true, true, true, true, true, true, true, true, true, true, true, true, true, true, true, true, true, true, true, true] rfl rfl (any_of HT_.out (by kernel_rfl)) (fun _ _ _ h => h) (Or.inl ⟨by rfl, ?_⟩) ?_ ?_
   rotate_left
   · intro w'
     go_simp
     with_reducible rfl
   rotate_left
   · simp only [Act.put, List.setIfInBounds_toArray, List.set_cons_zero, List.set_cons_succ, i64_w, i32_w]
     rfl
   refine done_ (done_of HT_.out (by kernel_rfl)) ?_
   try go_wp2
   go_ret
   exact ⟨sqE, sqB2 HB.out GE268.out GE272.out⟩
 subst c84
 have H1 : (if ((rd_T59 ((rd_T57 ((rd_T41 l0_2 x3_1).f0) x4_2).f3) x8_4).f1) = a0_0 then (some false) else (boarderref13_Places.l3 k4 x3_1 x4_2 (wrap64 (x8_4 + 1)) a0_0 a0_1 l0_2 ((rd_T57 ((rd_T41 l0_2 x3_1).f0) x4_2).f0) ((rd_T57 ((rd_T41 l0_2 x3_1).f0) x4_2).f1) ((rd_T57 ((rd_T41 l0_2 x3_1).f0) x4_2).f2) ((rd_T57 ((rd_T41 l0_2 x3_1).f0) x4_2).f3) ((rd_T57 ((rd_T41 l0_2 x3_1).f0) x4_2).f4) ((rd_T57 ((rd_T41 l0_2 x3_1).f0) x4_2).f5) ((rd_T57 ((rd_T41 l0_2 x3_1).f0) x4_2).f6))) = some r := by rw [if_pos rfl] at H; exact H
 clear H
 have H := H1
 clear H1
 by_cases c85 : ((rd_T59 ((rd_T57 ((rd_T41 l0_2 x3_1).f0) x4_2).f3) x8_4).f1) = a0_0
 · rw [if_pos c85] at H
   have c85b0 : (((rd_T59 ((rd_T57 ((rd_T41 l0_2 x3_1).f0) x4_2).f3) x8_4).f1) == a0_0) = true := beq_iff_eq.mpr c85
   have c85b1 : (((rd_T59 ((rd_T57 ((rd_T41 l0_2 x3_1).f0) x4_2).f3) x8_4).f1) != a0_0) = false := bne_eq_false_iff_eq.mpr c85
   clear c85
   obtain rfl := Option.some.inj H
   have hnb86 := NB272_268.out
   have hnc86 := NB268_272.out
   obtain ⟨hcz87_0, hcz87_1, hcz87_2, hcz87_3, hcz87_4, hcz87_5, hcz87_6, hfz87_0, hfz87_1, hfz87_2, hfz87_3, hfz87_4, hfz87_5, hfz87_6⟩ := sqF7 BK272.out
   try go_wp2
   replace BK268 := sqM (blk_drew BK268.out)
   replace BK272 := sqM (blk_drew BK272.out)
   replace HB := sqM (below_drew1 HB.out)
   have p277 : 0 ≤ (x8_4 : Int) := of_decide_eq_true sqH
   have q277 : x8_4 < (((rd_T57 ((rd_T41 l0_2 x3_1).f0) x4_2).f3).length : Int) := of_decide_eq_true sqH
   obtain ⟨ad277, e277, hx277_0, hx277_1⟩ := at_T59 HR271_3.out x8_4 p277 q277
   have hw277_1 := hx277_1
   have hw277_0 := hx277_0
   cases e277
   replace hx277_0 := sqx HB.out hx277_0
   replace hx277_1 := sqx HB.out hx277_1
   replace p277 := eq_true p277
   replace q277 := eq_true q277
   have p279 : 0 ≤ (x8_4 : Int) := of_decide_eq_true sqH
   have q279 : x8_4 < (((rd_T57 ((rd_T41 l0_2 x3_1).f0) x4_2).f3).length : Int) := of_decide_eq_true sqH
   obtain ⟨ad279, e279, hx279_0, hx279_1⟩ := at_T59 HR271_3.out x8_4 p279 q279
   have hw279_1 := hx279_1
   have hw279_0 := hx279_0
   obtain rfl : ad277 = ad279 := (by injection e279)
   replace hx279_0 := sqx HB.out hx279_0
   replace hx279_1 := sqx HB.out hx279_1
   replace p279 := eq_true p279
   replace q279 := eq_true q279
   refine start_ (n := 20) (S := fun w' => w'.cell? ⟨gb272, 0, none⟩ = some (.int .i64 ((rd_T57 ((rd_T41 l0_2 x3_1).f0) x4_2).f0)) ∧ w'.cell? ⟨gb272, 1, none⟩ = some (.int .i64 ((rd_T57 ((rd_T41 l0_2 x3_1).f0) x4_2).f1)) ∧ w'.cell? ⟨gb272, 2, none⟩ = some (.slice A271_2 ((rd_T57 ((rd_T41 l0_2 x3_1).f0) x4_2).f2).length c271_2) ∧ w'.cell? ⟨gb272, 3, none⟩ = some (.slice (some ad277) ((rd_T57 ((rd_T41 l0_2 x3_1).f0) x4_2).f3).length c271_3) ∧ w'.cell? ⟨gb272, 4, none⟩ = some (.int .i64 ((rd_T57 ((rd_T41 l0_2 x3_1).f0) x4_2).f4)) ∧ w'.cell? ⟨gb272, 5, none⟩ = some (.int .i64 ((rd_T57 ((rd_T41 l0_2 x3_1).f0) x4_2).f5)) ∧ w'.cell? ⟨gb272, 6, none⟩ = some (.int .i64 ((rd_T57 ((rd_T41 l0_2 x3_1).f0) x4_2).f6)) ∧ w'.cell? ⟨gb268, 0, none⟩ = some (.int .i64 a0_0) ∧ w'.cell? ⟨gb268, 1, none⟩ = some (.int .i64 a0_1) ∧ w'.cell? ⟨gb268, 2, none⟩ = some (.slice (some ad269) l0_2.length c0_2) ∧ w'.cell? (ad277.add ((x8_4).toNat * 2)) = some (.string ((rd_T59 ((rd_T57 ((rd_T41 l0_2 x3_1).f0) x4_2).f3) x8_4).f0)) ∧ w'.cell? ⟨(ad277.add ((x8_4).toNat * 2)).block, (ad277.add ((x8_4).toNat * 2)).off + 1, none⟩ = some (.int .i64 ((rd_T59 ((rd_T57 ((rd_T41 l0_2 x3_1).f0) x4_2).f3) x8_4).f1)) ∧ w'.cell? (ad277.add ((x8_4).toNat * 2)) = some (.string ((rd_T59 ((rd_T57 ((rd_T41 l0_2 x3_1).f0) x4_2).f3) x8_4).f0)) ∧ w'.cell? ⟨(ad277.add ((x8_4).toNat * 2)).block, (ad277.add ((x8_4).toNat * 2)).off + 1, none⟩ = some (.int .i64 ((rd_T59 ((rd_T57 ((rd_T41 l0_2 x3_1).f0) x4_2).f3) x8_4).f1))) (ds := []) #[false, false, false, false, false, false, false, false, false, false, false, false, false, false, false, false, false, false, false, false] (by kernel_rfl) rfl rfl ⟨(blk_cell BK272.out 0).trans rfl, (blk_cell BK272.out 1).trans rfl, (blk_cell BK272.out 2).trans rfl, (blk_cell BK272.out 3).trans rfl, (blk_cell BK272.out 4).trans rfl, (blk_cell BK272.out 5).trans rfl, (blk_cell BK272.out 6).trans rfl, (blk_cell BK268.out 0).trans rfl, (blk_cell BK268.out 1).trans rfl, (blk_cell BK268.out 2).trans rfl, ((HB.out.cell (World.block_lt_of_cell? w _ hw277_0)).trans hw277_0), ((HB.out.cell (World.block_lt_of_cell? w _ hw277_1)).trans hw277_1), ((HB.out.cell (World.block_lt_of_cell? w _ hw279_0)).trans hw279_0), ((HB.out.cell (World.block_lt_of_cell? w _ hw279_1)).trans hw279_1)⟩ (fun hHeld => ?_); refine with_tabW boarderref13_Places.tab17 boarderref13_Places.bits17 (fun HT_ HW_ => ?_)
   generalize wr.drew = w88 at BK268 BK272 HB hx277_0 hx277_1 hx279_0 hx279_1 hHeld ⊢
   refine pure_ (i := 1) (N := some 82) (v := ?_) (a' := ?_) #[false, true, false, false, false, false, false, false, false, false, false, false, false, false, false, false, false, false, false, false] rfl rfl (any_of HT_.out (by kernel_rfl)) (fun _ _ _ h => h) (Or.inl ⟨by rfl, ?_⟩) ?_ ?_
   rotate_left
   · intro w'
     go_simp
     with_reducible rfl
   rotate_left
   · simp only [Act.put, List.setIfInBounds_toArray, List.set_cons_zero, List.set_cons_succ, i64_w, i32_w]
     rfl
   refine pure_ (i := 3) (N := some 84) (v := ?_) (a' := ?_) #[false, true, false, true, false, false, false, false, false, false, false, false, false, false, false, false, false, false, false, false] rfl rfl (any_of HT_.out (by kernel_rfl)) (fun _ _ _ h => h) (Or.inl ⟨by rfl, ?_⟩) ?_ ?_
   rotate_left
   · intro w'
     go_simp
     with_reducible rfl
   rotate_left
   · simp only [Act.put, List.setIfInBounds_toArray, List.set_cons_zero, List.set_cons_succ, i64_w, i32_w]
     rfl
   refine take_ (i := 0) (N := some 81) (v := ?_) (a' := ?_) #[true, true, false, true, false, false, false, false, false, false, false, false, false, false, false, false, false, false, false, false] rfl rfl (take_ofW HT_.out HW_.out (by kernel_rfl)) (fun _ _ _ h => h) (Or.inl ⟨by rfl, ?_⟩) hHeld ?_ ?_
   rotate_left
   · rintro w' ⟨s0, s1, s2, s3, s4, s5, s6, s7, s8, s9, s10, s11, s12, s13⟩
     go_simp
     with_reducible rfl
   rotate_left
   · simp only [Act.put, List.setIfInBounds_toArray, List.set_cons_zero, List.set_cons_succ, i64_w, i32_w]
     rfl
   refine take_ (i := 2) (N := some 83) (v := ?_) (a' := ?_) #[true, true, true, true, false, false, false, false, false, false, false, false, false, false, false, false, false, false, false, false] rfl rfl (take_ofW HT_.out HW_.out (by kernel_rfl)) (fun _ _ _ h => h) (Or.inl ⟨by rfl, ?_⟩) hHeld ?_ ?_
   rotate_left
   · rintro w' ⟨s0, s1, s2, s3, s4, s5, s6, s7, s8, s9, s10, s11, s12, s13⟩
     go_simp
     with_reducible rfl
   rotate_left
   · simp only [Act.put, List.setIfInBounds_toArray, List.set_cons_zero, List.set_cons_succ, i64_w, i32_w]
     rfl
   refine pure_ (i := 4) (N := some 85) (v := ?_) (a' := ?_) #[true, true, true, true, true, false, false, false, false, false, false, false, false, false, false, false, false, false, false, false] rfl rfl (any_of HT_.out (by kernel_rfl)) (fun _ _ _ h => h) (Or.inl ⟨by rfl, ?_⟩) ?_ ?_
   rotate_left
   · intro w'
     go_simp
     with_reducible rfl
   rotate_left
   · simp only [Act.put, List.setIfInBounds_toArray, List.set_cons_zero, List.set_cons_succ, i64_w, i32_w]
     rfl
   refine pure_ (i := 5) (N := some 86) (v := ?_) (a' := ?_) #[true, true, true, true, true, true, false, false, false, false, false, false, false, false, false, false, false, false, false, false] rfl rfl (any_of HT_.out (by kernel_rfl)) (fun _ _ _ h => h) (Or.inl ⟨by rfl, ?_⟩) ?_ ?_
   rotate_left
   · intro w'
     go_simp
     with_reducible rfl
   rotate_left
   · simp only [Act.put, List.setIfInBounds_toArray, List.set_cons_zero, List.set_cons_succ, i64_w, i32_w]
     rfl
   refine take_ (i := 6) (N := some 87) (v := ?_) (a' := ?_) #[true, true, true, true, true, true, true, false, false, false, false, false, false, false, false, false, false, false, false, false] rfl rfl (take_ofW HT_.out HW_.out (by kernel_rfl)) (fun _ _ _ h => h) (Or.inl ⟨by rfl, ?_⟩) hHeld ?_ ?_
   rotate_left
   · rintro w' ⟨s0, s1, s2, s3, s4, s5, s6, s7, s8, s9, s10, s11, s12, s13⟩
     go_simp
     with_reducible rfl
   rotate_left
   · simp only [Act.put, List.setIfInBounds_toArray, List.set_cons_zero, List.set_cons_succ, i64_w, i32_w]
     rfl
   refine one_ (i := 7) (N := some 88) #[true, true, true, true, true, true, true, true, false, false, false, false, false, false, false, false, false, false, false, false] rfl rfl (one_of HT_.out (by kernel_rfl)) (by decide) (fun K hK => ?_)
   refine goes_ Try.func72 (by kernel_rfl) rfl #[.agg #[.int .i64 ((rd_T57 ((rd_T41 l0_2 x3_1).f0) x4_2).f0), .int .i64 ((rd_T57 ((rd_T41 l0_2 x3_1).f0) x4_2).f1), .slice A271_2 ((rd_T57 ((rd_T41 l0_2 x3_1).f0) x4_2).f2).length c271_2, .slice (some ad277) ((rd_T57 ((rd_T41 l0_2 x3_1).f0) x4_2).f3).length c271_3, .int .i64 ((rd_T57 ((rd_T41 l0_2 x3_1).f0) x4_2).f4), .int .i64 ((rd_T57 ((rd_T41 l0_2 x3_1).f0) x4_2).f5), .int .i64 ((rd_T57 ((rd_T41 l0_2 x3_1).f0) x4_2).f6)], .int .i64 ((rd_T59 ((rd_T57 ((rd_T41 l0_2 x3_1).f0) x4_2).f3) x8_4).f1)] (by rfl) rfl rfl sqA ?_
   with_reducible refine (boarderref13_lends.calls _ _ _ _ _ _ _ _ _ _ _ _ _ _ _ ?side1 ?side2 ?side3 ?side4 A83.out).mono ?_
   (case side1 => repeat (first | exact (Kd.C_below HR271_2.out HB.out) | (with_reducible refine Kd.C_alloc ?_ _) | (with_reducible refine Kd.C_drewN ?_ _) | (with_reducible refine Kd.C_drew ?_)))
   (case side2 => exact HC271_2.out)
   (case side3 => repeat (first | exact (Kd.C_below HR271_3.out HB.out) | (with_reducible refine Kd.C_alloc ?_ _) | (with_reducible refine Kd.C_drewN ?_ _) | (with_reducible refine Kd.C_drew ?_)))
   (case side4 => exact HC271_3.out)
   rintro e w89 ⟨rfl, hb⟩
   refine ⟨_, rfl, ?_⟩
   replace BK268 := sqM (blk_below (sqK BK268.out) hb)
   replace BK272 := sqM (blk_below (sqK BK272.out) hb)
   replace HB := sqM (below_step (sqB2 HB.out GE268.out GE272.out) hb)
   (try clear hb)
   (try clear hb2)
   (try clear hk)
   (try clear hi)
   refine hK.out _ _ ⟨(blk_cell BK272.out 0).trans rfl, (blk_cell BK272.out 1).trans rfl, (blk_cell BK272.out 2).trans rfl, (blk_cell BK272.out 3).trans rfl, (blk_cell BK272.out 4).trans rfl, (blk_cell BK272.out 5).trans rfl, (blk_cell BK272.out 6).trans rfl, (blk_cell BK268.out 0).trans rfl, (blk_cell BK268.out 1).trans rfl, (blk_cell BK268.out 2).trans rfl, ((HB.out.cell (World.block_lt_of_cell? w _ hw277_0)).trans hw277_0), ((HB.out.cell (World.block_lt_of_cell? w _ hw277_1)).trans hw277_1), ((HB.out.cell (World.block_lt_of_cell? w _ hw279_0)).trans hw279_0), ((HB.out.cell (World.block_lt_of_cell? w _ hw279_1)).trans hw279_1)⟩ (fun hHeld => ?_)
   clear hK K
   refine norm_ (a' := ?_) ?_ ?_
   rotate_left
   · show Act.put _ (some 88) _ = _
     simp only [Act.put, List.setIfInBounds_toArray, List.set_cons_zero, List.set_cons_succ, i64_w, i32_w]
     rfl
   refine pure_ (i := 8) (N := some 89) (v := ?_) (a' := ?_) #[true, true, true, true, true, true, true, true, true, false, false, false, false, false, false, false, false, false, false, false] rfl rfl (any_of HT_.out (by kernel_rfl)) (fun _ _ _ h => h) (Or.inl ⟨by rfl, ?_⟩) ?_ ?_
   rotate_left
   · intro w'
     go_simp
     with_reducible rfl
   rotate_left
   · simp only [Act.put, List.setIfInBounds_toArray, List.set_cons_zero, List.set_cons_succ, i64_w, i32_w]
     rfl
   refine pure_ (i := 9) (N := some 90) (v := ?_) (a' := ?_) #[true, true, true, true, true, true, true, true, true, true, false, false, false, false, false, false, false, false, false, false] rfl rfl (any_of HT_.out (by kernel_rfl)) (fun _ _ _ h => h) (Or.inl ⟨by rfl, ?_⟩) ?_ ?_
   rotate_left
   · intro w'
     go_simp
     with_reducible rfl
   rotate_left
   · simp only [Act.put, List.setIfInBounds_toArray, List.set_cons_zero, List.set_cons_succ, i64_w, i32_w]
     rfl
   refine pure_ (i := 10) (N := some 91) (v := ?_) (a' := ?_) #[true, true, true, true, true, true, true, true, true, true, true, false, false, false, false, false, false, false, false, false] rfl rfl (any_of HT_.out (by kernel_rfl)) (fun _ _ _ h => h) (Or.inl ⟨by rfl, ?_⟩) ?_ ?_
   rotate_left
   · intro w'
     go_simp
     with_reducible rfl
   rotate_left
   · simp only [Act.put, List.setIfInBounds_toArray, List.set_cons_zero, List.set_cons_succ, i64_w, i32_w]
     rfl
   refine pure_ (i := 12) (N := some 93) (v := ?_) (a' := ?_) #[true, true, true, true, true, true, true, true, true, true, true, false, true, false, false, false, false, false, false, false] rfl rfl (any_of HT_.out (by kernel_rfl)) (fun _ _ _ h => h) (Or.inl ⟨by rfl, ?_⟩) ?_ ?_
   rotate_left
   · intro w'
     go_simp
     with_reducible rfl
   rotate_left
   · simp only [Act.put, List.setIfInBounds_toArray, List.set_cons_zero, List.set_cons_succ, i64_w, i32_w]
     rfl
   refine pure_ (i := 16) (N := some 97) (v := ?_) (a' := ?_) #[true, true, true, true, true, true, true, true, true, true, true, false, true, false, false, false, true, false, false, false] rfl rfl (any_of HT_.out (by kernel_rfl)) (fun _ _ _ h => h) (Or.inl ⟨by rfl, ?_⟩) ?_ ?_
   rotate_left
   · intro w'
     go_simp
     with_reducible rfl
   rotate_left
   · simp only [Act.put, List.setIfInBounds_toArray, List.set_cons_zero, List.set_cons_succ, i64_w, i32_w]
     rfl
   refine take_ (i := 11) (N := some 92) (v := ?_) (a' := ?_) #[true, true, true, true, true, true, true, true, true, true, true, true, true, false, false, false, true, false, false, false] rfl rfl (take_ofW HT_.out HW_.out (by kernel_rfl)) (fun _ _ _ h => h) (Or.inl ⟨by rfl, ?_⟩) hHeld ?_ ?_
   rotate_left
   · rintro w' ⟨s0, s1, s2, s3, s4, s5, s6, s7, s8, s9, s10, s11, s12, s13⟩
     go_simp
     with_reducible rfl
   rotate_left
   · simp only [Act.put, List.setIfInBounds_toArray, List.set_cons_zero, List.set_cons_succ, i64_w, i32_w]
     rfl
   refine pure_ (i := 13) (N := some 94) (v := ?_) (a' := ?_) #[true, true, true, true, true, true, true, true, true, true, true, true, true, true, false, false, true, false, false, false] rfl rfl (any_of HT_.out (by kernel_rfl)) (fun _ _ _ h => h) (Or.inl ⟨by rfl, ?_⟩) ?_ ?_
   rotate_left
   · intro w'
     go_simp
     with_reducible rfl
   rotate_left
   · simp only [Act.put, List.setIfInBounds_toArray, List.set_cons_zero, List.set_cons_succ, i64_w, i32_w]
     rfl
   refine pure_ (i := 14) (N := some 95) (v := ?_) (a' := ?_) #[true, true, true, true, true, true, true, true, true, true, true, true, true, true, true, false, true, false, false, false] rfl rfl (any_of HT_.out (by kernel_rfl)) (fun _ _ _ h => h) (Or.inl ⟨by rfl, ?_⟩) ?_ ?_
   rotate_left
   · intro w'
     go_simp
     with_reducible rfl
   rotate_left
   · simp only [Act.put, List.setIfInBounds_toArray, List.set_cons_zero, List.set_cons_succ, i64_w, i32_w]
     rfl
   refine take_ (i := 15) (N := some 96) (v := ?_) (a' := ?_) #[true, true, true, true, true, true, true, true, true, true, true, true, true, true, true, true, true, false, false, false] rfl rfl (take_ofW HT_.out HW_.out (by kernel_rfl)) (fun _ _ _ h => h) (Or.inl ⟨by rfl, ?_⟩) hHeld ?_ ?_
   rotate_left
   · rintro w' ⟨s0, s1, s2, s3, s4, s5, s6, s7, s8, s9, s10, s11, s12, s13⟩
     go_simp
     with_reducible rfl
   rotate_left
   · simp only [Act.put, List.setIfInBounds_toArray, List.set_cons_zero, List.set_cons_succ, i64_w, i32_w]
     rfl
   refine take_ (i := 17) (N := some 98) (v := ?_) (a' := ?_) #[true, true, true, true, true, true, true, true, true, true, true, true, true, true, true, true, true, true, false, false] rfl rfl (take_ofW HT_.out HW_.out (by kernel_rfl)) (fun _ _ _ h => h) (Or.inl ⟨by rfl, ?_⟩) hHeld ?_ ?_
   rotate_left
   · rintro w' ⟨s0, s1, s2, s3, s4, s5, s6, s7, s8, s9, s10, s11, s12, s13⟩
     go_simp
     with_reducible rfl
   rotate_left
   · simp only [Act.put, List.setIfInBounds_toArray, List.set_cons_zero, List.set_cons_succ, i64_w, i32_w]
     rfl
   refine pure_ (i := 18) (N := some 99) (v := ?_) (a' := ?_) #[true, true, true, true, true, true, true, true, true, true, true, true, true, true, true, true, true, true, true, false] rfl rfl (any_of HT_.out (by kernel_rfl)) (fun _ _ _ h => h) (Or.inl ⟨by rfl, ?_⟩) ?_ ?_
   rotate_left
   · intro w'
     go_simp
     with_reducible rfl
   rotate_left
   · simp only [Act.put, List.setIfInBounds_toArray, List.set_cons_zero, List.set_cons_succ, i64_w, i32_w]
     rfl
   refine pure_ (i := 19) (N := some 100) (v := ?_) (a' := ?_) #[true, true, true, true, true, true, true, true, true, true, true, true, true, true, true, true, true, true, true, true] rfl rfl (any_of HT_.out (by kernel_rfl)) (fun _ _ _ h => h) (Or.inl ⟨by rfl, ?_⟩) ?_ ?_
   rotate_left
   · intro w'
     go_simp
     with_reducible rfl
   rotate_left
   · simp only [Act.put, List.setIfInBounds_toArray, List.set_cons_zero, List.set_cons_succ, i64_w, i32_w]
     rfl
   refine done_ (done_of HT_.out (by kernel_rfl)) ?_
   try go_wp2
   go_ret
   exact ⟨sqE, sqB2 HB.out GE268.out GE272.out⟩
 rw [if_neg c85] at H
 have c85b0 : (((rd_T59 ((rd_T57 ((rd_T41 l0_2 x3_1).f0) x4_2).f3) x8_4).f1) == a0_0) = false := beq_eq_false_iff_ne.mpr c85
 have c85b1 : (((rd_T59 ((rd_T57 ((rd_T41 l0_2 x3_1).f0) x4_2).f3) x8_4).f1) != a0_0) = true := bne_iff_ne.mpr c85
 have H' := Aside0.mk H
 clear H
 have hnb90 := NB272_268.out
 have hnc90 := NB268_272.out
 obtain ⟨hcz91_0, hcz91_1, hcz91_2, hcz91_3, hcz91_4, hcz91_5, hcz91_6, hfz91_0, hfz91_1, hfz91_2, hfz91_3, hfz91_4, hfz91_5, hfz91_6⟩ := sqF7 BK272.out
 try go_wp2
 replace BK268 := sqM (blk_drew BK268.out)
 replace BK272 := sqM (blk_drew BK272.out)
 replace HB := sqM (below_drew1 HB.out)
 have p277 : 0 ≤ (x8_4 : Int) := of_decide_eq_true sqH
 have q277 : x8_4 < (((rd_T57 ((rd_T41 l0_2 x3_1).f0) x4_2).f3).length : Int) := of_decide_eq_true sqH
 obtain ⟨ad277, e277, hx277_0, hx277_1⟩ := at_T59 HR271_3.out x8_4 p277 q277
 have hw277_1 := hx277_1
 have hw277_0 := hx277_0
 cases e277
 replace hx277_0 := sqx HB.out hx277_0
 replace hx277_1 := sqx HB.out hx277_1
 replace p277 := eq_true p277
 replace q277 := eq_true q277
 have p279 : 0 ≤ (x8_4 : Int) := of_decide_eq_true sqH
 have q279 : x8_4 < (((rd_T57 ((rd_T41 l0_2 x3_1).f0) x4_2).f3).length : Int) := of_decide_eq_true sqH
 obtain ⟨ad279, e279, hx279_0, hx279_1⟩ := at_T59 HR271_3.out x8_4 p279 q279
 have hw279_1 := hx279_1
 have hw279_0 := hx279_0
 obtain rfl : ad277 = ad279 := (by injection e279)
 replace hx279_0 := sqx HB.out hx279_0
 replace hx279_1 := sqx HB.out hx279_1
 replace p279 := eq_true p279
 replace q279 := eq_true q279
 refine start_ (n := 20) (S := fun w' => w'.cell? ⟨gb272, 0, none⟩ = some (.int .i64 ((rd_T57 ((rd_T41 l0_2 x3_1).f0) x4_2).f0)) ∧ w'.cell? ⟨gb272, 1, none⟩ = some (.int .i64 ((rd_T57 ((rd_T41 l0_2 x3_1).f0) x4_2).f1)) ∧ w'.cell? ⟨gb272, 2, none⟩ = some (.slice A271_2 ((rd_T57 ((rd_T41 l0_2 x3_1).f0) x4_2).f2).length c271_2) ∧ w'.cell? ⟨gb272, 3, none⟩ = some (.slice (some ad277) ((rd_T57 ((rd_T41 l0_2 x3_1).f0) x4_2).f3).length c271_3) ∧ w'.cell? ⟨gb272, 4, none⟩ = some (.int .i64 ((rd_T57 ((rd_T41 l0_2 x3_1).f0) x4_2).f4)) ∧ w'.cell? ⟨gb272, 5, none⟩ = some (.int .i64 ((rd_T57 ((rd_T41 l0_2 x3_1).f0) x4_2).f5)) ∧ w'.cell? ⟨gb272, 6, none⟩ = some (.int .i64 ((rd_T57 ((rd_T41 l0_2 x3_1).f0) x4_2).f6)) ∧ w'.cell? ⟨gb268, 0, none⟩ = some (.int .i64 a0_0) ∧ w'.cell? ⟨gb268, 1, none⟩ = some (.int .i64 a0_1) ∧ w'.cell? ⟨gb268, 2, none⟩ = some (.slice (some ad269) l0_2.length c0_2) ∧ w'.cell? (ad277.add ((x8_4).toNat * 2)) = some (.string ((rd_T59 ((rd_T57 ((rd_T41 l0_2 x3_1).f0) x4_2).f3) x8_4).f0)) ∧ w'.cell? ⟨(ad277.add ((x8_4).toNat * 2)).block, (ad277.add ((x8_4).toNat * 2)).off + 1, none⟩ = some (.int .i64 ((rd_T59 ((rd_T57 ((rd_T41 l0_2 x3_1).f0) x4_2).f3) x8_4).f1)) ∧ w'.cell? (ad277.add ((x8_4).toNat * 2)) = some (.string ((rd_T59 ((rd_T57 ((rd_T41 l0_2 x3_1).f0) x4_2).f3) x8_4).f0)) ∧ w'.cell? ⟨(ad277.add ((x8_4).toNat * 2)).block, (ad277.add ((x8_4).toNat * 2)).off + 1, none⟩ = some (.int .i64 ((rd_T59 ((rd_T57 ((rd_T41 l0_2 x3_1).f0) x4_2).f3) x8_4).f1))) (ds := []) #[false, false, false, false, false, false, false, false, false, false, false, false, false, false, false, false, false, false, false, false] (by kernel_rfl) rfl rfl ⟨(blk_cell BK272.out 0).trans rfl, (blk_cell BK272.out 1).trans rfl, (blk_cell BK272.out 2).trans rfl, (blk_cell BK272.out 3).trans rfl, (blk_cell BK272.out 4).trans rfl, (blk_cell BK272.out 5).trans rfl, (blk_cell BK272.out 6).trans rfl, (blk_cell BK268.out 0).trans rfl, (blk_cell BK268.out 1).trans rfl, (blk_cell BK268.out 2).trans rfl, ((HB.out.cell (World.block_lt_of_cell? w _ hw277_0)).trans hw277_0), ((HB.out.cell (World.block_lt_of_cell? w _ hw277_1)).trans hw277_1), ((HB.out.cell (World.block_lt_of_cell? w _ hw279_0)).trans hw279_0), ((HB.out.cell (World.block_lt_of_cell? w _ hw279_1)).trans hw279_1)⟩ (fun hHeld => ?_); refine with_tabW boarderref13_Places.tab17 boarderref13_Places.bits17 (fun HT_ HW_ => ?_)
 generalize wr.drew = w92 at BK268 BK272 HB hx277_0 hx277_1 hx279_0 hx279_1 hHeld ⊢
 refine pure_ (i := 1) (N := some 82) (v := ?_) (a' := ?_) #[false, true, false, false, false, false, false, false, false, false, false, false, false, false, false, false, false, false, false, false] rfl rfl (any_of HT_.out (by kernel_rfl)) (fun _ _ _ h => h) (Or.inl ⟨by rfl, ?_⟩) ?_ ?_
 rotate_left
 · intro w'
   go_simp
   with_reducible rfl
 rotate_left
 · simp only [Act.put, List.setIfInBounds_toArray, List.set_cons_zero, List.set_cons_succ, i64_w, i32_w]
   rfl
 refine pure_ (i := 3) (N := some 84) (v := ?_) (a' := ?_) #[false, true, false, true, false, false, false, false, false, false, false, false, false, false, false, false, false, false, false, false] rfl rfl (any_of HT_.out (by kernel_rfl)) (fun _ _ _ h => h) (Or.inl ⟨by rfl, ?_⟩) ?_ ?_
 rotate_left
 · intro w'
   go_simp
   with_reducible rfl
 rotate_left
 · simp only [Act.put, List.setIfInBounds_toArray, List.set_cons_zero, List.set_cons_succ, i64_w, i32_w]
   rfl
 refine take_ (i := 0) (N := some 81) (v := ?_) (a' := ?_) #[true, true, false, true, false, false, false, false, false, false, false, false, false, false, false, false, false, false, false, false] rfl rfl (take_ofW HT_.out HW_.out (by kernel_rfl)) (fun _ _ _ h => h) (Or.inl ⟨by rfl, ?_⟩) hHeld ?_ ?_
 rotate_left
 · rintro w' ⟨s0, s1, s2, s3, s4, s5, s6, s7, s8, s9, s10, s11, s12, s13⟩
   go_simp
   with_reducible rfl
 rotate_left
 · simp only [Act.put, List.setIfInBounds_toArray, List.set_cons_zero, List.set_cons_succ, i64_w, i32_w]
   rfl
 refine take_ (i := 2) (N := some 83) (v := ?_) (a' := ?_) #[true, true, true, true, false, false, false, false, false, false, false, false, false, false, false, false, false, false, false, false] rfl rfl (take_ofW HT_.out HW_.out (by kernel_rfl)) (fun _ _ _ h => h) (Or.inl ⟨by rfl, ?_⟩) hHeld ?_ ?_
 rotate_left
 · rintro w' ⟨s0, s1, s2, s3, s4, s5, s6, s7, s8, s9, s10, s11, s12, s13⟩
   go_simp
   with_reducible rfl
 rotate_left
 · simp only [Act.put, List.setIfInBounds_toArray, List.set_cons_zero, List.set_cons_succ, i64_w, i32_w]
   rfl
 refine pure_ (i := 4) (N := some 85) (v := ?_) (a' := ?_) #[true, true, true, true, true, false, false, false, false, false, false, false, false, false, false, false, false, false, false, false] rfl rfl (any_of HT_.out (by kernel_rfl)) (fun _ _ _ h => h) (Or.inl ⟨by rfl, ?_⟩) ?_ ?_
 rotate_left
 · intro w'
   go_simp
   with_reducible rfl
 rotate_left
 · simp only [Act.put, List.setIfInBounds_toArray, List.set_cons_zero, List.set_cons_succ, i64_w, i32_w]
   rfl
 refine pure_ (i := 5) (N := some 86) (v := ?_) (a' := ?_) #[true, true, true, true, true, true, false, false, false, false, false, false, false, false, false, false, false, false, false, false] rfl rfl (any_of HT_.out (by kernel_rfl)) (fun _ _ _ h => h) (Or.inl ⟨by rfl, ?_⟩) ?_ ?_
 rotate_left
 · intro w'
   go_simp
   with_reducible rfl
 rotate_left
 · simp only [Act.put, List.setIfInBounds_toArray, List.set_cons_zero, List.set_cons_succ, i64_w, i32_w]
   rfl
 refine take_ (i := 6) (N := some 87) (v := ?_) (a' := ?_) #[true, true, true, true, true, true, true, false, false, false, false, false, false, false, false, false, false, false, false, false] rfl rfl (take_ofW HT_.out HW_.out (by kernel_rfl)) (fun _ _ _ h => h) (Or.inl ⟨by rfl, ?_⟩) hHeld ?_ ?_
 rotate_left
 · rintro w' ⟨s0, s1, s2, s3, s4, s5, s6, s7, s8, s9, s10, s11, s12, s13⟩
   go_simp
   with_reducible rfl
 rotate_left
 · simp only [Act.put, List.setIfInBounds_toArray, List.set_cons_zero, List.set_cons_succ, i64_w, i32_w]
   rfl
 refine one_ (i := 7) (N := some 88) #[true, true, true, true, true, true, true, true, false, false, false, false, false, false, false, false, false, false, false, false] rfl rfl (one_of HT_.out (by kernel_rfl)) (by decide) (fun K hK => ?_)
 refine goes_ Try.func72 (by kernel_rfl) rfl #[.agg #[.int .i64 ((rd_T57 ((rd_T41 l0_2 x3_1).f0) x4_2).f0), .int .i64 ((rd_T57 ((rd_T41 l0_2 x3_1).f0) x4_2).f1), .slice A271_2 ((rd_T57 ((rd_T41 l0_2 x3_1).f0) x4_2).f2).length c271_2, .slice (some ad277) ((rd_T57 ((rd_T41 l0_2 x3_1).f0) x4_2).f3).length c271_3, .int .i64 ((rd_T57 ((rd_T41 l0_2 x3_1).f0) x4_2).f4), .int .i64 ((rd_T57 ((rd_T41 l0_2 x3_1).f0) x4_2).f5), .int .i64 ((rd_T57 ((rd_T41 l0_2 x3_1).f0) x4_2).f6)], .int .i64 ((rd_T59 ((rd_T57 ((rd_T41 l0_2 x3_1).f0) x4_2).f3) x8_4).f1)] (by rfl) rfl rfl sqA ?_
 with_reducible refine (boarderref13_lends.calls _ _ _ _ _ _ _ _ _ _ _ _ _ _ _ ?side1 ?side2 ?side3 ?side4 A83.out).mono ?_
 (case side1 => repeat (first | exact (Kd.C_below HR271_2.out HB.out) | (with_reducible refine Kd.C_alloc ?_ _) | (with_reducible refine Kd.C_drewN ?_ _) | (with_reducible refine Kd.C_drew ?_)))
 (case side2 => exact HC271_2.out)
 (case side3 => repeat (first | exact (Kd.C_below HR271_3.out HB.out) | (with_reducible refine Kd.C_alloc ?_ _) | (with_reducible refine Kd.C_drewN ?_ _) | (with_reducible refine Kd.C_drew ?_)))
 (case side4 => exact HC271_3.out)
 rintro e w93 ⟨rfl, hb⟩
 refine ⟨_, rfl, ?_⟩
 replace BK268 := sqM (blk_below (sqK BK268.out) hb)
 replace BK272 := sqM (blk_below (sqK BK272.out) hb)
 replace HB := sqM (below_step (sqB2 HB.out GE268.out GE272.out) hb)
 (try clear hb)
 (try clear hb2)
 (try clear hk)
 (try clear hi)
 refine hK.out _ _ ⟨(blk_cell BK272.out 0).trans rfl, (blk_cell BK272.out 1).trans rfl, (blk_cell BK272.out 2).trans rfl, (blk_cell BK272.out 3).trans rfl, (blk_cell BK272.out 4).trans rfl, (blk_cell BK272.out 5).trans rfl, (blk_cell BK272.out 6).trans rfl, (blk_cell BK268.out 0).trans rfl, (blk_cell BK268.out 1).trans rfl, (blk_cell BK268.out 2).trans rfl, ((HB.out.cell (World.block_lt_of_cell? w _ hw277_0)).trans hw277_0), ((HB.out.cell (World.block_lt_of_cell? w _ hw277_1)).trans hw277_1), ((HB.out.cell (World.block_lt_of_cell? w _ hw279_0)).trans hw279_0), ((HB.out.cell (World.block_lt_of_cell? w _ hw279_1)).trans hw279_1)⟩ (fun hHeld => ?_)
 clear hK K
 refine norm_ (a' := ?_) ?_ ?_
 rotate_left
 · show Act.put _ (some 88) _ = _
   simp only [Act.put, List.setIfInBounds_toArray, List.set_cons_zero, List.set_cons_succ, i64_w, i32_w]
   rfl
 refine pure_ (i := 8) (N := some 89) (v := ?_) (a' := ?_) #[true, true, true, true, true, true, true, true, true, false, false, false, false, false, false, false, false, false, false, false] rfl rfl (any_of HT_.out (by kernel_rfl)) (fun _ _ _ h => h) (Or.inl ⟨by rfl, ?_⟩) ?_ ?_
 rotate_left
 · intro w'
   go_simp
   with_reducible rfl
 rotate_left
 · simp only [Act.put, List.setIfInBounds_toArray, List.set_cons_zero, List.set_cons_succ, i64_w, i32_w]
   rfl
 refine pure_ (i := 9) (N := some 90) (v := ?_) (a' := ?_) #[true, true, true, true, true, true, true, true, true, true, false, false, false, false, false, false, false, false, false, false] rfl rfl (any_of HT_.out (by kernel_rfl)) (fun _ _ _ h => h) (Or.inl ⟨by rfl, ?_⟩) ?_ ?_
 rotate_left
 · intro w'
   go_simp
   with_reducible rfl
 rotate_left
 · simp only [Act.put, List.setIfInBounds_toArray, List.set_cons_zero, List.set_cons_succ, i64_w, i32_w]
   rfl
 refine pure_ (i := 10) (N := some 91) (v := ?_) (a' := ?_) #[true, true, true, true, true, true, true, true, true, true, true, false, false, false, false, false, false, false, false, false] rfl rfl (any_of HT_.out (by kernel_rfl)) (fun _ _ _ h => h) (Or.inl ⟨by rfl, ?_⟩) ?_ ?_
 rotate_left
 · intro w'
   go_simp
   with_reducible rfl
 rotate_left
 · simp only [Act.put, List.setIfInBounds_toArray, List.set_cons_zero, List.set_cons_succ, i64_w, i32_w]
   rfl
 refine pure_ (i := 12) (N := some 93) (v := ?_) (a' := ?_) #[true, true, true, true, true, true, true, true, true, true, true, false, true, false, false, false, false, false, false, false] rfl rfl (any_of HT_.out (by kernel_rfl)) (fun _ _ _ h => h) (Or.inl ⟨by rfl, ?_⟩) ?_ ?_
 rotate_left
 · intro w'
   go_simp
   with_reducible rfl
 rotate_left
 · simp only [Act.put, List.setIfInBounds_toArray, List.set_cons_zero, List.set_cons_succ, i64_w, i32_w]
   rfl
 refine pure_ (i := 16) (N := some 97) (v := ?_) (a' := ?_) #[true, true, true, true, true, true, true, true, true, true, true, false, true, false, false, false, true, false, false, false] rfl rfl (any_of HT_.out (by kernel_rfl)) (fun _ _ _ h => h) (Or.inl ⟨by rfl, ?_⟩) ?_ ?_
 rotate_left
 · intro w'
   go_simp
   with_reducible rfl
 rotate_left
 · simp only [Act.put, List.setIfInBounds_toArray, List.set_cons_zero, List.set_cons_succ, i64_w, i32_w]
   rfl
 refine take_ (i := 11) (N := some 92) (v := ?_) (a' := ?_) #[true, true, true, true, true, true, true, true, true, true, true, true, true, false, false, false, true, false, false, false] rfl rfl (take_ofW HT_.out HW_.out (by kernel_rfl)) (fun _ _ _ h => h) (Or.inl ⟨by rfl, ?_⟩) hHeld ?_ ?_
 rotate_left
 · rintro w' ⟨s0, s1, s2, s3, s4, s5, s6, s7, s8, s9, s10, s11, s12, s13⟩
   go_simp
   with_reducible rfl
 rotate_left
 · simp only [Act.put, List.setIfInBounds_toArray, List.set_cons_zero, List.set_cons_succ, i64_w, i32_w]
   rfl
 refine pure_ (i := 13) (N := some 94) (v := ?_) (a' := ?_) #[true, true, true, true, true, true, true, true, true, true, true, true, true, true, false, false, true, false, false, false] rfl rfl (any_of HT_.out (by kernel_rfl)) (fun _ _ _ h => h) (Or.inl ⟨by rfl, ?_⟩) ?_ ?_
 rotate_left
 · intro w'
   go_simp
   with_reducible rfl
 rotate_left
 · simp only [Act.put, List.setIfInBounds_toArray, List.set_cons_zero, List.set_cons_succ, i64_w, i32_w]
   rfl
 refine pure_ (i := 14) (N := some 95) (v := ?_) (a' := ?_) #[true, true, true, true, true, true, true, true, true, true, true, true, true, true, true, false, true, false, false, false] rfl rfl (any_of HT_.out (by kernel_rfl)) (fun _ _ _ h => h) (Or.inl ⟨by rfl, ?_⟩) ?_ ?_
 rotate_left
 · intro w'
   go_simp
   with_reducible rfl
 rotate_left
 · simp only [Act.put, List.setIfInBounds_toArray, List.set_cons_zero, List.set_cons_succ, i64_w, i32_w]
   rfl
 refine take_ (i := 15) (N := some 96) (v := ?_) (a' := ?_) #[true, true, true, true, true, true, true, true, true, true, true, true, true, true, true, true, true, false, false, false] rfl rfl (take_ofW HT_.out HW_.out (by kernel_rfl)) (fun _ _ _ h => h) (Or.inl ⟨by rfl, ?_⟩) hHeld ?_ ?_
 rotate_left
 · rintro w' ⟨s0, s1, s2, s3, s4, s5, s6, s7, s8, s9, s10, s11, s12, s13⟩
   go_simp
   with_reducible rfl
 rotate_left
 · simp only [Act.put, List.setIfInBounds_toArray, List.set_cons_zero, List.set_cons_succ, i64_w, i32_w]
   rfl
 refine take_ (i := 17) (N := some 98) (v := ?_) (a' := ?_) #[true, true, true, true, true, true, true, true, true, true, true, true, true, true, true, true, true, true, false, false] rfl rfl (take_ofW HT_.out HW_.out (by kernel_rfl)) (fun _ _ _ h => h) (Or.inl ⟨by rfl, ?_⟩) hHeld ?_ ?_
 rotate_left
 · rintro w' ⟨s0, s1, s2, s3, s4, s5, s6, s7, s8, s9, s10, s11, s12, s13⟩
   go_simp
   with_reducible rfl
 rotate_left
 · simp only [Act.put, List.setIfInBounds_toArray, List.set_cons_zero, List.set_cons_succ, i64_w, i32_w]
   rfl
 refine pure_ (i := 18) (N := some 99) (v := ?_) (a' := ?_) #[true, true, true, true, true, true, true, true, true, true, true, true, true, true, true, true, true, true, true, false] rfl rfl (any_of HT_.out (by kernel_rfl)) (fun _ _ _ h => h) (Or.inl ⟨by rfl, ?_⟩) ?_ ?_
 rotate_left
 · intro w'
   go_simp
   with_reducible rfl
 rotate_left
 · simp only [Act.put, List.setIfInBounds_toArray, List.set_cons_zero, List.set_cons_succ, i64_w, i32_w]
   rfl
 refine pure_ (i := 19) (N := some 100) (v := ?_) (a' := ?_) #[true, true, true, true, true, true, true, true, true, true, true, true, true, true, true, true, true, true, true, true] rfl rfl (any_of HT_.out (by kernel_rfl)) (fun _ _ _ h => h) (Or.inl ⟨by rfl, ?_⟩) ?_ ?_
 rotate_left
 · intro w'
   go_simp
   with_reducible rfl
 rotate_left
 · simp only [Act.put, List.setIfInBounds_toArray, List.set_cons_zero, List.set_cons_succ, i64_w, i32_w]
   rfl
 refine done_ (done_of HT_.out (by kernel_rfl)) ?_
 try go_wp2
 go_roundg k4
 case measure => have := HK1.out; have := HK2.out; have := HK3.out; have := HK4.out; omega
 case rel => exact ⟨(wrap64 (x8_4 + 1)), sqI, H', ⟨by have := HK1.out; have := HK2.out; have := HK3.out; have := HK4.out; omega⟩, ⟨sqK BK268.out⟩, ⟨sqK BK272.out⟩, ⟨sqB2 HB.out GE268.out GE272.out⟩⟩

end Go.Proofs.Ytdcabfonjmeajaa.PConf
