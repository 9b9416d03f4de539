/- Lean functions for Go functions of the given program, and proofs that the code computes them, each under its theorem's own conditions. Written by a program of this session. -/
import Derived.Test.YtkjmfnijagdhpaaDoorPKeyx0
namespace Go.Proofs.YtkjmfnijagdhpaaDoor.PKey
open Go.RowKit Go.Proofs.YtkjmfnijagdhpaaDoorW.PrintWords Go.Proofs.YtkjmfnijagdhpaaDoorW.PrintLast Go.Proofs.YtkjmfnijagdhpaaDoorW.PrintMore
attribute [local go_sem] max2_int min2_int max_two min_two max_three min_three max_four min_four   -- for this text's walks alone
set_option linter.unusedVariables false
set_option linter.unusedSimpArgs false

/-! ### boarderref03_Find: function 20 -/
def boarderref03_Find.l0 : Nat → List (S52) → Int → Int → Option (List Int × Bool)
  | 0, _, _, _ => none
  | k + 1, x0, x1, x6 => if x6 < (x0.length : Int) then (if 0 ≤ x6 then (if ((rd_T52 x0 x6).f0) = x1 then (some ((rd_T52 x0 x6).f1, true)) else (boarderref03_Find.l0 k x0 x1 (wrap64 (x6 + 1)))) else (none)) else (some (([] : List Int), false))
def boarderref03_Find.f (k : Nat) (l0 : List (S52)) (a1 : Int) : Option (List Int × Bool) := boarderref03_Find.l0 k l0 a1 0
theorem boarderref03_Find.mono_l : ∀ k, (∀ y0 y1 y2, LeO (boarderref03_Find.l0 k y0 y1 y2) (boarderref03_Find.l0 (k + 1) y0 y1 y2))
  | 0 => fun _ _ _ r h => by simp [boarderref03_Find.l0] at h
  | k + 1 => by
    have ih0 := boarderref03_Find.mono_l k
    · intro y0 y1 y2
      unfold boarderref03_Find.l0
      repeat' first
      | (with_reducible exact ih0 _ _ _)
      | (with_reducible exact LeO.refl _)
      | (with_reducible exact LeO.none _)
      | (with_reducible refine LeO.ite ?_ ?_)
      | (with_reducible refine LeO.bind ?_ (fun _ => ?_))
theorem boarderref03_Find.mono : ∀ a0 a1 k, LeO (boarderref03_Find.f k a0 a1) (boarderref03_Find.f (k + 1) a0 a1) := by
 intro a0 a1 k
 have ih0 := boarderref03_Find.mono_l k
 unfold boarderref03_Find.f
 repeat' first
  | (with_reducible exact ih0 _ _ _)
  | (with_reducible exact LeO.refl _)
  | (with_reducible exact LeO.none _)
  | (with_reducible refine LeO.ite ?_ ?_)
  | (with_reducible refine LeO.bind ?_ (fun _ => ?_))
set_option maxHeartbeats 8000000 in
set_option maxRecDepth 100000 in
theorem boarderref03_Find.calls (k : Nat) (P0_ : Nat → Prop) (A0 : Option Addr) (c0 : Nat) (l0 : List (S52)) (a1 : Int) (r1 : List Int) (r2 : Bool) (w : World) (hs0 : Kd.V k52 52 w w.heap.size (fun k_ => P0_ k_) (.slice A0 l0.length c0) l0) (h : boarderref03_Find.f k l0 a1 = some (r1, r2)) :
    Calls Tryd.prog 20 #[.slice A0 l0.length c0, .int .i64 a1] w fun e w' => ∃ v0_ : Value, e = .returned (.tuple #[v0_, .bool r2]) ∧ Kd.V (Kd.int .u8) 5 w' w.heap.size (fun k_ => (P0_ k_ ∨ w.heap.size ≤ k_)) v0_ r1 ∧ Below w.heap.size w w' := by
 have HO0 := sqM (show Kd.V k52 52 w w.heap.size (fun k_ => (P0_ k_ ∨ w.heap.size ≤ k_)) (.slice A0 l0.length c0) l0 from Kd.V_mono hs0 (fun k_ hk => .inl hk))
 have HB := Aside0.mk (Below.refl w.heap.size w)
 have H : (boarderref03_Find.l0 k l0 a1 0) = some (r1, r2) := h
 clear h
 have H' := Aside0.mk H
 clear H
 go_enter Tryd.func20, Tryd.ntmps20
 go_wp2
 go_loopg [6] k (fun kq v6 w' => ∃ (x6_1 : Int), v6 = .int .i64 x6_1 ∧ Aside0 (boarderref03_Find.l0 kq l0 a1 x6_1 = some (r1, r2)) ∧ Aside0 (kq ≤ k) ∧ Aside0 (Kd.V k52 52 w' w.heap.size (fun k_ => (P0_ k_ ∨ w.heap.size ≤ k_)) (.slice A0 l0.length c0) l0) ∧ Aside0 (Below w.heap.size w w'))
 case atStart => exact ⟨(0), sqI, H', ⟨Nat.le_refl _⟩, ⟨sqV HO0.out⟩, ⟨sqB HB.out⟩⟩
 clear H'
 try clear c2
 try clear p2
 obtain ⟨x6_1, rfl, HA, HK1, HO_0, HB⟩ := hrel
 cases gk with
 | zero => exact absurd HA.out (by simp [boarderref03_Find.l0])
 | succ k1 => ?_
 have H := HA.out
 clear HA
 simp only [boarderref03_Find.l0] at H
 by_cases c3 : x6_1 < (l0.length : Int)
 rotate_left
 · rw [if_neg c3] at H
   have c3b0 : decide (x6_1 < (l0.length : Int)) = false := decide_eq_false c3
   clear c3
   simp only [Option.some.injEq, Prod.mk.injEq] at H
   obtain ⟨rfl, rfl⟩ := H
   go_wp2
   go_ret2
   exact ⟨_, sqE, (Kd.V_nil _ _ _ _ _), sqB HB.out⟩
 rw [if_pos c3] at H
 have c3b0 : decide (x6_1 < (l0.length : Int)) = true := decide_eq_true c3
 clear c3
 by_cases c4 : 0 ≤ x6_1
 rotate_left
 · rw [if_neg c4] at H
   exact absurd H (by simp)
 rw [if_pos c4] at H
 have c4b0 : decide (0 ≤ x6_1) = true := decide_eq_true c4
 clear c4
 by_cases c5 : ((rd_T52 l0 x6_1).f0) = a1
 rotate_left
 · rw [if_neg c5] at H
   have c5b0 : (((rd_T52 l0 x6_1).f0) == a1) = false := beq_eq_false_iff_ne.mpr c5
   have c5b1 : (((rd_T52 l0 x6_1).f0) != a1) = true := bne_iff_ne.mpr c5
   have H' := Aside0.mk H
   clear H
   have p196 : 0 ≤ (x6_1 : Int) := of_decide_eq_true sqH
   have q196 : x6_1 < (l0.length : Int) := of_decide_eq_true sqH
   obtain ⟨ad196, A196_1, c196_1, e196, hx196_0, hx196_1, hl196_1, hi196_1⟩ := at_T52 (Kd.V_reads' HO_0.out).2.2 x6_1 p196 q196
   cases e196
   obtain ⟨ce196, hce196, hMe196, hcc196⟩ := Kd.V_get HO_0.out z52 x6_1 p196 (by first | exact q196 | exact of_decide_eq_true sqH | (have e_ := (Kd.V_reads' HO_0.out).1; omega))
   obtain ⟨ua196_1, uc196_1, rfl, ul196_1, ge196_1⟩ := k52_openF hMe196
   have hv196_1 := hcc196 1 _ rfl
   rw [add_field _ _ 1 (by omega)] at hv196_1
   replace hv196_1 := Option.some.inj (hv196_1.symm.trans hx196_1)
   injection hv196_1 with hva_ hvn_ hvc_
   rw [hva_] at ge196_1
   rw [hvc_] at ul196_1
   have HL196_1 := sqM (show Kd.V (Kd.int .u8) 5 _ w.heap.size _ _ ((rd_T52 l0 x6_1).f1) from Kd.V_mk ul196_1 ge196_1)
   clear hva_ hvn_ hvc_ ge196_1 ul196_1
   clear hcc196 hce196
   have HR196_1 := Aside0.mk hi196_1
   have HC196_1 := Aside0.mk hl196_1
   clear hi196_1 hl196_1
   replace p196 := eq_true p196
   replace q196 := eq_true q196
   go_wp2
   go_roundg k1
   case measure => have := HK1.out; omega
   case rel => exact ⟨(wrap64 (x6_1 + 1)), sqI, H', ⟨by have := HK1.out; omega⟩, ⟨sqV HO_0.out⟩, ⟨sqB HB.out⟩⟩
 rw [if_pos c5] at H
 have c5b0 : (((rd_T52 l0 x6_1).f0) == a1) = true := beq_iff_eq.mpr c5
 have c5b1 : (((rd_T52 l0 x6_1).f0) != a1) = false := bne_eq_false_iff_eq.mpr c5
 clear c5
 simp only [Option.some.injEq, Prod.mk.injEq] at H
 obtain ⟨rfl, rfl⟩ := H
 have p196 : 0 ≤ (x6_1 : Int) := of_decide_eq_true sqH
 have q196 : x6_1 < (l0.length : Int) := of_decide_eq_true sqH
 obtain ⟨ad196, A196_1, c196_1, e196, hx196_0, hx196_1, hl196_1, hi196_1⟩ := at_T52 (Kd.V_reads' HO_0.out).2.2 x6_1 p196 q196
 cases e196
 obtain ⟨ce196, hce196, hMe196, hcc196⟩ := Kd.V_get HO_0.out z52 x6_1 p196 (by first | exact q196 | exact of_decide_eq_true sqH | (have e_ := (Kd.V_reads' HO_0.out).1; omega))
 obtain ⟨ua196_1, uc196_1, rfl, ul196_1, ge196_1⟩ := k52_openF hMe196
 have hv196_1 := hcc196 1 _ rfl
 rw [add_field _ _ 1 (by omega)] at hv196_1
 replace hv196_1 := Option.some.inj (hv196_1.symm.trans hx196_1)
 injection hv196_1 with hva_ hvn_ hvc_
 rw [hva_] at ge196_1
 rw [hvc_] at ul196_1
 have HL196_1 := sqM (show Kd.V (Kd.int .u8) 5 _ w.heap.size _ _ ((rd_T52 l0 x6_1).f1) from Kd.V_mk ul196_1 ge196_1)
 clear hva_ hvn_ hvc_ ge196_1 ul196_1
 clear hcc196 hce196
 have HR196_1 := Aside0.mk hi196_1
 have HC196_1 := Aside0.mk hl196_1
 clear hi196_1 hl196_1
 replace p196 := eq_true p196
 replace q196 := eq_true q196
 have p197 : 0 ≤ (x6_1 : Int) := of_decide_eq_true sqH
 have q197 : x6_1 < (l0.length : Int) := of_decide_eq_true sqH
 obtain ⟨ad197, A197_1, c197_1, e197, hx197_0, hx197_1, hl197_1, hi197_1⟩ := at_T52 (Kd.V_reads' HO_0.out).2.2 x6_1 p197 q197
 obtain rfl : ad196 = ad197 := (by injection e197)
 obtain ⟨ce197, hce197, hMe197, hcc197⟩ := Kd.V_get HO_0.out z52 x6_1 p197 (by first | exact q197 | exact of_decide_eq_true sqH | (have e_ := (Kd.V_reads' HO_0.out).1; omega))
 obtain ⟨ua197_1, uc197_1, rfl, ul197_1, ge197_1⟩ := k52_openF hMe197
 have hv197_1 := hcc197 1 _ rfl
 rw [add_field _ _ 1 (by omega)] at hv197_1
 replace hv197_1 := Option.some.inj (hv197_1.symm.trans hx197_1)
 injection hv197_1 with hva_ hvn_ hvc_
 rw [hva_] at ge197_1
 rw [hvc_] at ul197_1
 have HL197_1 := sqM (show Kd.V (Kd.int .u8) 5 _ w.heap.size _ _ ((rd_T52 l0 x6_1).f1) from Kd.V_mk ul197_1 ge197_1)
 clear hva_ hvn_ hvc_ ge197_1 ul197_1
 clear hcc197 hce197
 have HR197_1 := Aside0.mk hi197_1
 have HC197_1 := Aside0.mk hl197_1
 clear hi197_1 hl197_1
 replace p197 := eq_true p197
 replace q197 := eq_true q197
 have ea_ := Option.some.inj (hx196_1.symm.trans hx197_1)
 injection ea_ with ea_ en_ ec_
 subst ea_
 subst ec_
 clear en_
 go_wp2
 go_ret2
 exact ⟨_, sqE, by refine sqV ?_; exact HL197_1.out, sqB HB.out⟩

/-! ### boarderlaw04_As: function 12 -/
def boarderlaw04_As.f (a0_0 : Int) (a0_1 : Int) (a0_2 : Int) (a0_3 : Int) (a0_4 : Int) (a0_5 : Int) (a0_6 : Int) (a0_7 : Int) (a0_8 : Int) (a0_9 : Int) (a0_10 : Int) (l0_11 : List Int) (l0_12 : List (S52)) : Option Unit := some ()
set_option maxHeartbeats 8000000 in
set_option maxRecDepth 100000 in
theorem boarderlaw04_As.calls (a0_0 : Int) (a0_1 : Int) (a0_2 : Int) (a0_3 : Int) (a0_4 : Int) (a0_5 : Int) (a0_6 : Int) (a0_7 : Int) (a0_8 : Int) (a0_9 : Int) (a0_10 : Int) (A0_11 : Option Addr) (c0_11 : Nat) (l0_11 : List Int) (A0_12 : Option Addr) (c0_12 : Nat) (l0_12 : List (S52)) (r : Unit) (w : World) (hr0_11 : Kd.C (Kd.int .u8) w A0_11 l0_11.length l0_11) (hc0_11 : l0_11.length ≤ c0_11) (hr0_12 : Kd.C k52 w A0_12 l0_12.length l0_12) (hc0_12 : l0_12.length ≤ c0_12) (h : boarderlaw04_As.f a0_0 a0_1 a0_2 a0_3 a0_4 a0_5 a0_6 a0_7 a0_8 a0_9 a0_10 l0_11 l0_12 = some r) :
    Calls Tryd.prog 12 #[.agg #[.int .i64 a0_0, .int .i64 a0_1, .int .i64 a0_2, .int .i64 a0_3, .int .i64 a0_4, .int .i64 a0_5, .int .i64 a0_6, .int .i64 a0_7, .int .i64 a0_8, .int .i64 a0_9, .int .i64 a0_10, .slice A0_11 l0_11.length c0_11, .slice A0_12 l0_12.length c0_12]] w fun e w' => e = .returned (.agg #[.int .i64 a0_0, .int .i64 a0_1, .int .i64 a0_2, .int .i64 a0_3, .int .i64 a0_4, .int .i64 a0_5, .int .i64 a0_6, .int .i64 a0_7, .int .i64 a0_8, .int .i64 a0_9, .int .i64 a0_10, .slice A0_11 l0_11.length c0_11, .slice A0_12 l0_12.length c0_12]) ∧ Below w.heap.size w w' := by
 have hu25 := Tryd.underlying25
 have hu33 := Tryd.underlying33
 have HB := Aside0.mk (Below.refl w.heap.size w)
 clear hr0_11 hc0_11 hr0_12 hc0_12 h
 go_enter Tryd.func12, Tryd.ntmps12
 go_wp2_with (first | ((with_reducible refine gate_dst (N := 1) rfl ?_); refine box_event rfl (N := 1) rfl (cs := #[.int .i64 a0_0, .int .i64 a0_1, .int .i64 a0_2, .int .i64 a0_3, .int .i64 a0_4, .int .i64 a0_5, .int .i64 a0_6, .int .i64 a0_7, .int .i64 a0_8, .int .i64 a0_9, .int .i64 a0_10, .slice A0_11 l0_11.length c0_11, .slice A0_12 l0_12.length c0_12]) (t := 25) sqs ?_; intro gb211 hg w3 hbox hb; have BK211 := sqM (hbox); have GW211 := sqM (show w.heap.size ≤ gb211 from by rw [hg]; exact (below_size (sqB HB.out))); have GE211 := GW211; replace HB := sqM (below_step (sqB HB.out) hb); clear hb hbox hg) | ((with_reducible refine gate_dst (N := 2) rfl ?_); refine box_event rfl (N := 2) rfl (cs := #[.int .i64 0, .int .i64 0, .int .i64 0, .int .i64 0, .int .i64 0, .int .i64 0, .int .i64 0, .int .i64 0, .int .i64 0, .int .i64 0, .int .i64 0, .slice none 0 0, .slice none 0 0]) (t := 33) sqs ?_; intro gb212 hg w4 hbox hb; have BK212 := sqM (hbox); have GW212 := sqM (show w.heap.size ≤ gb212 from by rw [hg]; exact (below_size (sqB1 HB.out GW211.out))); have GE212 := GW212; have NB211_212 := sqM (sqL hg (sqK BK211.out)); have NB212_211 := sqM (sqG hg (sqK BK211.out)); replace BK211 := sqM (blk_below (sqK BK211.out) hb); replace HB := sqM (below_step (sqB1 HB.out GE211.out) hb); clear hb hbox hg; have hnb5 := NB211_212.out; have hnc5 := NB212_211.out; have hcz6_0 : w4.cell? ⟨gb211, 0, none⟩ = some (.int .i64 a0_0) := (blk_cell BK211.out 0).trans rfl; have hcz6_1 : w4.cell? ⟨gb211, 1, none⟩ = some (.int .i64 a0_1) := (blk_cell BK211.out 1).trans rfl; have hcz6_2 : w4.cell? ⟨gb211, 2, none⟩ = some (.int .i64 a0_2) := (blk_cell BK211.out 2).trans rfl; have hcz6_3 : w4.cell? ⟨gb211, 3, none⟩ = some (.int .i64 a0_3) := (blk_cell BK211.out 3).trans rfl; have hcz6_4 : w4.cell? ⟨gb211, 4, none⟩ = some (.int .i64 a0_4) := (blk_cell BK211.out 4).trans rfl; have hcz6_5 : w4.cell? ⟨gb211, 5, none⟩ = some (.int .i64 a0_5) := (blk_cell BK211.out 5).trans rfl; have hcz6_6 : w4.cell? ⟨gb211, 6, none⟩ = some (.int .i64 a0_6) := (blk_cell BK211.out 6).trans rfl; have hcz6_7 : w4.cell? ⟨gb211, 7, none⟩ = some (.int .i64 a0_7) := (blk_cell BK211.out 7).trans rfl; have hcz6_8 : w4.cell? ⟨gb211, 8, none⟩ = some (.int .i64 a0_8) := (blk_cell BK211.out 8).trans rfl; have hcz6_9 : w4.cell? ⟨gb211, 9, none⟩ = some (.int .i64 a0_9) := (blk_cell BK211.out 9).trans rfl; have hcz6_10 : w4.cell? ⟨gb211, 10, none⟩ = some (.int .i64 a0_10) := (blk_cell BK211.out 10).trans rfl; have hcz6_11 : w4.cell? ⟨gb211, 11, none⟩ = some (.slice A0_11 l0_11.length c0_11) := (blk_cell BK211.out 11).trans rfl; have hcz6_12 : w4.cell? ⟨gb211, 12, none⟩ = some (.slice A0_12 l0_12.length c0_12) := (blk_cell BK211.out 12).trans rfl; have hfz6_0 := blk_frozen BK211.out 0; have hfz6_1 := blk_frozen BK211.out 1; have hfz6_2 := blk_frozen BK211.out 2; have hfz6_3 := blk_frozen BK211.out 3; have hfz6_4 := blk_frozen BK211.out 4; have hfz6_5 := blk_frozen BK211.out 5; have hfz6_6 := blk_frozen BK211.out 6; have hfz6_7 := blk_frozen BK211.out 7; have hfz6_8 := blk_frozen BK211.out 8; have hfz6_9 := blk_frozen BK211.out 9; have hfz6_10 := blk_frozen BK211.out 10; have hfz6_11 := blk_frozen BK211.out 11; have hfz6_12 := blk_frozen BK211.out 12; have hcz7_0 : w4.cell? ⟨gb212, 0, none⟩ = some (.int .i64 0) := (blk_cell BK212.out 0).trans rfl; have hcz7_1 : w4.cell? ⟨gb212, 1, none⟩ = some (.int .i64 0) := (blk_cell BK212.out 1).trans rfl; have hcz7_2 : w4.cell? ⟨gb212, 2, none⟩ = some (.int .i64 0) := (blk_cell BK212.out 2).trans rfl; have hcz7_3 : w4.cell? ⟨gb212, 3, none⟩ = some (.int .i64 0) := (blk_cell BK212.out 3).trans rfl; have hcz7_4 : w4.cell? ⟨gb212, 4, none⟩ = some (.int .i64 0) := (blk_cell BK212.out 4).trans rfl; have hcz7_5 : w4.cell? ⟨gb212, 5, none⟩ = some (.int .i64 0) := (blk_cell BK212.out 5).trans rfl; have hcz7_6 : w4.cell? ⟨gb212, 6, none⟩ = some (.int .i64 0) := (blk_cell BK212.out 6).trans rfl; have hcz7_7 : w4.cell? ⟨gb212, 7, none⟩ = some (.int .i64 0) := (blk_cell BK212.out 7).trans rfl; have hcz7_8 : w4.cell? ⟨gb212, 8, none⟩ = some (.int .i64 0) := (blk_cell BK212.out 8).trans rfl; have hcz7_9 : w4.cell? ⟨gb212, 9, none⟩ = some (.int .i64 0) := (blk_cell BK212.out 9).trans rfl; have hcz7_10 : w4.cell? ⟨gb212, 10, none⟩ = some (.int .i64 0) := (blk_cell BK212.out 10).trans rfl; have hcz7_11 : w4.cell? ⟨gb212, 11, none⟩ = some (.slice none 0 0) := (blk_cell BK212.out 11).trans rfl; have hcz7_12 : w4.cell? ⟨gb212, 12, none⟩ = some (.slice none 0 0) := (blk_cell BK212.out 12).trans rfl; have hfz7_0 := blk_frozen BK212.out 0; have hfz7_1 := blk_frozen BK212.out 1; have hfz7_2 := blk_frozen BK212.out 2; have hfz7_3 := blk_frozen BK212.out 3; have hfz7_4 := blk_frozen BK212.out 4; have hfz7_5 := blk_frozen BK212.out 5; have hfz7_6 := blk_frozen BK212.out 6; have hfz7_7 := blk_frozen BK212.out 7; have hfz7_8 := blk_frozen BK212.out 8; have hfz7_9 := blk_frozen BK212.out 9; have hfz7_10 := blk_frozen BK212.out 10; have hfz7_11 := blk_frozen BK212.out 11; have hfz7_12 := blk_frozen BK212.out 12))
 refine bodyPost_ret (results_cell_row rfl _ _ gb212 33 #[.int .i64 a0_0, .int .i64 a0_1, .int .i64 a0_2, .int .i64 a0_3, .int .i64 a0_4, .int .i64 a0_5, .int .i64 a0_6, .int .i64 a0_7, .int .i64 a0_8, .int .i64 a0_9, .int .i64 a0_10, .slice A0_11 l0_11.length c0_11, .slice A0_12 l0_12.length c0_12] (0, 0) _ rfl (by refine sqK ?_; refine blk_put (cs := #[.int .i64 a0_0, .int .i64 a0_1, .int .i64 a0_2, .int .i64 a0_3, .int .i64 a0_4, .int .i64 a0_5, .int .i64 a0_6, .int .i64 a0_7, .int .i64 a0_8, .int .i64 a0_9, .int .i64 a0_10, .slice A0_11 l0_11.length c0_11, .slice none 0 0]) ?_ 12 _ rfl; refine sqK ?_; refine blk_put (cs := #[.int .i64 a0_0, .int .i64 a0_1, .int .i64 a0_2, .int .i64 a0_3, .int .i64 a0_4, .int .i64 a0_5, .int .i64 a0_6, .int .i64 a0_7, .int .i64 a0_8, .int .i64 a0_9, .int .i64 a0_10, .slice none 0 0, .slice none 0 0]) ?_ 11 _ rfl; refine sqK ?_; refine blk_put (cs := #[.int .i64 a0_0, .int .i64 a0_1, .int .i64 a0_2, .int .i64 a0_3, .int .i64 a0_4, .int .i64 a0_5, .int .i64 a0_6, .int .i64 a0_7, .int .i64 a0_8, .int .i64 a0_9, .int .i64 0, .slice none 0 0, .slice none 0 0]) ?_ 10 _ rfl; refine sqK ?_; refine blk_put (cs := #[.int .i64 a0_0, .int .i64 a0_1, .int .i64 a0_2, .int .i64 a0_3, .int .i64 a0_4, .int .i64 a0_5, .int .i64 a0_6, .int .i64 a0_7, .int .i64 a0_8, .int .i64 0, .int .i64 0, .slice none 0 0, .slice none 0 0]) ?_ 9 _ rfl; refine sqK ?_; refine blk_put (cs := #[.int .i64 a0_0, .int .i64 a0_1, .int .i64 a0_2, .int .i64 a0_3, .int .i64 a0_4, .int .i64 a0_5, .int .i64 a0_6, .int .i64 a0_7, .int .i64 0, .int .i64 0, .int .i64 0, .slice none 0 0, .slice none 0 0]) ?_ 8 _ rfl; refine sqK ?_; refine blk_put (cs := #[.int .i64 a0_0, .int .i64 a0_1, .int .i64 a0_2, .int .i64 a0_3, .int .i64 a0_4, .int .i64 a0_5, .int .i64 a0_6, .int .i64 0, .int .i64 0, .int .i64 0, .int .i64 0, .slice none 0 0, .slice none 0 0]) ?_ 7 _ rfl; refine sqK ?_; refine blk_put (cs := #[.int .i64 a0_0, .int .i64 a0_1, .int .i64 a0_2, .int .i64 a0_3, .int .i64 a0_4, .int .i64 a0_5, .int .i64 0, .int .i64 0, .int .i64 0, .int .i64 0, .int .i64 0, .slice none 0 0, .slice none 0 0]) ?_ 6 _ rfl; refine sqK ?_; refine blk_put (cs := #[.int .i64 a0_0, .int .i64 a0_1, .int .i64 a0_2, .int .i64 a0_3, .int .i64 a0_4, .int .i64 0, .int .i64 0, .int .i64 0, .int .i64 0, .int .i64 0, .int .i64 0, .slice none 0 0, .slice none 0 0]) ?_ 5 _ rfl; refine sqK ?_; refine blk_put (cs := #[.int .i64 a0_0, .int .i64 a0_1, .int .i64 a0_2, .int .i64 a0_3, .int .i64 0, .int .i64 0, .int .i64 0, .int .i64 0, .int .i64 0, .int .i64 0, .int .i64 0, .slice none 0 0, .slice none 0 0]) ?_ 4 _ rfl; refine sqK ?_; refine blk_put (cs := #[.int .i64 a0_0, .int .i64 a0_1, .int .i64 a0_2, .int .i64 0, .int .i64 0, .int .i64 0, .int .i64 0, .int .i64 0, .int .i64 0, .int .i64 0, .int .i64 0, .slice none 0 0, .slice none 0 0]) ?_ 3 _ rfl; refine sqK ?_; refine blk_put (cs := #[.int .i64 a0_0, .int .i64 a0_1, .int .i64 0, .int .i64 0, .int .i64 0, .int .i64 0, .int .i64 0, .int .i64 0, .int .i64 0, .int .i64 0, .int .i64 0, .slice none 0 0, .slice none 0 0]) ?_ 2 _ rfl; refine sqK ?_; refine blk_put (cs := #[.int .i64 a0_0, .int .i64 0, .int .i64 0, .int .i64 0, .int .i64 0, .int .i64 0, .int .i64 0, .int .i64 0, .int .i64 0, .int .i64 0, .int .i64 0, .slice none 0 0, .slice none 0 0]) ?_ 1 _ rfl; refine sqK ?_; refine blk_put (cs := #[.int .i64 0, .int .i64 0, .int .i64 0, .int .i64 0, .int .i64 0, .int .i64 0, .int .i64 0, .int .i64 0, .int .i64 0, .int .i64 0, .int .i64 0, .slice none 0 0, .slice none 0 0]) ?_ 0 _ rfl; refine sqK ?_; exact BK212.out) Tryd.underlying33 rfl (by kernel_rfl)) rfl ?_
 exact ⟨sqE, sqB2 HB.out GE211.out GE212.out⟩

end Go.Proofs.YtkjmfnijagdhpaaDoor.PKey
