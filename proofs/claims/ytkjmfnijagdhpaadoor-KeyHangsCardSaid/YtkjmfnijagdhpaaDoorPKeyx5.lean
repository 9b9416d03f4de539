/- Lean functions for Go functions of the given program, and proofs that the code computes them, each under its theorem's own conditions. Written by a program of this session. -/
import Derived.Test.YtkjmfnijagdhpaaDoorPKeyx0
import Derived.Test.YtkjmfnijagdhpaaDoorPKeyx4
namespace Go.Proofs.YtkjmfnijagdhpaaDoor.PKey
open Go.RowKit Go.Proofs.YtkjmfnijagdhpaaDoorW.PrintWords Go.Proofs.YtkjmfnijagdhpaaDoorW.PrintLast Go.Proofs.YtkjmfnijagdhpaaDoorW.PrintMore
attribute [local go_sem] max2_int min2_int max_two min_two max_three min_three max_four min_four   -- for this text's walks alone
set_option linter.unusedVariables false
set_option linter.unusedSimpArgs false

/-! ### boarderref04_Right: function 19 -/
mutual
def boarderref04_Right.j0 : Nat → Bool → Int → Int → Int → Int → Int → Int → Int → Int → Int → Int → Int → List Int → List (S52) → Option (Bool)
  | 0, _, _, _, _, _, _, _, _, _, _, _, _, _, _ => none
  | k + 1, x40, x189000, x189001, x189002, x189003, x189004, x189005, x189006, x189007, x189008, x189009, x189010, x189011, x189012 => if x40 = true then (some false) else ((boarderref01_Right.f x189004).bind fun t189 => (if t189 = true then (if x189005 < 0 then (boarderref04_Right.j1 k true x189000 x189001 x189002 x189003 x189004 x189005 x189006 x189007 x189008 x189009 x189010 x189011 x189012) else (if x189005 > 65535 then (boarderref04_Right.j1 k true x189000 x189001 x189002 x189003 x189004 x189005 x189006 x189007 x189008 x189009 x189010 x189011 x189012) else (if x189006 < 0 then (boarderref04_Right.j1 k true x189000 x189001 x189002 x189003 x189004 x189005 x189006 x189007 x189008 x189009 x189010 x189011 x189012) else (boarderref04_Right.j1 k (decide (x189006 > 65535)) x189000 x189001 x189002 x189003 x189004 x189005 x189006 x189007 x189008 x189009 x189010 x189011 x189012)))) else (boarderref04_Right.j1 k true x189000 x189001 x189002 x189003 x189004 x189005 x189006 x189007 x189008 x189009 x189010 x189011 x189012)))
def boarderref04_Right.j1 : Nat → Bool → Int → Int → Int → Int → Int → Int → Int → Int → Int → Int → Int → List Int → List (S52) → Option (Bool)
  | 0, _, _, _, _, _, _, _, _, _, _, _, _, _, _ => none
  | k + 1, x64, x189000, x189001, x189002, x189003, x189004, x189005, x189006, x189007, x189008, x189009, x189010, x189011, x189012 => if x64 = true then (some false) else ((boarderref01_Right.f x189007).bind fun t190 => (if t190 = true then ((boarderref01_Right.f x189008).bind fun t191 => (if t191 = true then ((boarderref01_Right.f x189009).bind fun t192 => (if t192 = true then ((boarderref01_Right.f x189010).bind fun t193 => (boarderref04_Right.j2 k (!t193) x189000 x189001 x189002 x189003 x189004 x189005 x189006 x189007 x189008 x189009 x189010 x189011 x189012)) else (boarderref04_Right.j2 k true x189000 x189001 x189002 x189003 x189004 x189005 x189006 x189007 x189008 x189009 x189010 x189011 x189012))) else (boarderref04_Right.j2 k true x189000 x189001 x189002 x189003 x189004 x189005 x189006 x189007 x189008 x189009 x189010 x189011 x189012))) else (boarderref04_Right.j2 k true x189000 x189001 x189002 x189003 x189004 x189005 x189006 x189007 x189008 x189009 x189010 x189011 x189012)))
def boarderref04_Right.j2 : Nat → Bool → Int → Int → Int → Int → Int → Int → Int → Int → Int → Int → Int → List Int → List (S52) → Option (Bool)
  | 0, _, _, _, _, _, _, _, _, _, _, _, _, _, _ => none
  | k + 1, x86, x189000, x189001, x189002, x189003, x189004, x189005, x189006, x189007, x189008, x189009, x189010, x189011, x189012 => if x86 = true then (some false) else (if (x189011.length : Int) = 16 then ((boarderref03_Right.f k x189012).bind fun t194 => (if t194 = true then ((boarderref03_Has.f k x189012 52).bind fun t195 => (some (t195 == 0))) else (some false))) else (some false))
end
def boarderref04_Right.f (k : Nat) (a0_0 : Int) (a0_1 : Int) (a0_2 : Int) (a0_3 : Int) (a0_4 : Int) (a0_5 : Int) (a0_6 : Int) (a0_7 : Int) (a0_8 : Int) (a0_9 : Int) (a0_10 : Int) (l0_11 : List Int) (l0_12 : List (S52)) : Option (Bool) := if a0_0 < 0 then (boarderref04_Right.j0 k true a0_0 a0_1 a0_2 a0_3 a0_4 a0_5 a0_6 a0_7 a0_8 a0_9 a0_10 l0_11 l0_12) else (if a0_0 > 255 then (boarderref04_Right.j0 k true a0_0 a0_1 a0_2 a0_3 a0_4 a0_5 a0_6 a0_7 a0_8 a0_9 a0_10 l0_11 l0_12) else (if a0_1 < 0 then (boarderref04_Right.j0 k true a0_0 a0_1 a0_2 a0_3 a0_4 a0_5 a0_6 a0_7 a0_8 a0_9 a0_10 l0_11 l0_12) else (if a0_1 > 255 then (boarderref04_Right.j0 k true a0_0 a0_1 a0_2 a0_3 a0_4 a0_5 a0_6 a0_7 a0_8 a0_9 a0_10 l0_11 l0_12) else (if a0_2 < 0 then (boarderref04_Right.j0 k true a0_0 a0_1 a0_2 a0_3 a0_4 a0_5 a0_6 a0_7 a0_8 a0_9 a0_10 l0_11 l0_12) else (if a0_2 > 16 then (boarderref04_Right.j0 k true a0_0 a0_1 a0_2 a0_3 a0_4 a0_5 a0_6 a0_7 a0_8 a0_9 a0_10 l0_11 l0_12) else (if a0_3 < 0 then (boarderref04_Right.j0 k true a0_0 a0_1 a0_2 a0_3 a0_4 a0_5 a0_6 a0_7 a0_8 a0_9 a0_10 l0_11 l0_12) else (boarderref04_Right.j0 k (decide (a0_3 > 255)) a0_0 a0_1 a0_2 a0_3 a0_4 a0_5 a0_6 a0_7 a0_8 a0_9 a0_10 l0_11 l0_12)))))))
theorem boarderref04_Right.mono_l : ∀ k, (∀ y0 y1 y2 y3 y4 y5 y6 y7 y8 y9 y10 y11 y12 y13, LeO (boarderref04_Right.j0 k y0 y1 y2 y3 y4 y5 y6 y7 y8 y9 y10 y11 y12 y13) (boarderref04_Right.j0 (k + 1) y0 y1 y2 y3 y4 y5 y6 y7 y8 y9 y10 y11 y12 y13)) ∧ (∀ y0 y1 y2 y3 y4 y5 y6 y7 y8 y9 y10 y11 y12 y13, LeO (boarderref04_Right.j1 k y0 y1 y2 y3 y4 y5 y6 y7 y8 y9 y10 y11 y12 y13) (boarderref04_Right.j1 (k + 1) y0 y1 y2 y3 y4 y5 y6 y7 y8 y9 y10 y11 y12 y13)) ∧ (∀ y0 y1 y2 y3 y4 y5 y6 y7 y8 y9 y10 y11 y12 y13, LeO (boarderref04_Right.j2 k y0 y1 y2 y3 y4 y5 y6 y7 y8 y9 y10 y11 y12 y13) (boarderref04_Right.j2 (k + 1) y0 y1 y2 y3 y4 y5 y6 y7 y8 y9 y10 y11 y12 y13))
  | 0 => ⟨fun _ _ _ _ _ _ _ _ _ _ _ _ _ _ r h => by simp [boarderref04_Right.j0] at h, fun _ _ _ _ _ _ _ _ _ _ _ _ _ _ r h => by simp [boarderref04_Right.j1] at h, fun _ _ _ _ _ _ _ _ _ _ _ _ _ _ r h => by simp [boarderref04_Right.j2] at h⟩
  | k + 1 => by
    obtain ⟨ih0, ih1, ih2⟩ := boarderref04_Right.mono_l k
    refine ⟨?_, ?_, ?_⟩
    · intro y0 y1 y2 y3 y4 y5 y6 y7 y8 y9 y10 y11 y12 y13
      unfold boarderref04_Right.j0
      repeat' first
      | (with_reducible exact ih0 _ _ _ _ _ _ _ _ _ _ _ _ _ _)
      | (with_reducible exact ih1 _ _ _ _ _ _ _ _ _ _ _ _ _ _)
      | (with_reducible exact ih2 _ _ _ _ _ _ _ _ _ _ _ _ _ _)
      | (with_reducible exact boarderref03_Has.mono _ _ _)
      | (with_reducible exact boarderref03_Right.mono _ _)
      | (with_reducible exact LeO.refl _)
      | (with_reducible exact LeO.none _)
      | (with_reducible refine LeO.ite ?_ ?_)
      | (with_reducible refine LeO.bind ?_ (fun _ => ?_))
    · intro y0 y1 y2 y3 y4 y5 y6 y7 y8 y9 y10 y11 y12 y13
      unfold boarderref04_Right.j1
      repeat' first
      | (with_reducible exact ih0 _ _ _ _ _ _ _ _ _ _ _ _ _ _)
      | (with_reducible exact ih1 _ _ _ _ _ _ _ _ _ _ _ _ _ _)
      | (with_reducible exact ih2 _ _ _ _ _ _ _ _ _ _ _ _ _ _)
      | (with_reducible exact boarderref03_Has.mono _ _ _)
      | (with_reducible exact boarderref03_Right.mono _ _)
      | (with_reducible exact LeO.refl _)
      | (with_reducible exact LeO.none _)
      | (with_reducible refine LeO.ite ?_ ?_)
      | (with_reducible refine LeO.bind ?_ (fun _ => ?_))
    · intro y0 y1 y2 y3 y4 y5 y6 y7 y8 y9 y10 y11 y12 y13
      unfold boarderref04_Right.j2
      repeat' first
      | (with_reducible exact ih0 _ _ _ _ _ _ _ _ _ _ _ _ _ _)
      | (with_reducible exact ih1 _ _ _ _ _ _ _ _ _ _ _ _ _ _)
      | (with_reducible exact ih2 _ _ _ _ _ _ _ _ _ _ _ _ _ _)
      | (with_reducible exact boarderref03_Has.mono _ _ _)
      | (with_reducible exact boarderref03_Right.mono _ _)
      | (with_reducible exact LeO.refl _)
      | (with_reducible exact LeO.none _)
      | (with_reducible refine LeO.ite ?_ ?_)
      | (with_reducible refine LeO.bind ?_ (fun _ => ?_))
theorem boarderref04_Right.mono : ∀ a0 a1 a2 a3 a4 a5 a6 a7 a8 a9 a10 a11 a12 k, LeO (boarderref04_Right.f k a0 a1 a2 a3 a4 a5 a6 a7 a8 a9 a10 a11 a12) (boarderref04_Right.f (k + 1) a0 a1 a2 a3 a4 a5 a6 a7 a8 a9 a10 a11 a12) := by
 intro a0 a1 a2 a3 a4 a5 a6 a7 a8 a9 a10 a11 a12 k
 obtain ⟨ih0, ih1, ih2⟩ := boarderref04_Right.mono_l k
 unfold boarderref04_Right.f
 repeat' first
  | (with_reducible exact ih0 _ _ _ _ _ _ _ _ _ _ _ _ _ _)
  | (with_reducible exact ih1 _ _ _ _ _ _ _ _ _ _ _ _ _ _)
  | (with_reducible exact ih2 _ _ _ _ _ _ _ _ _ _ _ _ _ _)
  | (with_reducible exact boarderref03_Has.mono _ _ _)
  | (with_reducible exact boarderref03_Right.mono _ _)
  | (with_reducible exact LeO.refl _)
  | (with_reducible exact LeO.none _)
  | (with_reducible refine LeO.ite ?_ ?_)
  | (with_reducible refine LeO.bind ?_ (fun _ => ?_))
set_option maxHeartbeats 8000000 in
set_option maxRecDepth 100000 in
theorem boarderref04_Right.calls (k : Nat) (a0_0 : Int) (a0_1 : Int) (a0_2 : Int) (a0_3 : Int) (a0_4 : Int) (a0_5 : Int) (a0_6 : Int) (a0_7 : Int) (a0_8 : Int) (a0_9 : Int) (a0_10 : Int) (A0_11 : Option Addr) (c0_11 : Nat) (l0_11 : List Int) (A0_12 : Option Addr) (c0_12 : Nat) (l0_12 : List (S52)) (r : Bool) (w : World) (hr0_11 : Kd.C (Kd.int .u8) w A0_11 l0_11.length l0_11) (hc0_11 : l0_11.length ≤ c0_11) (hr0_12 : Kd.C k52 w A0_12 l0_12.length l0_12) (hc0_12 : l0_12.length ≤ c0_12) (h : boarderref04_Right.f k a0_0 a0_1 a0_2 a0_3 a0_4 a0_5 a0_6 a0_7 a0_8 a0_9 a0_10 l0_11 l0_12 = some r) :
    Calls Tryd.prog 19 #[.agg #[.int .i64 a0_0, .int .i64 a0_1, .int .i64 a0_2, .int .i64 a0_3, .int .i64 a0_4, .int .i64 a0_5, .int .i64 a0_6, .int .i64 a0_7, .int .i64 a0_8, .int .i64 a0_9, .int .i64 a0_10, .slice A0_11 l0_11.length c0_11, .slice A0_12 l0_12.length c0_12]] w fun e w' => e = .returned (.bool r) ∧ Below w.heap.size w w' := by
 have hu33 := Tryd.underlying33
 have HR0_11 := Aside0.mk hr0_11
 have HC0_11 := Aside0.mk hc0_11
 clear hr0_11 hc0_11
 have HR0_12 := Aside0.mk hr0_12
 have HC0_12 := Aside0.mk hc0_12
 clear hr0_12 hc0_12
 have HB := Aside0.mk (Below.refl w.heap.size w)
 have H : (if a0_0 < 0 then (boarderref04_Right.j0 k true a0_0 a0_1 a0_2 a0_3 a0_4 a0_5 a0_6 a0_7 a0_8 a0_9 a0_10 l0_11 l0_12) else (if a0_0 > 255 then (boarderref04_Right.j0 k true a0_0 a0_1 a0_2 a0_3 a0_4 a0_5 a0_6 a0_7 a0_8 a0_9 a0_10 l0_11 l0_12) else (if a0_1 < 0 then (boarderref04_Right.j0 k true a0_0 a0_1 a0_2 a0_3 a0_4 a0_5 a0_6 a0_7 a0_8 a0_9 a0_10 l0_11 l0_12) else (if a0_1 > 255 then (boarderref04_Right.j0 k true a0_0 a0_1 a0_2 a0_3 a0_4 a0_5 a0_6 a0_7 a0_8 a0_9 a0_10 l0_11 l0_12) else (if a0_2 < 0 then (boarderref04_Right.j0 k true a0_0 a0_1 a0_2 a0_3 a0_4 a0_5 a0_6 a0_7 a0_8 a0_9 a0_10 l0_11 l0_12) else (if a0_2 > 16 then (boarderref04_Right.j0 k true a0_0 a0_1 a0_2 a0_3 a0_4 a0_5 a0_6 a0_7 a0_8 a0_9 a0_10 l0_11 l0_12) else (if a0_3 < 0 then (boarderref04_Right.j0 k true a0_0 a0_1 a0_2 a0_3 a0_4 a0_5 a0_6 a0_7 a0_8 a0_9 a0_10 l0_11 l0_12) else (boarderref04_Right.j0 k (decide (a0_3 > 255)) a0_0 a0_1 a0_2 a0_3 a0_4 a0_5 a0_6 a0_7 a0_8 a0_9 a0_10 l0_11 l0_12)))))))) = some r := h
 clear h
 have HC2 := Aside0.mk H
 clear H
 go_enter Tryd.func19, Tryd.ntmps19
 go_upto_region 1 with (first | ((with_reducible refine gate_dst (N := 1) rfl ?_); refine box_event rfl (N := 1) rfl (cs := #[.int .i64 a0_0, .int .i64 a0_1, .int .i64 a0_2, .int .i64 a0_3, .int .i64 a0_4, .int .i64 a0_5, .int .i64 a0_6, .int .i64 a0_7, .int .i64 a0_8, .int .i64 a0_9, .int .i64 a0_10, .slice A0_11 l0_11.length c0_11, .slice A0_12 l0_12.length c0_12]) (t := 33) sqs ?_; intro gb188 hg w3 hbox hb; have BK188 := sqM (hbox); have GW188 := sqM (sqZ hg (sqB HB.out)); have GE188 := sqM (sqZ hg (sqB HB.out)); replace HB := sqM (below_step (sqB HB.out) hb); clear hb hbox hg))
 (try simp only [Act.put, List.setIfInBounds_toArray, List.set_cons_zero, List.set_cons_succ])
 go_cut [40] (fun v40 wc => ∃ (kq : Nat) (x40_1 : Bool), v40 = .bool x40_1 ∧ Aside0 (boarderref04_Right.j0 kq x40_1 a0_0 a0_1 a0_2 a0_3 a0_4 a0_5 a0_6 a0_7 a0_8 a0_9 a0_10 l0_11 l0_12 = some r) ∧ Aside0 (kq ≤ k) ∧ Aside0 (wc.heap[gb188]? = some (.cells #[.int .i64 a0_0, .int .i64 a0_1, .int .i64 a0_2, .int .i64 a0_3, .int .i64 a0_4, .int .i64 a0_5, .int .i64 a0_6, .int .i64 a0_7, .int .i64 a0_8, .int .i64 a0_9, .int .i64 a0_10, (.slice A0_11 l0_11.length c0_11), (.slice A0_12 l0_12.length c0_12)] 33 (0, 0))) ∧ Aside0 (Below w.heap.size w wc))
 case first =>
  have H := HC2.out
  clear HC2
  by_cases c4 : a0_0 < 0
  · rw [if_pos c4] at H
    have c4b0 : decide (a0_0 < 0) = true := decide_eq_true c4
    clear c4
    (first | rw [c4b0] | (simp only [i64_w, i32_w]; rw [c4b0]) | skip)
    have H' := Aside0.mk H
    clear H
    have hcz5_0 : w3.cell? ⟨gb188, 0, none⟩ = some (.int .i64 a0_0) := (blk_cell BK188.out 0).trans rfl
    have hcz5_1 : w3.cell? ⟨gb188, 1, none⟩ = some (.int .i64 a0_1) := (blk_cell BK188.out 1).trans rfl
    have hcz5_2 : w3.cell? ⟨gb188, 2, none⟩ = some (.int .i64 a0_2) := (blk_cell BK188.out 2).trans rfl
    have hcz5_3 : w3.cell? ⟨gb188, 3, none⟩ = some (.int .i64 a0_3) := (blk_cell BK188.out 3).trans rfl
    have hcz5_4 : w3.cell? ⟨gb188, 4, none⟩ = some (.int .i64 a0_4) := (blk_cell BK188.out 4).trans rfl
    have hcz5_5 : w3.cell? ⟨gb188, 5, none⟩ = some (.int .i64 a0_5) := (blk_cell BK188.out 5).trans rfl
    have hcz5_6 : w3.cell? ⟨gb188, 6, none⟩ = some (.int .i64 a0_6) := (blk_cell BK188.out 6).trans rfl
    have hcz5_7 : w3.cell? ⟨gb188, 7, none⟩ = some (.int .i64 a0_7) := (blk_cell BK188.out 7).trans rfl
    have hcz5_8 : w3.cell? ⟨gb188, 8, none⟩ = some (.int .i64 a0_8) := (blk_cell BK188.out 8).trans rfl
    have hcz5_9 : w3.cell? ⟨gb188, 9, none⟩ = some (.int .i64 a0_9) := (blk_cell BK188.out 9).trans rfl
    have hcz5_10 : w3.cell? ⟨gb188, 10, none⟩ = some (.int .i64 a0_10) := (blk_cell BK188.out 10).trans rfl
    have hcz5_11 : w3.cell? ⟨gb188, 11, none⟩ = some (.slice A0_11 l0_11.length c0_11) := (blk_cell BK188.out 11).trans rfl
    have hcz5_12 : w3.cell? ⟨gb188, 12, none⟩ = some (.slice A0_12 l0_12.length c0_12) := (blk_cell BK188.out 12).trans rfl
    have hfz5_0 := blk_frozen BK188.out 0
    have hfz5_1 := blk_frozen BK188.out 1
    have hfz5_2 := blk_frozen BK188.out 2
    have hfz5_3 := blk_frozen BK188.out 3
    have hfz5_4 := blk_frozen BK188.out 4
    have hfz5_5 := blk_frozen BK188.out 5
    have hfz5_6 := blk_frozen BK188.out 6
    have hfz5_7 := blk_frozen BK188.out 7
    have hfz5_8 := blk_frozen BK188.out 8
    have hfz5_9 := blk_frozen BK188.out 9
    have hfz5_10 := blk_frozen BK188.out 10
    have hfz5_11 := blk_frozen BK188.out 11
    have hfz5_12 := blk_frozen BK188.out 12
    go_wp2
    go_meet
    case rel => exact ⟨_, (true), sqI, H', ⟨by first | omega | exact Nat.le_refl _⟩, ⟨sqK BK188.out⟩, ⟨sqB1 HB.out GE188.out⟩⟩
  rw [if_neg c4] at H
  have c4b0 : decide (a0_0 < 0) = false := decide_eq_false c4
  clear c4
  (first | rw [c4b0] | (simp only [i64_w, i32_w]; rw [c4b0]) | skip)
  by_cases c6 : a0_0 > 255
  · rw [if_pos c6] at H
    have c6b0 : decide (255 < a0_0) = true := decide_eq_true c6
    clear c6
    have H' := Aside0.mk H
    clear H
    have hcz7_0 : w3.cell? ⟨gb188, 0, none⟩ = some (.int .i64 a0_0) := (blk_cell BK188.out 0).trans rfl
    have hcz7_1 : w3.cell? ⟨gb188, 1, none⟩ = some (.int .i64 a0_1) := (blk_cell BK188.out 1).trans rfl
    have hcz7_2 : w3.cell? ⟨gb188, 2, none⟩ = some (.int .i64 a0_2) := (blk_cell BK188.out 2).trans rfl
    have hcz7_3 : w3.cell? ⟨gb188, 3, none⟩ = some (.int .i64 a0_3) := (blk_cell BK188.out 3).trans rfl
    have hcz7_4 : w3.cell? ⟨gb188, 4, none⟩ = some (.int .i64 a0_4) := (blk_cell BK188.out 4).trans rfl
    have hcz7_5 : w3.cell? ⟨gb188, 5, none⟩ = some (.int .i64 a0_5) := (blk_cell BK188.out 5).trans rfl
    have hcz7_6 : w3.cell? ⟨gb188, 6, none⟩ = some (.int .i64 a0_6) := (blk_cell BK188.out 6).trans rfl
    have hcz7_7 : w3.cell? ⟨gb188, 7, none⟩ = some (.int .i64 a0_7) := (blk_cell BK188.out 7).trans rfl
    have hcz7_8 : w3.cell? ⟨gb188, 8, none⟩ = some (.int .i64 a0_8) := (blk_cell BK188.out 8).trans rfl
    have hcz7_9 : w3.cell? ⟨gb188, 9, none⟩ = some (.int .i64 a0_9) := (blk_cell BK188.out 9).trans rfl
    have hcz7_10 : w3.cell? ⟨gb188, 10, none⟩ = some (.int .i64 a0_10) := (blk_cell BK188.out 10).trans rfl
    have hcz7_11 : w3.cell? ⟨gb188, 11, none⟩ = some (.slice A0_11 l0_11.length c0_11) := (blk_cell BK188.out 11).trans rfl
    have hcz7_12 : w3.cell? ⟨gb188, 12, none⟩ = some (.slice A0_12 l0_12.length c0_12) := (blk_cell BK188.out 12).trans rfl
    have hfz7_0 := blk_frozen BK188.out 0
    have hfz7_1 := blk_frozen BK188.out 1
    have hfz7_2 := blk_frozen BK188.out 2
    have hfz7_3 := blk_frozen BK188.out 3
    have hfz7_4 := blk_frozen BK188.out 4
    have hfz7_5 := blk_frozen BK188.out 5
    have hfz7_6 := blk_frozen BK188.out 6
    have hfz7_7 := blk_frozen BK188.out 7
    have hfz7_8 := blk_frozen BK188.out 8
    have hfz7_9 := blk_frozen BK188.out 9
    have hfz7_10 := blk_frozen BK188.out 10
    have hfz7_11 := blk_frozen BK188.out 11
    have hfz7_12 := blk_frozen BK188.out 12
    go_wp2
    go_meet
    case rel => exact ⟨_, (true), sqI, H', ⟨by first | omega | exact Nat.le_refl _⟩, ⟨sqK BK188.out⟩, ⟨sqB1 HB.out GE188.out⟩⟩
  rw [if_neg c6] at H
  have c6b0 : decide (255 < a0_0) = false := decide_eq_false c6
  clear c6
  by_cases c8 : a0_1 < 0
  · rw [if_pos c8] at H
    have c8b0 : decide (a0_1 < 0) = true := decide_eq_true c8
    clear c8
    have H' := Aside0.mk H
    clear H
    have hcz9_0 : w3.cell? ⟨gb188, 0, none⟩ = some (.int .i64 a0_0) := (blk_cell BK188.out 0).trans rfl
    have hcz9_1 : w3.cell? ⟨gb188, 1, none⟩ = some (.int .i64 a0_1) := (blk_cell BK188.out 1).trans rfl
    have hcz9_2 : w3.cell? ⟨gb188, 2, none⟩ = some (.int .i64 a0_2) := (blk_cell BK188.out 2).trans rfl
    have hcz9_3 : w3.cell? ⟨gb188, 3, none⟩ = some (.int .i64 a0_3) := (blk_cell BK188.out 3).trans rfl
    have hcz9_4 : w3.cell? ⟨gb188, 4, none⟩ = some (.int .i64 a0_4) := (blk_cell BK188.out 4).trans rfl
    have hcz9_5 : w3.cell? ⟨gb188, 5, none⟩ = some (.int .i64 a0_5) := (blk_cell BK188.out 5).trans rfl
    have hcz9_6 : w3.cell? ⟨gb188, 6, none⟩ = some (.int .i64 a0_6) := (blk_cell BK188.out 6).trans rfl
    have hcz9_7 : w3.cell? ⟨gb188, 7, none⟩ = some (.int .i64 a0_7) := (blk_cell BK188.out 7).trans rfl
    have hcz9_8 : w3.cell? ⟨gb188, 8, none⟩ = some (.int .i64 a0_8) := (blk_cell BK188.out 8).trans rfl
    have hcz9_9 : w3.cell? ⟨gb188, 9, none⟩ = some (.int .i64 a0_9) := (blk_cell BK188.out 9).trans rfl
    have hcz9_10 : w3.cell? ⟨gb188, 10, none⟩ = some (.int .i64 a0_10) := (blk_cell BK188.out 10).trans rfl
    have hcz9_11 : w3.cell? ⟨gb188, 11, none⟩ = some (.slice A0_11 l0_11.length c0_11) := (blk_cell BK188.out 11).trans rfl
    have hcz9_12 : w3.cell? ⟨gb188, 12, none⟩ = some (.slice A0_12 l0_12.length c0_12) := (blk_cell BK188.out 12).trans rfl
    have hfz9_0 := blk_frozen BK188.out 0
    have hfz9_1 := blk_frozen BK188.out 1
    have hfz9_2 := blk_frozen BK188.out 2
    have hfz9_3 := blk_frozen BK188.out 3
    have hfz9_4 := blk_frozen BK188.out 4
    have hfz9_5 := blk_frozen BK188.out 5
    have hfz9_6 := blk_frozen BK188.out 6
    have hfz9_7 := blk_frozen BK188.out 7
    have hfz9_8 := blk_frozen BK188.out 8
    have hfz9_9 := blk_frozen BK188.out 9
    have hfz9_10 := blk_frozen BK188.out 10
    have hfz9_11 := blk_frozen BK188.out 11
    have hfz9_12 := blk_frozen BK188.out 12
    go_wp2
    go_meet
    case rel => exact ⟨_, (true), sqI, H', ⟨by first | omega | exact Nat.le_refl _⟩, ⟨sqK BK188.out⟩, ⟨sqB1 HB.out GE188.out⟩⟩
  rw [if_neg c8] at H
  have c8b0 : decide (a0_1 < 0) = false := decide_eq_false c8
  clear c8
  by_cases c10 : a0_1 > 255
  · rw [if_pos c10] at H
    have c10b0 : decide (255 < a0_1) = true := decide_eq_true c10
    clear c10
    have H' := Aside0.mk H
    clear H
    have hcz11_0 : w3.cell? ⟨gb188, 0, none⟩ = some (.int .i64 a0_0) := (blk_cell BK188.out 0).trans rfl
    have hcz11_1 : w3.cell? ⟨gb188, 1, none⟩ = some (.int .i64 a0_1) := (blk_cell BK188.out 1).trans rfl
    have hcz11_2 : w3.cell? ⟨gb188, 2, none⟩ = some (.int .i64 a0_2) := (blk_cell BK188.out 2).trans rfl
    have hcz11_3 : w3.cell? ⟨gb188, 3, none⟩ = some (.int .i64 a0_3) := (blk_cell BK188.out 3).trans rfl
    have hcz11_4 : w3.cell? ⟨gb188, 4, none⟩ = some (.int .i64 a0_4) := (blk_cell BK188.out 4).trans rfl
    have hcz11_5 : w3.cell? ⟨gb188, 5, none⟩ = some (.int .i64 a0_5) := (blk_cell BK188.out 5).trans rfl
    have hcz11_6 : w3.cell? ⟨gb188, 6, none⟩ = some (.int .i64 a0_6) := (blk_cell BK188.out 6).trans rfl
    have hcz11_7 : w3.cell? ⟨gb188, 7, none⟩ = some (.int .i64 a0_7) := (blk_cell BK188.out 7).trans rfl
    have hcz11_8 : w3.cell? ⟨gb188, 8, none⟩ = some (.int .i64 a0_8) := (blk_cell BK188.out 8).trans rfl
    have hcz11_9 : w3.cell? ⟨gb188, 9, none⟩ = some (.int .i64 a0_9) := (blk_cell BK188.out 9).trans rfl
    have hcz11_10 : w3.cell? ⟨gb188, 10, none⟩ = some (.int .i64 a0_10) := (blk_cell BK188.out 10).trans rfl
    have hcz11_11 : w3.cell? ⟨gb188, 11, none⟩ = some (.slice A0_11 l0_11.length c0_11) := (blk_cell BK188.out 11).trans rfl
    have hcz11_12 : w3.cell? ⟨gb188, 12, none⟩ = some (.slice A0_12 l0_12.length c0_12) := (blk_cell BK188.out 12).trans rfl
    have hfz11_0 := blk_frozen BK188.out 0
    have hfz11_1 := blk_frozen BK188.out 1
    have hfz11_2 := blk_frozen BK188.out 2
    have hfz11_3 := blk_frozen BK188.out 3
    have hfz11_4 := blk_frozen BK188.out 4
    have hfz11_5 := blk_frozen BK188.out 5
    have hfz11_6 := blk_frozen BK188.out 6
    have hfz11_7 := blk_frozen BK188.out 7
    have hfz11_8 := blk_frozen BK188.out 8
    have hfz11_9 := blk_frozen BK188.out 9
    have hfz11_10 := blk_frozen BK188.out 10
    have hfz11_11 := blk_frozen BK188.out 11
    have hfz11_12 := blk_frozen BK188.out 12
    go_wp2
    go_meet
    case rel => exact ⟨_, (true), sqI, H', ⟨by first | omega | exact Nat.le_refl _⟩, ⟨sqK BK188.out⟩, ⟨sqB1 HB.out GE188.out⟩⟩
  rw [if_neg c10] at H
  have c10b0 : decide (255 < a0_1) = false := decide_eq_false c10
  clear c10
  by_cases c12 : a0_2 < 0
  · rw [if_pos c12] at H
    have c12b0 : decide (a0_2 < 0) = true := decide_eq_true c12
    clear c12
    have H' := Aside0.mk H
    clear H
    have hcz13_0 : w3.cell? ⟨gb188, 0, none⟩ = some (.int .i64 a0_0) := (blk_cell BK188.out 0).trans rfl
    have hcz13_1 : w3.cell? ⟨gb188, 1, none⟩ = some (.int .i64 a0_1) := (blk_cell BK188.out 1).trans rfl
    have hcz13_2 : w3.cell? ⟨gb188, 2, none⟩ = some (.int .i64 a0_2) := (blk_cell BK188.out 2).trans rfl
    have hcz13_3 : w3.cell? ⟨gb188, 3, none⟩ = some (.int .i64 a0_3) := (blk_cell BK188.out 3).trans rfl
    have hcz13_4 : w3.cell? ⟨gb188, 4, none⟩ = some (.int .i64 a0_4) := (blk_cell BK188.out 4).trans rfl
    have hcz13_5 : w3.cell? ⟨gb188, 5, none⟩ = some (.int .i64 a0_5) := (blk_cell BK188.out 5).trans rfl
    have hcz13_6 : w3.cell? ⟨gb188, 6, none⟩ = some (.int .i64 a0_6) := (blk_cell BK188.out 6).trans rfl
    have hcz13_7 : w3.cell? ⟨gb188, 7, none⟩ = some (.int .i64 a0_7) := (blk_cell BK188.out 7).trans rfl
    have hcz13_8 : w3.cell? ⟨gb188, 8, none⟩ = some (.int .i64 a0_8) := (blk_cell BK188.out 8).trans rfl
    have hcz13_9 : w3.cell? ⟨gb188, 9, none⟩ = some (.int .i64 a0_9) := (blk_cell BK188.out 9).trans rfl
    have hcz13_10 : w3.cell? ⟨gb188, 10, none⟩ = some (.int .i64 a0_10) := (blk_cell BK188.out 10).trans rfl
    have hcz13_11 : w3.cell? ⟨gb188, 11, none⟩ = some (.slice A0_11 l0_11.length c0_11) := (blk_cell BK188.out 11).trans rfl
    have hcz13_12 : w3.cell? ⟨gb188, 12, none⟩ = some (.slice A0_12 l0_12.length c0_12) := (blk_cell BK188.out 12).trans rfl
    have hfz13_0 := blk_frozen BK188.out 0
    have hfz13_1 := blk_frozen BK188.out 1
    have hfz13_2 := blk_frozen BK188.out 2
    have hfz13_3 := blk_frozen BK188.out 3
    have hfz13_4 := blk_frozen BK188.out 4
    have hfz13_5 := blk_frozen BK188.out 5
    have hfz13_6 := blk_frozen BK188.out 6
    have hfz13_7 := blk_frozen BK188.out 7
    have hfz13_8 := blk_frozen BK188.out 8
    have hfz13_9 := blk_frozen BK188.out 9
    have hfz13_10 := blk_frozen BK188.out 10
    have hfz13_11 := blk_frozen BK188.out 11
    have hfz13_12 := blk_frozen BK188.out 12
    go_wp2
    go_meet
    case rel => exact ⟨_, (true), sqI, H', ⟨by first | omega | exact Nat.le_refl _⟩, ⟨sqK BK188.out⟩, ⟨sqB1 HB.out GE188.out⟩⟩
  rw [if_neg c12] at H
  have c12b0 : decide (a0_2 < 0) = false := decide_eq_false c12
  clear c12
  by_cases c14 : a0_2 > 16
  · rw [if_pos c14] at H
    have c14b0 : decide (16 < a0_2) = true := decide_eq_true c14
    clear c14
    have H' := Aside0.mk H
    clear H
    have hcz15_0 : w3.cell? ⟨gb188, 0, none⟩ = some (.int .i64 a0_0) := (blk_cell BK188.out 0).trans rfl
    have hcz15_1 : w3.cell? ⟨gb188, 1, none⟩ = some (.int .i64 a0_1) := (blk_cell BK188.out 1).trans rfl
    have hcz15_2 : w3.cell? ⟨gb188, 2, none⟩ = some (.int .i64 a0_2) := (blk_cell BK188.out 2).trans rfl
    have hcz15_3 : w3.cell? ⟨gb188, 3, none⟩ = some (.int .i64 a0_3) := (blk_cell BK188.out 3).trans rfl
    have hcz15_4 : w3.cell? ⟨gb188, 4, none⟩ = some (.int .i64 a0_4) := (blk_cell BK188.out 4).trans rfl
    have hcz15_5 : w3.cell? ⟨gb188, 5, none⟩ = some (.int .i64 a0_5) := (blk_cell BK188.out 5).trans rfl
    have hcz15_6 : w3.cell? ⟨gb188, 6, none⟩ = some (.int .i64 a0_6) := (blk_cell BK188.out 6).trans rfl
    have hcz15_7 : w3.cell? ⟨gb188, 7, none⟩ = some (.int .i64 a0_7) := (blk_cell BK188.out 7).trans rfl
    have hcz15_8 : w3.cell? ⟨gb188, 8, none⟩ = some (.int .i64 a0_8) := (blk_cell BK188.out 8).trans rfl
    have hcz15_9 : w3.cell? ⟨gb188, 9, none⟩ = some (.int .i64 a0_9) := (blk_cell BK188.out 9).trans rfl
    have hcz15_10 : w3.cell? ⟨gb188, 10, none⟩ = some (.int .i64 a0_10) := (blk_cell BK188.out 10).trans rfl
    have hcz15_11 : w3.cell? ⟨gb188, 11, none⟩ = some (.slice A0_11 l0_11.length c0_11) := (blk_cell BK188.out 11).trans rfl
    have hcz15_12 : w3.cell? ⟨gb188, 12, none⟩ = some (.slice A0_12 l0_12.length c0_12) := (blk_cell BK188.out 12).trans rfl
    have hfz15_0 := blk_frozen BK188.out 0
    have hfz15_1 := blk_frozen BK188.out 1
    have hfz15_2 := blk_frozen BK188.out 2
    have hfz15_3 := blk_frozen BK188.out 3
    have hfz15_4 := blk_frozen BK188.out 4
    have hfz15_5 := blk_frozen BK188.out 5
    have hfz15_6 := blk_frozen BK188.out 6
    have hfz15_7 := blk_frozen BK188.out 7
    have hfz15_8 := blk_frozen BK188.out 8
    have hfz15_9 := blk_frozen BK188.out 9
    have hfz15_10 := blk_frozen BK188.out 10
    have hfz15_11 := blk_frozen BK188.out 11
    have hfz15_12 := blk_frozen BK188.out 12
    go_wp2
    go_meet
    case rel => exact ⟨_, (true), sqI, H', ⟨by first | omega | exact Nat.le_refl _⟩, ⟨sqK BK188.out⟩, ⟨sqB1 HB.out GE188.out⟩⟩
  rw [if_neg c14] at H
  have c14b0 : decide (16 < a0_2) = false := decide_eq_false c14
  clear c14
  by_cases c16 : a0_3 < 0
  · rw [if_pos c16] at H
    have c16b0 : decide (a0_3 < 0) = true := decide_eq_true c16
    clear c16
    have H' := Aside0.mk H
    clear H
    have hcz17_0 : w3.cell? ⟨gb188, 0, none⟩ = some (.int .i64 a0_0) := (blk_cell BK188.out 0).trans rfl
    have hcz17_1 : w3.cell? ⟨gb188, 1, none⟩ = some (.int .i64 a0_1) := (blk_cell BK188.out 1).trans rfl
    have hcz17_2 : w3.cell? ⟨gb188, 2, none⟩ = some (.int .i64 a0_2) := (blk_cell BK188.out 2).trans rfl
    have hcz17_3 : w3.cell? ⟨gb188, 3, none⟩ = some (.int .i64 a0_3) := (blk_cell BK188.out 3).trans rfl
    have hcz17_4 : w3.cell? ⟨gb188, 4, none⟩ = some (.int .i64 a0_4) := (blk_cell BK188.out 4).trans rfl
    have hcz17_5 : w3.cell? ⟨gb188, 5, none⟩ = some (.int .i64 a0_5) := (blk_cell BK188.out 5).trans rfl
    have hcz17_6 : w3.cell? ⟨gb188, 6, none⟩ = some (.int .i64 a0_6) := (blk_cell BK188.out 6).trans rfl
    have hcz17_7 : w3.cell? ⟨gb188, 7, none⟩ = some (.int .i64 a0_7) := (blk_cell BK188.out 7).trans rfl
    have hcz17_8 : w3.cell? ⟨gb188, 8, none⟩ = some (.int .i64 a0_8) := (blk_cell BK188.out 8).trans rfl
    have hcz17_9 : w3.cell? ⟨gb188, 9, none⟩ = some (.int .i64 a0_9) := (blk_cell BK188.out 9).trans rfl
    have hcz17_10 : w3.cell? ⟨gb188, 10, none⟩ = some (.int .i64 a0_10) := (blk_cell BK188.out 10).trans rfl
    have hcz17_11 : w3.cell? ⟨gb188, 11, none⟩ = some (.slice A0_11 l0_11.length c0_11) := (blk_cell BK188.out 11).trans rfl
    have hcz17_12 : w3.cell? ⟨gb188, 12, none⟩ = some (.slice A0_12 l0_12.length c0_12) := (blk_cell BK188.out 12).trans rfl
    have hfz17_0 := blk_frozen BK188.out 0
    have hfz17_1 := blk_frozen BK188.out 1
    have hfz17_2 := blk_frozen BK188.out 2
    have hfz17_3 := blk_frozen BK188.out 3
    have hfz17_4 := blk_frozen BK188.out 4
    have hfz17_5 := blk_frozen BK188.out 5
    have hfz17_6 := blk_frozen BK188.out 6
    have hfz17_7 := blk_frozen BK188.out 7
    have hfz17_8 := blk_frozen BK188.out 8
    have hfz17_9 := blk_frozen BK188.out 9
    have hfz17_10 := blk_frozen BK188.out 10
    have hfz17_11 := blk_frozen BK188.out 11
    have hfz17_12 := blk_frozen BK188.out 12
    go_wp2
    go_meet
    case rel => exact ⟨_, (true), sqI, H', ⟨by first | omega | exact Nat.le_refl _⟩, ⟨sqK BK188.out⟩, ⟨sqB1 HB.out GE188.out⟩⟩
  rw [if_neg c16] at H
  have c16b0 : decide (a0_3 < 0) = false := decide_eq_false c16
  clear c16
  have H' := Aside0.mk H
  clear H
  have hcz18_0 : w3.cell? ⟨gb188, 0, none⟩ = some (.int .i64 a0_0) := (blk_cell BK188.out 0).trans rfl
  have hcz18_1 : w3.cell? ⟨gb188, 1, none⟩ = some (.int .i64 a0_1) := (blk_cell BK188.out 1).trans rfl
  have hcz18_2 : w3.cell? ⟨gb188, 2, none⟩ = some (.int .i64 a0_2) := (blk_cell BK188.out 2).trans rfl
  have hcz18_3 : w3.cell? ⟨gb188, 3, none⟩ = some (.int .i64 a0_3) := (blk_cell BK188.out 3).trans rfl
  have hcz18_4 : w3.cell? ⟨gb188, 4, none⟩ = some (.int .i64 a0_4) := (blk_cell BK188.out 4).trans rfl
  have hcz18_5 : w3.cell? ⟨gb188, 5, none⟩ = some (.int .i64 a0_5) := (blk_cell BK188.out 5).trans rfl
  have hcz18_6 : w3.cell? ⟨gb188, 6, none⟩ = some (.int .i64 a0_6) := (blk_cell BK188.out 6).trans rfl
  have hcz18_7 : w3.cell? ⟨gb188, 7, none⟩ = some (.int .i64 a0_7) := (blk_cell BK188.out 7).trans rfl
  have hcz18_8 : w3.cell? ⟨gb188, 8, none⟩ = some (.int .i64 a0_8) := (blk_cell BK188.out 8).trans rfl
  have hcz18_9 : w3.cell? ⟨gb188, 9, none⟩ = some (.int .i64 a0_9) := (blk_cell BK188.out 9).trans rfl
  have hcz18_10 : w3.cell? ⟨gb188, 10, none⟩ = some (.int .i64 a0_10) := (blk_cell BK188.out 10).trans rfl
  have hcz18_11 : w3.cell? ⟨gb188, 11, none⟩ = some (.slice A0_11 l0_11.length c0_11) := (blk_cell BK188.out 11).trans rfl
  have hcz18_12 : w3.cell? ⟨gb188, 12, none⟩ = some (.slice A0_12 l0_12.length c0_12) := (blk_cell BK188.out 12).trans rfl
  have hfz18_0 := blk_frozen BK188.out 0
  have hfz18_1 := blk_frozen BK188.out 1
  have hfz18_2 := blk_frozen BK188.out 2
  have hfz18_3 := blk_frozen BK188.out 3
  have hfz18_4 := blk_frozen BK188.out 4
  have hfz18_5 := blk_frozen BK188.out 5
  have hfz18_6 := blk_frozen BK188.out 6
  have hfz18_7 := blk_frozen BK188.out 7
  have hfz18_8 := blk_frozen BK188.out 8
  have hfz18_9 := blk_frozen BK188.out 9
  have hfz18_10 := blk_frozen BK188.out 10
  have hfz18_11 := blk_frozen BK188.out 11
  have hfz18_12 := blk_frozen BK188.out 12
  go_wp2
  go_meet
  case rel => exact ⟨_, (decide (a0_3 > 255)), sqI, H', ⟨by first | omega | exact Nat.le_refl _⟩, ⟨sqK BK188.out⟩, ⟨sqB1 HB.out GE188.out⟩⟩
 clear HC2
 try clear c1
 try clear p2
 try clear c4
 try clear c4b0
 try clear c6
 try clear c6b0
 try clear c8
 try clear c8b0
 try clear c10
 try clear c10b0
 try clear c12
 try clear c12b0
 try clear c14
 try clear c14b0
 try clear c16
 try clear c16b0
 try clear hcz11_0 hcz11_1 hcz11_10 hcz11_11 hcz11_12 hcz11_2 hcz11_3 hcz11_4 hcz11_5 hcz11_6 hcz11_7 hcz11_8 hcz11_9
 try clear hcz13_0 hcz13_1 hcz13_10 hcz13_11 hcz13_12 hcz13_2 hcz13_3 hcz13_4 hcz13_5 hcz13_6 hcz13_7 hcz13_8 hcz13_9
 try clear hcz15_0 hcz15_1 hcz15_10 hcz15_11 hcz15_12 hcz15_2 hcz15_3 hcz15_4 hcz15_5 hcz15_6 hcz15_7 hcz15_8 hcz15_9
 try clear hcz17_0 hcz17_1 hcz17_10 hcz17_11 hcz17_12 hcz17_2 hcz17_3 hcz17_4 hcz17_5 hcz17_6 hcz17_7 hcz17_8 hcz17_9
 try clear hcz18_0 hcz18_1 hcz18_10 hcz18_11 hcz18_12 hcz18_2 hcz18_3 hcz18_4 hcz18_5 hcz18_6 hcz18_7 hcz18_8 hcz18_9
 try clear hcz5_0 hcz5_1 hcz5_10 hcz5_11 hcz5_12 hcz5_2 hcz5_3 hcz5_4 hcz5_5 hcz5_6 hcz5_7 hcz5_8 hcz5_9
 try clear hcz7_0 hcz7_1 hcz7_10 hcz7_11 hcz7_12 hcz7_2 hcz7_3 hcz7_4 hcz7_5 hcz7_6 hcz7_7 hcz7_8 hcz7_9
 try clear hcz9_0 hcz9_1 hcz9_10 hcz9_11 hcz9_12 hcz9_2 hcz9_3 hcz9_4 hcz9_5 hcz9_6 hcz9_7 hcz9_8 hcz9_9
 try clear hfz11_0 hfz11_1 hfz11_10 hfz11_11 hfz11_12 hfz11_2 hfz11_3 hfz11_4 hfz11_5 hfz11_6 hfz11_7 hfz11_8 hfz11_9
 try clear hfz13_0 hfz13_1 hfz13_10 hfz13_11 hfz13_12 hfz13_2 hfz13_3 hfz13_4 hfz13_5 hfz13_6 hfz13_7 hfz13_8 hfz13_9
 try clear hfz15_0 hfz15_1 hfz15_10 hfz15_11 hfz15_12 hfz15_2 hfz15_3 hfz15_4 hfz15_5 hfz15_6 hfz15_7 hfz15_8 hfz15_9
 try clear hfz17_0 hfz17_1 hfz17_10 hfz17_11 hfz17_12 hfz17_2 hfz17_3 hfz17_4 hfz17_5 hfz17_6 hfz17_7 hfz17_8 hfz17_9
 try clear hfz18_0 hfz18_1 hfz18_10 hfz18_11 hfz18_12 hfz18_2 hfz18_3 hfz18_4 hfz18_5 hfz18_6 hfz18_7 hfz18_8 hfz18_9
 try clear hfz5_0 hfz5_1 hfz5_10 hfz5_11 hfz5_12 hfz5_2 hfz5_3 hfz5_4 hfz5_5 hfz5_6 hfz5_7 hfz5_8 hfz5_9
 try clear hfz7_0 hfz7_1 hfz7_10 hfz7_11 hfz7_12 hfz7_2 hfz7_3 hfz7_4 hfz7_5 hfz7_6 hfz7_7 hfz7_8 hfz7_9
 try clear hfz9_0 hfz9_1 hfz9_10 hfz9_11 hfz9_12 hfz9_2 hfz9_3 hfz9_4 hfz9_5 hfz9_6 hfz9_7 hfz9_8 hfz9_9
 obtain ⟨kq, x40_1, rfl, HA, HJ1, BK188, HB⟩ := hcut
 cases kq with
 | zero => exact absurd HA.out (by simp [boarderref04_Right.j0])
 | succ kj1 => ?_
 have H := HA.out
 clear HA
 simp only [boarderref04_Right.j0] at H
 by_cases c19 : x40_1 = true
 · subst c19
   have H1 : (some false) = some r := by rw [if_pos rfl] at H; exact H
   clear H
   have H := H1
   clear H1
   obtain rfl := Option.some.inj H
   go_wp2
   go_ret
   exact ⟨sqE, sqB1 HB.out GE188.out⟩
 replace c19 := Bool.eq_false_iff.mpr c19
 subst c19
 have H1 : ((boarderref01_Right.f a0_4).bind fun t189 => (if t189 = true then (if a0_5 < 0 then (boarderref04_Right.j1 kj1 true a0_0 a0_1 a0_2 a0_3 a0_4 a0_5 a0_6 a0_7 a0_8 a0_9 a0_10 l0_11 l0_12) else (if a0_5 > 65535 then (boarderref04_Right.j1 kj1 true a0_0 a0_1 a0_2 a0_3 a0_4 a0_5 a0_6 a0_7 a0_8 a0_9 a0_10 l0_11 l0_12) else (if a0_6 < 0 then (boarderref04_Right.j1 kj1 true a0_0 a0_1 a0_2 a0_3 a0_4 a0_5 a0_6 a0_7 a0_8 a0_9 a0_10 l0_11 l0_12) else (boarderref04_Right.j1 kj1 (decide (a0_6 > 65535)) a0_0 a0_1 a0_2 a0_3 a0_4 a0_5 a0_6 a0_7 a0_8 a0_9 a0_10 l0_11 l0_12)))) else (boarderref04_Right.j1 kj1 true a0_0 a0_1 a0_2 a0_3 a0_4 a0_5 a0_6 a0_7 a0_8 a0_9 a0_10 l0_11 l0_12))) = some r := by rw [if_neg (show ¬ (false = true) by decide)] at H; exact H
 clear H
 have H := H1
 clear H1
 have HC20 := Aside0.mk H
 clear H
 go_upto_region 3 with (fail)
 go_cut [64] (fun v64 wc => ∃ (kq : Nat) (x64_19 : Bool), v64 = .bool x64_19 ∧ Aside0 (boarderref04_Right.j1 kq x64_19 a0_0 a0_1 a0_2 a0_3 a0_4 a0_5 a0_6 a0_7 a0_8 a0_9 a0_10 l0_11 l0_12 = some r) ∧ Aside0 (kq ≤ kj1) ∧ Aside0 (wc.heap[gb188]? = some (.cells #[.int .i64 a0_0, .int .i64 a0_1, .int .i64 a0_2, .int .i64 a0_3, .int .i64 a0_4, .int .i64 a0_5, .int .i64 a0_6, .int .i64 a0_7, .int .i64 a0_8, .int .i64 a0_9, .int .i64 a0_10, (.slice A0_11 l0_11.length c0_11), (.slice A0_12 l0_12.length c0_12)] 33 (0, 0))) ∧ Aside0 (Below w.heap.size w wc))
 case first =>
  have H := HC20.out
  clear HC20
  replace H := Option.bind_eq_some_iff.mp H
  obtain ⟨t189, A210, H⟩ := H
  replace H : (if t189 = true then (if a0_5 < 0 then (boarderref04_Right.j1 kj1 true a0_0 a0_1 a0_2 a0_3 a0_4 a0_5 a0_6 a0_7 a0_8 a0_9 a0_10 l0_11 l0_12) else (if a0_5 > 65535 then (boarderref04_Right.j1 kj1 true a0_0 a0_1 a0_2 a0_3 a0_4 a0_5 a0_6 a0_7 a0_8 a0_9 a0_10 l0_11 l0_12) else (if a0_6 < 0 then (boarderref04_Right.j1 kj1 true a0_0 a0_1 a0_2 a0_3 a0_4 a0_5 a0_6 a0_7 a0_8 a0_9 a0_10 l0_11 l0_12) else (boarderref04_Right.j1 kj1 (decide (a0_6 > 65535)) a0_0 a0_1 a0_2 a0_3 a0_4 a0_5 a0_6 a0_7 a0_8 a0_9 a0_10 l0_11 l0_12)))) else (boarderref04_Right.j1 kj1 true a0_0 a0_1 a0_2 a0_3 a0_4 a0_5 a0_6 a0_7 a0_8 a0_9 a0_10 l0_11 l0_12)) = some r := H
  have A21 := Aside0.mk A210
  clear A210
  by_cases c22 : t189 = true
  rotate_left
  · replace c22 := Bool.eq_false_iff.mpr c22
    subst c22
    have H1 : (boarderref04_Right.j1 kj1 true a0_0 a0_1 a0_2 a0_3 a0_4 a0_5 a0_6 a0_7 a0_8 a0_9 a0_10 l0_11 l0_12) = some r := by rw [if_neg (show ¬ (false = true) by decide)] at H; exact H
    clear H
    have H := H1
    clear H1
    have H' := Aside0.mk H
    clear H
    have hcz30_0 : wc.cell? ⟨gb188, 0, none⟩ = some (.int .i64 a0_0) := (blk_cell BK188.out 0).trans rfl
    have hcz30_1 : wc.cell? ⟨gb188, 1, none⟩ = some (.int .i64 a0_1) := (blk_cell BK188.out 1).trans rfl
    have hcz30_2 : wc.cell? ⟨gb188, 2, none⟩ = some (.int .i64 a0_2) := (blk_cell BK188.out 2).trans rfl
    have hcz30_3 : wc.cell? ⟨gb188, 3, none⟩ = some (.int .i64 a0_3) := (blk_cell BK188.out 3).trans rfl
    have hcz30_4 : wc.cell? ⟨gb188, 4, none⟩ = some (.int .i64 a0_4) := (blk_cell BK188.out 4).trans rfl
    have hcz30_5 : wc.cell? ⟨gb188, 5, none⟩ = some (.int .i64 a0_5) := (blk_cell BK188.out 5).trans rfl
    have hcz30_6 : wc.cell? ⟨gb188, 6, none⟩ = some (.int .i64 a0_6) := (blk_cell BK188.out 6).trans rfl
    have hcz30_7 : wc.cell? ⟨gb188, 7, none⟩ = some (.int .i64 a0_7) := (blk_cell BK188.out 7).trans rfl
    have hcz30_8 : wc.cell? ⟨gb188, 8, none⟩ = some (.int .i64 a0_8) := (blk_cell BK188.out 8).trans rfl
    have hcz30_9 : wc.cell? ⟨gb188, 9, none⟩ = some (.int .i64 a0_9) := (blk_cell BK188.out 9).trans rfl
    have hcz30_10 : wc.cell? ⟨gb188, 10, none⟩ = some (.int .i64 a0_10) := (blk_cell BK188.out 10).trans rfl
    have hcz30_11 : wc.cell? ⟨gb188, 11, none⟩ = some (.slice A0_11 l0_11.length c0_11) := (blk_cell BK188.out 11).trans rfl
    have hcz30_12 : wc.cell? ⟨gb188, 12, none⟩ = some (.slice A0_12 l0_12.length c0_12) := (blk_cell BK188.out 12).trans rfl
    have hfz30_0 := blk_frozen BK188.out 0
    have hfz30_1 := blk_frozen BK188.out 1
    have hfz30_2 := blk_frozen BK188.out 2
    have hfz30_3 := blk_frozen BK188.out 3
    have hfz30_4 := blk_frozen BK188.out 4
    have hfz30_5 := blk_frozen BK188.out 5
    have hfz30_6 := blk_frozen BK188.out 6
    have hfz30_7 := blk_frozen BK188.out 7
    have hfz30_8 := blk_frozen BK188.out 8
    have hfz30_9 := blk_frozen BK188.out 9
    have hfz30_10 := blk_frozen BK188.out 10
    have hfz30_11 := blk_frozen BK188.out 11
    have hfz30_12 := blk_frozen BK188.out 12
    go_wp2_with (first | ((with_reducible refine gate_callee (f := 27) rfl ?_); refine goesL_ (some 43) rfl rfl Tryd.func27 (by kernel_rfl) rfl #[.int .i64 a0_4] rfl sqA ?_; (with_reducible refine (boarderref01_Right.calls _ _ _ A21.out).mono ?_); rintro e w' ⟨rfl, ⟨nd, rfl⟩⟩; refine ⟨_, rfl, ?_⟩))
    go_meet
    case rel => exact ⟨_, (true), sqI, H', ⟨by have := HJ1.out; first | omega | exact Nat.le_refl _⟩, ⟨sqK BK188.out⟩, ⟨sqB1 HB.out GE188.out⟩⟩
  subst c22
  have H1 : (if a0_5 < 0 then (boarderref04_Right.j1 kj1 true a0_0 a0_1 a0_2 a0_3 a0_4 a0_5 a0_6 a0_7 a0_8 a0_9 a0_10 l0_11 l0_12) else (if a0_5 > 65535 then (boarderref04_Right.j1 kj1 true a0_0 a0_1 a0_2 a0_3 a0_4 a0_5 a0_6 a0_7 a0_8 a0_9 a0_10 l0_11 l0_12) else (if a0_6 < 0 then (boarderref04_Right.j1 kj1 true a0_0 a0_1 a0_2 a0_3 a0_4 a0_5 a0_6 a0_7 a0_8 a0_9 a0_10 l0_11 l0_12) else (boarderref04_Right.j1 kj1 (decide (a0_6 > 65535)) a0_0 a0_1 a0_2 a0_3 a0_4 a0_5 a0_6 a0_7 a0_8 a0_9 a0_10 l0_11 l0_12)))) = some r := by rw [if_pos rfl] at H; exact H
  clear H
  have H := H1
  clear H1
  by_cases c23 : a0_5 < 0
  · rw [if_pos c23] at H
    have c23b0 : decide (a0_5 < 0) = true := decide_eq_true c23
    clear c23
    (first | rw [c23b0] | (simp only [i64_w, i32_w]; rw [c23b0]) | skip)
    have H' := Aside0.mk H
    clear H
    have hcz24_0 : wc.cell? ⟨gb188, 0, none⟩ = some (.int .i64 a0_0) := (blk_cell BK188.out 0).trans rfl
    have hcz24_1 : wc.cell? ⟨gb188, 1, none⟩ = some (.int .i64 a0_1) := (blk_cell BK188.out 1).trans rfl
    have hcz24_2 : wc.cell? ⟨gb188, 2, none⟩ = some (.int .i64 a0_2) := (blk_cell BK188.out 2).trans rfl
    have hcz24_3 : wc.cell? ⟨gb188, 3, none⟩ = some (.int .i64 a0_3) := (blk_cell BK188.out 3).trans rfl
    have hcz24_4 : wc.cell? ⟨gb188, 4, none⟩ = some (.int .i64 a0_4) := (blk_cell BK188.out 4).trans rfl
    have hcz24_5 : wc.cell? ⟨gb188, 5, none⟩ = some (.int .i64 a0_5) := (blk_cell BK188.out 5).trans rfl
    have hcz24_6 : wc.cell? ⟨gb188, 6, none⟩ = some (.int .i64 a0_6) := (blk_cell BK188.out 6).trans rfl
    have hcz24_7 : wc.cell? ⟨gb188, 7, none⟩ = some (.int .i64 a0_7) := (blk_cell BK188.out 7).trans rfl
    have hcz24_8 : wc.cell? ⟨gb188, 8, none⟩ = some (.int .i64 a0_8) := (blk_cell BK188.out 8).trans rfl
    have hcz24_9 : wc.cell? ⟨gb188, 9, none⟩ = some (.int .i64 a0_9) := (blk_cell BK188.out 9).trans rfl
    have hcz24_10 : wc.cell? ⟨gb188, 10, none⟩ = some (.int .i64 a0_10) := (blk_cell BK188.out 10).trans rfl
    have hcz24_11 : wc.cell? ⟨gb188, 11, none⟩ = some (.slice A0_11 l0_11.length c0_11) := (blk_cell BK188.out 11).trans rfl
    have hcz24_12 : wc.cell? ⟨gb188, 12, none⟩ = some (.slice A0_12 l0_12.length c0_12) := (blk_cell BK188.out 12).trans rfl
    have hfz24_0 := blk_frozen BK188.out 0
    have hfz24_1 := blk_frozen BK188.out 1
    have hfz24_2 := blk_frozen BK188.out 2
    have hfz24_3 := blk_frozen BK188.out 3
    have hfz24_4 := blk_frozen BK188.out 4
    have hfz24_5 := blk_frozen BK188.out 5
    have hfz24_6 := blk_frozen BK188.out 6
    have hfz24_7 := blk_frozen BK188.out 7
    have hfz24_8 := blk_frozen BK188.out 8
    have hfz24_9 := blk_frozen BK188.out 9
    have hfz24_10 := blk_frozen BK188.out 10
    have hfz24_11 := blk_frozen BK188.out 11
    have hfz24_12 := blk_frozen BK188.out 12
    go_wp2_with (first | ((with_reducible refine gate_callee (f := 27) rfl ?_); refine goesL_ (some 43) rfl rfl Tryd.func27 (by kernel_rfl) rfl #[.int .i64 a0_4] rfl sqA ?_; (with_reducible refine (boarderref01_Right.calls _ _ _ A21.out).mono ?_); rintro e w' ⟨rfl, ⟨nd, rfl⟩⟩; refine ⟨_, rfl, ?_⟩))
    go_meet
    case rel => exact ⟨_, (true), sqI, H', ⟨by have := HJ1.out; first | omega | exact Nat.le_refl _⟩, ⟨sqK BK188.out⟩, ⟨sqB1 HB.out GE188.out⟩⟩
  rw [if_neg c23] at H
  have c23b0 : decide (a0_5 < 0) = false := decide_eq_false c23
  clear c23
  (first | rw [c23b0] | (simp only [i64_w, i32_w]; rw [c23b0]) | skip)
  by_cases c25 : a0_5 > 65535
  · rw [if_pos c25] at H
    have c25b0 : decide (65535 < a0_5) = true := decide_eq_true c25
    clear c25
    have H' := Aside0.mk H
    clear H
    have hcz26_0 : wc.cell? ⟨gb188, 0, none⟩ = some (.int .i64 a0_0) := (blk_cell BK188.out 0).trans rfl
    have hcz26_1 : wc.cell? ⟨gb188, 1, none⟩ = some (.int .i64 a0_1) := (blk_cell BK188.out 1).trans rfl
    have hcz26_2 : wc.cell? ⟨gb188, 2, none⟩ = some (.int .i64 a0_2) := (blk_cell BK188.out 2).trans rfl
    have hcz26_3 : wc.cell? ⟨gb188, 3, none⟩ = some (.int .i64 a0_3) := (blk_cell BK188.out 3).trans rfl
    have hcz26_4 : wc.cell? ⟨gb188, 4, none⟩ = some (.int .i64 a0_4) := (blk_cell BK188.out 4).trans rfl
    have hcz26_5 : wc.cell? ⟨gb188, 5, none⟩ = some (.int .i64 a0_5) := (blk_cell BK188.out 5).trans rfl
    have hcz26_6 : wc.cell? ⟨gb188, 6, none⟩ = some (.int .i64 a0_6) := (blk_cell BK188.out 6).trans rfl
    have hcz26_7 : wc.cell? ⟨gb188, 7, none⟩ = some (.int .i64 a0_7) := (blk_cell BK188.out 7).trans rfl
    have hcz26_8 : wc.cell? ⟨gb188, 8, none⟩ = some (.int .i64 a0_8) := (blk_cell BK188.out 8).trans rfl
    have hcz26_9 : wc.cell? ⟨gb188, 9, none⟩ = some (.int .i64 a0_9) := (blk_cell BK188.out 9).trans rfl
    have hcz26_10 : wc.cell? ⟨gb188, 10, none⟩ = some (.int .i64 a0_10) := (blk_cell BK188.out 10).trans rfl
    have hcz26_11 : wc.cell? ⟨gb188, 11, none⟩ = some (.slice A0_11 l0_11.length c0_11) := (blk_cell BK188.out 11).trans rfl
    have hcz26_12 : wc.cell? ⟨gb188, 12, none⟩ = some (.slice A0_12 l0_12.length c0_12) := (blk_cell BK188.out 12).trans rfl
    have hfz26_0 := blk_frozen BK188.out 0
    have hfz26_1 := blk_frozen BK188.out 1
    have hfz26_2 := blk_frozen BK188.out 2
    have hfz26_3 := blk_frozen BK188.out 3
    have hfz26_4 := blk_frozen BK188.out 4
    have hfz26_5 := blk_frozen BK188.out 5
    have hfz26_6 := blk_frozen BK188.out 6
    have hfz26_7 := blk_frozen BK188.out 7
    have hfz26_8 := blk_frozen BK188.out 8
    have hfz26_9 := blk_frozen BK188.out 9
    have hfz26_10 := blk_frozen BK188.out 10
    have hfz26_11 := blk_frozen BK188.out 11
    have hfz26_12 := blk_frozen BK188.out 12
    go_wp2_with (first | ((with_reducible refine gate_callee (f := 27) rfl ?_); refine goesL_ (some 43) rfl rfl Tryd.func27 (by kernel_rfl) rfl #[.int .i64 a0_4] rfl sqA ?_; (with_reducible refine (boarderref01_Right.calls _ _ _ A21.out).mono ?_); rintro e w' ⟨rfl, ⟨nd, rfl⟩⟩; refine ⟨_, rfl, ?_⟩))
    go_meet
    case rel => exact ⟨_, (true), sqI, H', ⟨by have := HJ1.out; first | omega | exact Nat.le_refl _⟩, ⟨sqK BK188.out⟩, ⟨sqB1 HB.out GE188.out⟩⟩
  rw [if_neg c25] at H
  have c25b0 : decide (65535 < a0_5) = false := decide_eq_false c25
  clear c25
  by_cases c27 : a0_6 < 0
  · rw [if_pos c27] at H
    have c27b0 : decide (a0_6 < 0) = true := decide_eq_true c27
    clear c27
    have H' := Aside0.mk H
    clear H
    have hcz28_0 : wc.cell? ⟨gb188, 0, none⟩ = some (.int .i64 a0_0) := (blk_cell BK188.out 0).trans rfl
    have hcz28_1 : wc.cell? ⟨gb188, 1, none⟩ = some (.int .i64 a0_1) := (blk_cell BK188.out 1).trans rfl
    have hcz28_2 : wc.cell? ⟨gb188, 2, none⟩ = some (.int .i64 a0_2) := (blk_cell BK188.out 2).trans rfl
    have hcz28_3 : wc.cell? ⟨gb188, 3, none⟩ = some (.int .i64 a0_3) := (blk_cell BK188.out 3).trans rfl
    have hcz28_4 : wc.cell? ⟨gb188, 4, none⟩ = some (.int .i64 a0_4) := (blk_cell BK188.out 4).trans rfl
    have hcz28_5 : wc.cell? ⟨gb188, 5, none⟩ = some (.int .i64 a0_5) := (blk_cell BK188.out 5).trans rfl
    have hcz28_6 : wc.cell? ⟨gb188, 6, none⟩ = some (.int .i64 a0_6) := (blk_cell BK188.out 6).trans rfl
    have hcz28_7 : wc.cell? ⟨gb188, 7, none⟩ = some (.int .i64 a0_7) := (blk_cell BK188.out 7).trans rfl
    have hcz28_8 : wc.cell? ⟨gb188, 8, none⟩ = some (.int .i64 a0_8) := (blk_cell BK188.out 8).trans rfl
    have hcz28_9 : wc.cell? ⟨gb188, 9, none⟩ = some (.int .i64 a0_9) := (blk_cell BK188.out 9).trans rfl
    have hcz28_10 : wc.cell? ⟨gb188, 10, none⟩ = some (.int .i64 a0_10) := (blk_cell BK188.out 10).trans rfl
    have hcz28_11 : wc.cell? ⟨gb188, 11, none⟩ = some (.slice A0_11 l0_11.length c0_11) := (blk_cell BK188.out 11).trans rfl
    have hcz28_12 : wc.cell? ⟨gb188, 12, none⟩ = some (.slice A0_12 l0_12.length c0_12) := (blk_cell BK188.out 12).trans rfl
    have hfz28_0 := blk_frozen BK188.out 0
    have hfz28_1 := blk_frozen BK188.out 1
    have hfz28_2 := blk_frozen BK188.out 2
    have hfz28_3 := blk_frozen BK188.out 3
    have hfz28_4 := blk_frozen BK188.out 4
    have hfz28_5 := blk_frozen BK188.out 5
    have hfz28_6 := blk_frozen BK188.out 6
    have hfz28_7 := blk_frozen BK188.out 7
    have hfz28_8 := blk_frozen BK188.out 8
    have hfz28_9 := blk_frozen BK188.out 9
    have hfz28_10 := blk_frozen BK188.out 10
    have hfz28_11 := blk_frozen BK188.out 11
    have hfz28_12 := blk_frozen BK188.out 12
    go_wp2_with (first | ((with_reducible refine gate_callee (f := 27) rfl ?_); refine goesL_ (some 43) rfl rfl Tryd.func27 (by kernel_rfl) rfl #[.int .i64 a0_4] rfl sqA ?_; (with_reducible refine (boarderref01_Right.calls _ _ _ A21.out).mono ?_); rintro e w' ⟨rfl, ⟨nd, rfl⟩⟩; refine ⟨_, rfl, ?_⟩))
    go_meet
    case rel => exact ⟨_, (true), sqI, H', ⟨by have := HJ1.out; first | omega | exact Nat.le_refl _⟩, ⟨sqK BK188.out⟩, ⟨sqB1 HB.out GE188.out⟩⟩
  rw [if_neg c27] at H
  have c27b0 : decide (a0_6 < 0) = false := decide_eq_false c27
  clear c27
  have H' := Aside0.mk H
  clear H
  have hcz29_0 : wc.cell? ⟨gb188, 0, none⟩ = some (.int .i64 a0_0) := (blk_cell BK188.out 0).trans rfl
  have hcz29_1 : wc.cell? ⟨gb188, 1, none⟩ = some (.int .i64 a0_1) := (blk_cell BK188.out 1).trans rfl
  have hcz29_2 : wc.cell? ⟨gb188, 2, none⟩ = some (.int .i64 a0_2) := (blk_cell BK188.out 2).trans rfl
  have hcz29_3 : wc.cell? ⟨gb188, 3, none⟩ = some (.int .i64 a0_3) := (blk_cell BK188.out 3).trans rfl
  have hcz29_4 : wc.cell? ⟨gb188, 4, none⟩ = some (.int .i64 a0_4) := (blk_cell BK188.out 4).trans rfl
  have hcz29_5 : wc.cell? ⟨gb188, 5, none⟩ = some (.int .i64 a0_5) := (blk_cell BK188.out 5).trans rfl
  have hcz29_6 : wc.cell? ⟨gb188, 6, none⟩ = some (.int .i64 a0_6) := (blk_cell BK188.out 6).trans rfl
  have hcz29_7 : wc.cell? ⟨gb188, 7, none⟩ = some (.int .i64 a0_7) := (blk_cell BK188.out 7).trans rfl
  have hcz29_8 : wc.cell? ⟨gb188, 8, none⟩ = some (.int .i64 a0_8) := (blk_cell BK188.out 8).trans rfl
  have hcz29_9 : wc.cell? ⟨gb188, 9, none⟩ = some (.int .i64 a0_9) := (blk_cell BK188.out 9).trans rfl
  have hcz29_10 : wc.cell? ⟨gb188, 10, none⟩ = some (.int .i64 a0_10) := (blk_cell BK188.out 10).trans rfl
  have hcz29_11 : wc.cell? ⟨gb188, 11, none⟩ = some (.slice A0_11 l0_11.length c0_11) := (blk_cell BK188.out 11).trans rfl
  have hcz29_12 : wc.cell? ⟨gb188, 12, none⟩ = some (.slice A0_12 l0_12.length c0_12) := (blk_cell BK188.out 12).trans rfl
  have hfz29_0 := blk_frozen BK188.out 0
  have hfz29_1 := blk_frozen BK188.out 1
  have hfz29_2 := blk_frozen BK188.out 2
  have hfz29_3 := blk_frozen BK188.out 3
  have hfz29_4 := blk_frozen BK188.out 4
  have hfz29_5 := blk_frozen BK188.out 5
  have hfz29_6 := blk_frozen BK188.out 6
  have hfz29_7 := blk_frozen BK188.out 7
  have hfz29_8 := blk_frozen BK188.out 8
  have hfz29_9 := blk_frozen BK188.out 9
  have hfz29_10 := blk_frozen BK188.out 10
  have hfz29_11 := blk_frozen BK188.out 11
  have hfz29_12 := blk_frozen BK188.out 12
  go_wp2_with (first | ((with_reducible refine gate_callee (f := 27) rfl ?_); refine goesL_ (some 43) rfl rfl Tryd.func27 (by kernel_rfl) rfl #[.int .i64 a0_4] rfl sqA ?_; (with_reducible refine (boarderref01_Right.calls _ _ _ A21.out).mono ?_); rintro e w' ⟨rfl, ⟨nd, rfl⟩⟩; refine ⟨_, rfl, ?_⟩))
  go_meet
  case rel => exact ⟨_, (decide (a0_6 > 65535)), sqI, H', ⟨by have := HJ1.out; first | omega | exact Nat.le_refl _⟩, ⟨sqK BK188.out⟩, ⟨sqB1 HB.out GE188.out⟩⟩
 clear HC20
 try clear c1
 try clear c2
 try clear p2
 try clear c4
 try clear c4b0
 try clear c6
 try clear c6b0
 try clear c8
 try clear c8b0
 try clear c10
 try clear c10b0
 try clear c12
 try clear c12b0
 try clear c14
 try clear c14b0
 try clear c16
 try clear c16b0
 try clear c19
 try clear c22
 try clear c23
 try clear c23b0
 try clear c25
 try clear c25b0
 try clear c27
 try clear c27b0
 try clear hcz11_0 hcz11_1 hcz11_10 hcz11_11 hcz11_12 hcz11_2 hcz11_3 hcz11_4 hcz11_5 hcz11_6 hcz11_7 hcz11_8 hcz11_9
 try clear hcz13_0 hcz13_1 hcz13_10 hcz13_11 hcz13_12 hcz13_2 hcz13_3 hcz13_4 hcz13_5 hcz13_6 hcz13_7 hcz13_8 hcz13_9
 try clear hcz15_0 hcz15_1 hcz15_10 hcz15_11 hcz15_12 hcz15_2 hcz15_3 hcz15_4 hcz15_5 hcz15_6 hcz15_7 hcz15_8 hcz15_9
 try clear hcz17_0 hcz17_1 hcz17_10 hcz17_11 hcz17_12 hcz17_2 hcz17_3 hcz17_4 hcz17_5 hcz17_6 hcz17_7 hcz17_8 hcz17_9
 try clear hcz18_0 hcz18_1 hcz18_10 hcz18_11 hcz18_12 hcz18_2 hcz18_3 hcz18_4 hcz18_5 hcz18_6 hcz18_7 hcz18_8 hcz18_9
 try clear hcz24_0 hcz24_1 hcz24_10 hcz24_11 hcz24_12 hcz24_2 hcz24_3 hcz24_4 hcz24_5 hcz24_6 hcz24_7 hcz24_8 hcz24_9
 try clear hcz26_0 hcz26_1 hcz26_10 hcz26_11 hcz26_12 hcz26_2 hcz26_3 hcz26_4 hcz26_5 hcz26_6 hcz26_7 hcz26_8 hcz26_9
 try clear hcz28_0 hcz28_1 hcz28_10 hcz28_11 hcz28_12 hcz28_2 hcz28_3 hcz28_4 hcz28_5 hcz28_6 hcz28_7 hcz28_8 hcz28_9
 try clear hcz29_0 hcz29_1 hcz29_10 hcz29_11 hcz29_12 hcz29_2 hcz29_3 hcz29_4 hcz29_5 hcz29_6 hcz29_7 hcz29_8 hcz29_9
 try clear hcz30_0 hcz30_1 hcz30_10 hcz30_11 hcz30_12 hcz30_2 hcz30_3 hcz30_4 hcz30_5 hcz30_6 hcz30_7 hcz30_8 hcz30_9
 try clear hcz5_0 hcz5_1 hcz5_10 hcz5_11 hcz5_12 hcz5_2 hcz5_3 hcz5_4 hcz5_5 hcz5_6 hcz5_7 hcz5_8 hcz5_9
 try clear hcz7_0 hcz7_1 hcz7_10 hcz7_11 hcz7_12 hcz7_2 hcz7_3 hcz7_4 hcz7_5 hcz7_6 hcz7_7 hcz7_8 hcz7_9
 try clear hcz9_0 hcz9_1 hcz9_10 hcz9_11 hcz9_12 hcz9_2 hcz9_3 hcz9_4 hcz9_5 hcz9_6 hcz9_7 hcz9_8 hcz9_9
 try clear hfz11_0 hfz11_1 hfz11_10 hfz11_11 hfz11_12 hfz11_2 hfz11_3 hfz11_4 hfz11_5 hfz11_6 hfz11_7 hfz11_8 hfz11_9
 try clear hfz13_0 hfz13_1 hfz13_10 hfz13_11 hfz13_12 hfz13_2 hfz13_3 hfz13_4 hfz13_5 hfz13_6 hfz13_7 hfz13_8 hfz13_9
 try clear hfz15_0 hfz15_1 hfz15_10 hfz15_11 hfz15_12 hfz15_2 hfz15_3 hfz15_4 hfz15_5 hfz15_6 hfz15_7 hfz15_8 hfz15_9
 try clear hfz17_0 hfz17_1 hfz17_10 hfz17_11 hfz17_12 hfz17_2 hfz17_3 hfz17_4 hfz17_5 hfz17_6 hfz17_7 hfz17_8 hfz17_9
 try clear hfz18_0 hfz18_1 hfz18_10 hfz18_11 hfz18_12 hfz18_2 hfz18_3 hfz18_4 hfz18_5 hfz18_6 hfz18_7 hfz18_8 hfz18_9
 try clear hfz24_0 hfz24_1 hfz24_10 hfz24_11 hfz24_12 hfz24_2 hfz24_3 hfz24_4 hfz24_5 hfz24_6 hfz24_7 hfz24_8 hfz24_9
 try clear hfz26_0 hfz26_1 hfz26_10 hfz26_11 hfz26_12 hfz26_2 hfz26_3 hfz26_4 hfz26_5 hfz26_6 hfz26_7 hfz26_8 hfz26_9
 try clear hfz28_0 hfz28_1 hfz28_10 hfz28_11 hfz28_12 hfz28_2 hfz28_3 hfz28_4 hfz28_5 hfz28_6 hfz28_7 hfz28_8 hfz28_9
 try clear hfz29_0 hfz29_1 hfz29_10 hfz29_11 hfz29_12 hfz29_2 hfz29_3 hfz29_4 hfz29_5 hfz29_6 hfz29_7 hfz29_8 hfz29_9
 try clear hfz30_0 hfz30_1 hfz30_10 hfz30_11 hfz30_12 hfz30_2 hfz30_3 hfz30_4 hfz30_5 hfz30_6 hfz30_7 hfz30_8 hfz30_9
 try clear hfz5_0 hfz5_1 hfz5_10 hfz5_11 hfz5_12 hfz5_2 hfz5_3 hfz5_4 hfz5_5 hfz5_6 hfz5_7 hfz5_8 hfz5_9
 try clear hfz7_0 hfz7_1 hfz7_10 hfz7_11 hfz7_12 hfz7_2 hfz7_3 hfz7_4 hfz7_5 hfz7_6 hfz7_7 hfz7_8 hfz7_9
 try clear hfz9_0 hfz9_1 hfz9_10 hfz9_11 hfz9_12 hfz9_2 hfz9_3 hfz9_4 hfz9_5 hfz9_6 hfz9_7 hfz9_8 hfz9_9
 try clear p2
 obtain ⟨kq, x64_19, rfl, HA, HJ19, BK188, HB⟩ := hcut
 cases kq with
 | zero => exact absurd HA.out (by simp [boarderref04_Right.j1])
 | succ kj19 => ?_
 have H := HA.out
 clear HA
 simp only [boarderref04_Right.j1] at H
 by_cases c31 : x64_19 = true
 · subst c31
   have H1 : (some false) = some r := by rw [if_pos rfl] at H; exact H
   clear H
   have H := H1
   clear H1
   obtain rfl := Option.some.inj H
   go_wp2
   go_ret
   exact ⟨sqE, sqB1 HB.out GE188.out⟩
 replace c31 := Bool.eq_false_iff.mpr c31
 subst c31
 have H1 : ((boarderref01_Right.f a0_7).bind fun t190 => (if t190 = true then ((boarderref01_Right.f a0_8).bind fun t191 => (if t191 = true then ((boarderref01_Right.f a0_9).bind fun t192 => (if t192 = true then ((boarderref01_Right.f a0_10).bind fun t193 => (boarderref04_Right.j2 kj19 (!t193) a0_0 a0_1 a0_2 a0_3 a0_4 a0_5 a0_6 a0_7 a0_8 a0_9 a0_10 l0_11 l0_12)) else (boarderref04_Right.j2 kj19 true a0_0 a0_1 a0_2 a0_3 a0_4 a0_5 a0_6 a0_7 a0_8 a0_9 a0_10 l0_11 l0_12))) else (boarderref04_Right.j2 kj19 true a0_0 a0_1 a0_2 a0_3 a0_4 a0_5 a0_6 a0_7 a0_8 a0_9 a0_10 l0_11 l0_12))) else (boarderref04_Right.j2 kj19 true a0_0 a0_1 a0_2 a0_3 a0_4 a0_5 a0_6 a0_7 a0_8 a0_9 a0_10 l0_11 l0_12))) = some r := by rw [if_neg (show ¬ (false = true) by decide)] at H; exact H
 clear H
 have H := H1
 clear H1
 have HC32 := Aside0.mk H
 clear H
 go_upto_region 5 with (fail)
 go_cut [86] (fun v86 wc => ∃ (kq : Nat) (x86_31 : Bool), v86 = .bool x86_31 ∧ Aside0 (boarderref04_Right.j2 kq x86_31 a0_0 a0_1 a0_2 a0_3 a0_4 a0_5 a0_6 a0_7 a0_8 a0_9 a0_10 l0_11 l0_12 = some r) ∧ Aside0 (kq ≤ kj19) ∧ Aside0 (wc.heap[gb188]? = some (.cells #[.int .i64 a0_0, .int .i64 a0_1, .int .i64 a0_2, .int .i64 a0_3, .int .i64 a0_4, .int .i64 a0_5, .int .i64 a0_6, .int .i64 a0_7, .int .i64 a0_8, .int .i64 a0_9, .int .i64 a0_10, (.slice A0_11 l0_11.length c0_11), (.slice A0_12 l0_12.length c0_12)] 33 (0, 0))) ∧ Aside0 (Below w.heap.size w wc))
 case first =>
  have H := HC32.out
  clear HC32
  replace H := Option.bind_eq_some_iff.mp H
  obtain ⟨t190, A330, H⟩ := H
  replace H : (if t190 = true then ((boarderref01_Right.f a0_8).bind fun t191 => (if t191 = true then ((boarderref01_Right.f a0_9).bind fun t192 => (if t192 = true then ((boarderref01_Right.f a0_10).bind fun t193 => (boarderref04_Right.j2 kj19 (!t193) a0_0 a0_1 a0_2 a0_3 a0_4 a0_5 a0_6 a0_7 a0_8 a0_9 a0_10 l0_11 l0_12)) else (boarderref04_Right.j2 kj19 true a0_0 a0_1 a0_2 a0_3 a0_4 a0_5 a0_6 a0_7 a0_8 a0_9 a0_10 l0_11 l0_12))) else (boarderref04_Right.j2 kj19 true a0_0 a0_1 a0_2 a0_3 a0_4 a0_5 a0_6 a0_7 a0_8 a0_9 a0_10 l0_11 l0_12))) else (boarderref04_Right.j2 kj19 true a0_0 a0_1 a0_2 a0_3 a0_4 a0_5 a0_6 a0_7 a0_8 a0_9 a0_10 l0_11 l0_12)) = some r := H
  have A33 := Aside0.mk A330
  clear A330
  by_cases c34 : t190 = true
  rotate_left
  · replace c34 := Bool.eq_false_iff.mpr c34
    subst c34
    have H1 : (boarderref04_Right.j2 kj19 true a0_0 a0_1 a0_2 a0_3 a0_4 a0_5 a0_6 a0_7 a0_8 a0_9 a0_10 l0_11 l0_12) = some r := by rw [if_neg (show ¬ (false = true) by decide)] at H; exact H
    clear H
    have H := H1
    clear H1
    have H' := Aside0.mk H
    clear H
    have hcz43_0 : wc.cell? ⟨gb188, 0, none⟩ = some (.int .i64 a0_0) := (blk_cell BK188.out 0).trans rfl
    have hcz43_1 : wc.cell? ⟨gb188, 1, none⟩ = some (.int .i64 a0_1) := (blk_cell BK188.out 1).trans rfl
    have hcz43_2 : wc.cell? ⟨gb188, 2, none⟩ = some (.int .i64 a0_2) := (blk_cell BK188.out 2).trans rfl
    have hcz43_3 : wc.cell? ⟨gb188, 3, none⟩ = some (.int .i64 a0_3) := (blk_cell BK188.out 3).trans rfl
    have hcz43_4 : wc.cell? ⟨gb188, 4, none⟩ = some (.int .i64 a0_4) := (blk_cell BK188.out 4).trans rfl
    have hcz43_5 : wc.cell? ⟨gb188, 5, none⟩ = some (.int .i64 a0_5) := (blk_cell BK188.out 5).trans rfl
    have hcz43_6 : wc.cell? ⟨gb188, 6, none⟩ = some (.int .i64 a0_6) := (blk_cell BK188.out 6).trans rfl
    have hcz43_7 : wc.cell? ⟨gb188, 7, none⟩ = some (.int .i64 a0_7) := (blk_cell BK188.out 7).trans rfl
    have hcz43_8 : wc.cell? ⟨gb188, 8, none⟩ = some (.int .i64 a0_8) := (blk_cell BK188.out 8).trans rfl
    have hcz43_9 : wc.cell? ⟨gb188, 9, none⟩ = some (.int .i64 a0_9) := (blk_cell BK188.out 9).trans rfl
    have hcz43_10 : wc.cell? ⟨gb188, 10, none⟩ = some (.int .i64 a0_10) := (blk_cell BK188.out 10).trans rfl
    have hcz43_11 : wc.cell? ⟨gb188, 11, none⟩ = some (.slice A0_11 l0_11.length c0_11) := (blk_cell BK188.out 11).trans rfl
    have hcz43_12 : wc.cell? ⟨gb188, 12, none⟩ = some (.slice A0_12 l0_12.length c0_12) := (blk_cell BK188.out 12).trans rfl
    have hfz43_0 := blk_frozen BK188.out 0
    have hfz43_1 := blk_frozen BK188.out 1
    have hfz43_2 := blk_frozen BK188.out 2
    have hfz43_3 := blk_frozen BK188.out 3
    have hfz43_4 := blk_frozen BK188.out 4
    have hfz43_5 := blk_frozen BK188.out 5
    have hfz43_6 := blk_frozen BK188.out 6
    have hfz43_7 := blk_frozen BK188.out 7
    have hfz43_8 := blk_frozen BK188.out 8
    have hfz43_9 := blk_frozen BK188.out 9
    have hfz43_10 := blk_frozen BK188.out 10
    have hfz43_11 := blk_frozen BK188.out 11
    have hfz43_12 := blk_frozen BK188.out 12
    go_wp2_with (first | ((with_reducible refine gate_callee (f := 27) rfl ?_); refine goesL_ (some 67) rfl rfl Tryd.func27 (by kernel_rfl) rfl #[.int .i64 a0_7] rfl sqA ?_; (with_reducible refine (boarderref01_Right.calls _ _ _ A33.out).mono ?_); rintro e w' ⟨rfl, ⟨nd, rfl⟩⟩; refine ⟨_, rfl, ?_⟩))
    go_meet
    case rel => exact ⟨_, (true), sqI, H', ⟨by have := HJ1.out; have := HJ19.out; first | omega | exact Nat.le_refl _⟩, ⟨sqK BK188.out⟩, ⟨sqB1 HB.out GE188.out⟩⟩
  subst c34
  have H1 : ((boarderref01_Right.f a0_8).bind fun t191 => (if t191 = true then ((boarderref01_Right.f a0_9).bind fun t192 => (if t192 = true then ((boarderref01_Right.f a0_10).bind fun t193 => (boarderref04_Right.j2 kj19 (!t193) a0_0 a0_1 a0_2 a0_3 a0_4 a0_5 a0_6 a0_7 a0_8 a0_9 a0_10 l0_11 l0_12)) else (boarderref04_Right.j2 kj19 true a0_0 a0_1 a0_2 a0_3 a0_4 a0_5 a0_6 a0_7 a0_8 a0_9 a0_10 l0_11 l0_12))) else (boarderref04_Right.j2 kj19 true a0_0 a0_1 a0_2 a0_3 a0_4 a0_5 a0_6 a0_7 a0_8 a0_9 a0_10 l0_11 l0_12))) = some r := by rw [if_pos rfl] at H; exact H
  clear H
  have H := H1
  clear H1
  replace H := Option.bind_eq_some_iff.mp H
  obtain ⟨t191, A350, H⟩ := H
  replace H : (if t191 = true then ((boarderref01_Right.f a0_9).bind fun t192 => (if t192 = true then ((boarderref01_Right.f a0_10).bind fun t193 => (boarderref04_Right.j2 kj19 (!t193) a0_0 a0_1 a0_2 a0_3 a0_4 a0_5 a0_6 a0_7 a0_8 a0_9 a0_10 l0_11 l0_12)) else (boarderref04_Right.j2 kj19 true a0_0 a0_1 a0_2 a0_3 a0_4 a0_5 a0_6 a0_7 a0_8 a0_9 a0_10 l0_11 l0_12))) else (boarderref04_Right.j2 kj19 true a0_0 a0_1 a0_2 a0_3 a0_4 a0_5 a0_6 a0_7 a0_8 a0_9 a0_10 l0_11 l0_12)) = some r := H
  have A35 := Aside0.mk A350
  clear A350
  by_cases c36 : t191 = true
  rotate_left
  · replace c36 := Bool.eq_false_iff.mpr c36
    subst c36
    have H1 : (boarderref04_Right.j2 kj19 true a0_0 a0_1 a0_2 a0_3 a0_4 a0_5 a0_6 a0_7 a0_8 a0_9 a0_10 l0_11 l0_12) = some r := by rw [if_neg (show ¬ (false = true) by decide)] at H; exact H
    clear H
    have H := H1
    clear H1
    have H' := Aside0.mk H
    clear H
    have hcz42_0 : wc.cell? ⟨gb188, 0, none⟩ = some (.int .i64 a0_0) := (blk_cell BK188.out 0).trans rfl
    have hcz42_1 : wc.cell? ⟨gb188, 1, none⟩ = some (.int .i64 a0_1) := (blk_cell BK188.out 1).trans rfl
    have hcz42_2 : wc.cell? ⟨gb188, 2, none⟩ = some (.int .i64 a0_2) := (blk_cell BK188.out 2).trans rfl
    have hcz42_3 : wc.cell? ⟨gb188, 3, none⟩ = some (.int .i64 a0_3) := (blk_cell BK188.out 3).trans rfl
    have hcz42_4 : wc.cell? ⟨gb188, 4, none⟩ = some (.int .i64 a0_4) := (blk_cell BK188.out 4).trans rfl
    have hcz42_5 : wc.cell? ⟨gb188, 5, none⟩ = some (.int .i64 a0_5) := (blk_cell BK188.out 5).trans rfl
    have hcz42_6 : wc.cell? ⟨gb188, 6, none⟩ = some (.int .i64 a0_6) := (blk_cell BK188.out 6).trans rfl
    have hcz42_7 : wc.cell? ⟨gb188, 7, none⟩ = some (.int .i64 a0_7) := (blk_cell BK188.out 7).trans rfl
    have hcz42_8 : wc.cell? ⟨gb188, 8, none⟩ = some (.int .i64 a0_8) := (blk_cell BK188.out 8).trans rfl
    have hcz42_9 : wc.cell? ⟨gb188, 9, none⟩ = some (.int .i64 a0_9) := (blk_cell BK188.out 9).trans rfl
    have hcz42_10 : wc.cell? ⟨gb188, 10, none⟩ = some (.int .i64 a0_10) := (blk_cell BK188.out 10).trans rfl
    have hcz42_11 : wc.cell? ⟨gb188, 11, none⟩ = some (.slice A0_11 l0_11.length c0_11) := (blk_cell BK188.out 11).trans rfl
    have hcz42_12 : wc.cell? ⟨gb188, 12, none⟩ = some (.slice A0_12 l0_12.length c0_12) := (blk_cell BK188.out 12).trans rfl
    have hfz42_0 := blk_frozen BK188.out 0
    have hfz42_1 := blk_frozen BK188.out 1
    have hfz42_2 := blk_frozen BK188.out 2
    have hfz42_3 := blk_frozen BK188.out 3
    have hfz42_4 := blk_frozen BK188.out 4
    have hfz42_5 := blk_frozen BK188.out 5
    have hfz42_6 := blk_frozen BK188.out 6
    have hfz42_7 := blk_frozen BK188.out 7
    have hfz42_8 := blk_frozen BK188.out 8
    have hfz42_9 := blk_frozen BK188.out 9
    have hfz42_10 := blk_frozen BK188.out 10
    have hfz42_11 := blk_frozen BK188.out 11
    have hfz42_12 := blk_frozen BK188.out 12
    go_wp2_with (first | ((with_reducible refine gate_callee (f := 27) rfl ?_); refine goesL_ (some 67) rfl rfl Tryd.func27 (by kernel_rfl) rfl #[.int .i64 a0_7] rfl sqA ?_; (with_reducible refine (boarderref01_Right.calls _ _ _ A33.out).mono ?_); rintro e w' ⟨rfl, ⟨nd, rfl⟩⟩; refine ⟨_, rfl, ?_⟩) | (go_at_call 27; (with_reducible refine (boarderref01_Right.calls _ _ _ A35.out).mono ?_); rintro e w' ⟨rfl, ⟨nd, rfl⟩⟩))
    go_meet
    case rel => exact ⟨_, (true), sqI, H', ⟨by have := HJ1.out; have := HJ19.out; first | omega | exact Nat.le_refl _⟩, ⟨sqK BK188.out⟩, ⟨sqB1 HB.out GE188.out⟩⟩
  subst c36
  have H1 : ((boarderref01_Right.f a0_9).bind fun t192 => (if t192 = true then ((boarderref01_Right.f a0_10).bind fun t193 => (boarderref04_Right.j2 kj19 (!t193) a0_0 a0_1 a0_2 a0_3 a0_4 a0_5 a0_6 a0_7 a0_8 a0_9 a0_10 l0_11 l0_12)) else (boarderref04_Right.j2 kj19 true a0_0 a0_1 a0_2 a0_3 a0_4 a0_5 a0_6 a0_7 a0_8 a0_9 a0_10 l0_11 l0_12))) = some r := by rw [if_pos rfl] at H; exact H
  clear H
  have H := H1
  clear H1
  replace H := Option.bind_eq_some_iff.mp H
  obtain ⟨t192, A370, H⟩ := H
  replace H : (if t192 = true then ((boarderref01_Right.f a0_10).bind fun t193 => (boarderref04_Right.j2 kj19 (!t193) a0_0 a0_1 a0_2 a0_3 a0_4 a0_5 a0_6 a0_7 a0_8 a0_9 a0_10 l0_11 l0_12)) else (boarderref04_Right.j2 kj19 true a0_0 a0_1 a0_2 a0_3 a0_4 a0_5 a0_6 a0_7 a0_8 a0_9 a0_10 l0_11 l0_12)) = some r := H
  have A37 := Aside0.mk A370
  clear A370
  by_cases c38 : t192 = true
  rotate_left
  · replace c38 := Bool.eq_false_iff.mpr c38
    subst c38
    have H1 : (boarderref04_Right.j2 kj19 true a0_0 a0_1 a0_2 a0_3 a0_4 a0_5 a0_6 a0_7 a0_8 a0_9 a0_10 l0_11 l0_12) = some r := by rw [if_neg (show ¬ (false = true) by decide)] at H; exact H
    clear H
    have H := H1
    clear H1
    have H' := Aside0.mk H
    clear H
    have hcz41_0 : wc.cell? ⟨gb188, 0, none⟩ = some (.int .i64 a0_0) := (blk_cell BK188.out 0).trans rfl
    have hcz41_1 : wc.cell? ⟨gb188, 1, none⟩ = some (.int .i64 a0_1) := (blk_cell BK188.out 1).trans rfl
    have hcz41_2 : wc.cell? ⟨gb188, 2, none⟩ = some (.int .i64 a0_2) := (blk_cell BK188.out 2).trans rfl
    have hcz41_3 : wc.cell? ⟨gb188, 3, none⟩ = some (.int .i64 a0_3) := (blk_cell BK188.out 3).trans rfl
    have hcz41_4 : wc.cell? ⟨gb188, 4, none⟩ = some (.int .i64 a0_4) := (blk_cell BK188.out 4).trans rfl
    have hcz41_5 : wc.cell? ⟨gb188, 5, none⟩ = some (.int .i64 a0_5) := (blk_cell BK188.out 5).trans rfl
    have hcz41_6 : wc.cell? ⟨gb188, 6, none⟩ = some (.int .i64 a0_6) := (blk_cell BK188.out 6).trans rfl
    have hcz41_7 : wc.cell? ⟨gb188, 7, none⟩ = some (.int .i64 a0_7) := (blk_cell BK188.out 7).trans rfl
    have hcz41_8 : wc.cell? ⟨gb188, 8, none⟩ = some (.int .i64 a0_8) := (blk_cell BK188.out 8).trans rfl
    have hcz41_9 : wc.cell? ⟨gb188, 9, none⟩ = some (.int .i64 a0_9) := (blk_cell BK188.out 9).trans rfl
    have hcz41_10 : wc.cell? ⟨gb188, 10, none⟩ = some (.int .i64 a0_10) := (blk_cell BK188.out 10).trans rfl
    have hcz41_11 : wc.cell? ⟨gb188, 11, none⟩ = some (.slice A0_11 l0_11.length c0_11) := (blk_cell BK188.out 11).trans rfl
    have hcz41_12 : wc.cell? ⟨gb188, 12, none⟩ = some (.slice A0_12 l0_12.length c0_12) := (blk_cell BK188.out 12).trans rfl
    have hfz41_0 := blk_frozen BK188.out 0
    have hfz41_1 := blk_frozen BK188.out 1
    have hfz41_2 := blk_frozen BK188.out 2
    have hfz41_3 := blk_frozen BK188.out 3
    have hfz41_4 := blk_frozen BK188.out 4
    have hfz41_5 := blk_frozen BK188.out 5
    have hfz41_6 := blk_frozen BK188.out 6
    have hfz41_7 := blk_frozen BK188.out 7
    have hfz41_8 := blk_frozen BK188.out 8
    have hfz41_9 := blk_frozen BK188.out 9
    have hfz41_10 := blk_frozen BK188.out 10
    have hfz41_11 := blk_frozen BK188.out 11
    have hfz41_12 := blk_frozen BK188.out 12
    go_wp2_with (first | ((with_reducible refine gate_callee (f := 27) rfl ?_); refine goesL_ (some 67) rfl rfl Tryd.func27 (by kernel_rfl) rfl #[.int .i64 a0_7] rfl sqA ?_; (with_reducible refine (boarderref01_Right.calls _ _ _ A33.out).mono ?_); rintro e w' ⟨rfl, ⟨nd, rfl⟩⟩; refine ⟨_, rfl, ?_⟩) | (go_at_call 27; (with_reducible refine (boarderref01_Right.calls _ _ _ A35.out).mono ?_); rintro e w' ⟨rfl, ⟨nd, rfl⟩⟩) | (go_at_call 27; (with_reducible refine (boarderref01_Right.calls _ _ _ A37.out).mono ?_); rintro e w' ⟨rfl, ⟨nd, rfl⟩⟩))
    go_meet
    case rel => exact ⟨_, (true), sqI, H', ⟨by have := HJ1.out; have := HJ19.out; first | omega | exact Nat.le_refl _⟩, ⟨sqK BK188.out⟩, ⟨sqB1 HB.out GE188.out⟩⟩
  subst c38
  have H1 : ((boarderref01_Right.f a0_10).bind fun t193 => (boarderref04_Right.j2 kj19 (!t193) a0_0 a0_1 a0_2 a0_3 a0_4 a0_5 a0_6 a0_7 a0_8 a0_9 a0_10 l0_11 l0_12)) = some r := by rw [if_pos rfl] at H; exact H
  clear H
  have H := H1
  clear H1
  replace H := Option.bind_eq_some_iff.mp H
  obtain ⟨t193, A390, H⟩ := H
  replace H : (boarderref04_Right.j2 kj19 (!t193) a0_0 a0_1 a0_2 a0_3 a0_4 a0_5 a0_6 a0_7 a0_8 a0_9 a0_10 l0_11 l0_12) = some r := H
  have A39 := Aside0.mk A390
  clear A390
  have H' := Aside0.mk H
  clear H
  have hcz40_0 : wc.cell? ⟨gb188, 0, none⟩ = some (.int .i64 a0_0) := (blk_cell BK188.out 0).trans rfl
  have hcz40_1 : wc.cell? ⟨gb188, 1, none⟩ = some (.int .i64 a0_1) := (blk_cell BK188.out 1).trans rfl
  have hcz40_2 : wc.cell? ⟨gb188, 2, none⟩ = some (.int .i64 a0_2) := (blk_cell BK188.out 2).trans rfl
  have hcz40_3 : wc.cell? ⟨gb188, 3, none⟩ = some (.int .i64 a0_3) := (blk_cell BK188.out 3).trans rfl
  have hcz40_4 : wc.cell? ⟨gb188, 4, none⟩ = some (.int .i64 a0_4) := (blk_cell BK188.out 4).trans rfl
  have hcz40_5 : wc.cell? ⟨gb188, 5, none⟩ = some (.int .i64 a0_5) := (blk_cell BK188.out 5).trans rfl
  have hcz40_6 : wc.cell? ⟨gb188, 6, none⟩ = some (.int .i64 a0_6) := (blk_cell BK188.out 6).trans rfl
  have hcz40_7 : wc.cell? ⟨gb188, 7, none⟩ = some (.int .i64 a0_7) := (blk_cell BK188.out 7).trans rfl
  have hcz40_8 : wc.cell? ⟨gb188, 8, none⟩ = some (.int .i64 a0_8) := (blk_cell BK188.out 8).trans rfl
  have hcz40_9 : wc.cell? ⟨gb188, 9, none⟩ = some (.int .i64 a0_9) := (blk_cell BK188.out 9).trans rfl
  have hcz40_10 : wc.cell? ⟨gb188, 10, none⟩ = some (.int .i64 a0_10) := (blk_cell BK188.out 10).trans rfl
  have hcz40_11 : wc.cell? ⟨gb188, 11, none⟩ = some (.slice A0_11 l0_11.length c0_11) := (blk_cell BK188.out 11).trans rfl
  have hcz40_12 : wc.cell? ⟨gb188, 12, none⟩ = some (.slice A0_12 l0_12.length c0_12) := (blk_cell BK188.out 12).trans rfl
  have hfz40_0 := blk_frozen BK188.out 0
  have hfz40_1 := blk_frozen BK188.out 1
  have hfz40_2 := blk_frozen BK188.out 2
  have hfz40_3 := blk_frozen BK188.out 3
  have hfz40_4 := blk_frozen BK188.out 4
  have hfz40_5 := blk_frozen BK188.out 5
  have hfz40_6 := blk_frozen BK188.out 6
  have hfz40_7 := blk_frozen BK188.out 7
  have hfz40_8 := blk_frozen BK188.out 8
  have hfz40_9 := blk_frozen BK188.out 9
  have hfz40_10 := blk_frozen BK188.out 10
  have hfz40_11 := blk_frozen BK188.out 11
  have hfz40_12 := blk_frozen BK188.out 12
  go_wp2_with (first | ((with_reducible refine gate_callee (f := 27) rfl ?_); refine goesL_ (some 67) rfl rfl Tryd.func27 (by kernel_rfl) rfl #[.int .i64 a0_7] rfl sqA ?_; (with_reducible refine (boarderref01_Right.calls _ _ _ A33.out).mono ?_); rintro e w' ⟨rfl, ⟨nd, rfl⟩⟩; refine ⟨_, rfl, ?_⟩) | (go_at_call 27; (with_reducible refine (boarderref01_Right.calls _ _ _ A35.out).mono ?_); rintro e w' ⟨rfl, ⟨nd, rfl⟩⟩) | (go_at_call 27; (with_reducible refine (boarderref01_Right.calls _ _ _ A37.out).mono ?_); rintro e w' ⟨rfl, ⟨nd, rfl⟩⟩) | (go_at_call 27; (with_reducible refine (boarderref01_Right.calls _ _ _ A39.out).mono ?_); rintro e w' ⟨rfl, ⟨nd, rfl⟩⟩))
  go_meet
  case rel => exact ⟨_, (!t193), sqI, H', ⟨by have := HJ1.out; have := HJ19.out; first | omega | exact Nat.le_refl _⟩, ⟨sqK BK188.out⟩, ⟨sqB1 HB.out GE188.out⟩⟩
 clear HC32
 try clear c1
 try clear c2
 try clear p2
 try clear c3
 try clear c4
 try clear c4b0
 try clear c6
 try clear c6b0
 try clear c8
 try clear c8b0
 try clear c10
 try clear c10b0
 try clear c12
 try clear c12b0
 try clear c14
 try clear c14b0
 try clear c16
 try clear c16b0
 try clear c19
 try clear c22
 try clear c23
 try clear c23b0
 try clear c25
 try clear c25b0
 try clear c27
 try clear c27b0
 try clear c31
 try clear c34
 try clear c36
 try clear c38
 try clear hcz11_0 hcz11_1 hcz11_10 hcz11_11 hcz11_12 hcz11_2 hcz11_3 hcz11_4 hcz11_5 hcz11_6 hcz11_7 hcz11_8 hcz11_9
 try clear hcz13_0 hcz13_1 hcz13_10 hcz13_11 hcz13_12 hcz13_2 hcz13_3 hcz13_4 hcz13_5 hcz13_6 hcz13_7 hcz13_8 hcz13_9
 try clear hcz15_0 hcz15_1 hcz15_10 hcz15_11 hcz15_12 hcz15_2 hcz15_3 hcz15_4 hcz15_5 hcz15_6 hcz15_7 hcz15_8 hcz15_9
 try clear hcz17_0 hcz17_1 hcz17_10 hcz17_11 hcz17_12 hcz17_2 hcz17_3 hcz17_4 hcz17_5 hcz17_6 hcz17_7 hcz17_8 hcz17_9
 try clear hcz18_0 hcz18_1 hcz18_10 hcz18_11 hcz18_12 hcz18_2 hcz18_3 hcz18_4 hcz18_5 hcz18_6 hcz18_7 hcz18_8 hcz18_9
 try clear hcz24_0 hcz24_1 hcz24_10 hcz24_11 hcz24_12 hcz24_2 hcz24_3 hcz24_4 hcz24_5 hcz24_6 hcz24_7 hcz24_8 hcz24_9
 try clear hcz26_0 hcz26_1 hcz26_10 hcz26_11 hcz26_12 hcz26_2 hcz26_3 hcz26_4 hcz26_5 hcz26_6 hcz26_7 hcz26_8 hcz26_9
 try clear hcz28_0 hcz28_1 hcz28_10 hcz28_11 hcz28_12 hcz28_2 hcz28_3 hcz28_4 hcz28_5 hcz28_6 hcz28_7 hcz28_8 hcz28_9
 try clear hcz29_0 hcz29_1 hcz29_10 hcz29_11 hcz29_12 hcz29_2 hcz29_3 hcz29_4 hcz29_5 hcz29_6 hcz29_7 hcz29_8 hcz29_9
 try clear hcz30_0 hcz30_1 hcz30_10 hcz30_11 hcz30_12 hcz30_2 hcz30_3 hcz30_4 hcz30_5 hcz30_6 hcz30_7 hcz30_8 hcz30_9
 try clear hcz40_0 hcz40_1 hcz40_10 hcz40_11 hcz40_12 hcz40_2 hcz40_3 hcz40_4 hcz40_5 hcz40_6 hcz40_7 hcz40_8 hcz40_9
 try clear hcz41_0 hcz41_1 hcz41_10 hcz41_11 hcz41_12 hcz41_2 hcz41_3 hcz41_4 hcz41_5 hcz41_6 hcz41_7 hcz41_8 hcz41_9
 try clear hcz42_0 hcz42_1 hcz42_10 hcz42_11 hcz42_12 hcz42_2 hcz42_3 hcz42_4 hcz42_5 hcz42_6 hcz42_7 hcz42_8 hcz42_9
 try clear hcz43_0 hcz43_1 hcz43_10 hcz43_11 hcz43_12 hcz43_2 hcz43_3 hcz43_4 hcz43_5 hcz43_6 hcz43_7 hcz43_8 hcz43_9
 try clear hcz5_0 hcz5_1 hcz5_10 hcz5_11 hcz5_12 hcz5_2 hcz5_3 hcz5_4 hcz5_5 hcz5_6 hcz5_7 hcz5_8 hcz5_9
 try clear hcz7_0 hcz7_1 hcz7_10 hcz7_11 hcz7_12 hcz7_2 hcz7_3 hcz7_4 hcz7_5 hcz7_6 hcz7_7 hcz7_8 hcz7_9
 try clear hcz9_0 hcz9_1 hcz9_10 hcz9_11 hcz9_12 hcz9_2 hcz9_3 hcz9_4 hcz9_5 hcz9_6 hcz9_7 hcz9_8 hcz9_9
 try clear hfz11_0 hfz11_1 hfz11_10 hfz11_11 hfz11_12 hfz11_2 hfz11_3 hfz11_4 hfz11_5 hfz11_6 hfz11_7 hfz11_8 hfz11_9
 try clear hfz13_0 hfz13_1 hfz13_10 hfz13_11 hfz13_12 hfz13_2 hfz13_3 hfz13_4 hfz13_5 hfz13_6 hfz13_7 hfz13_8 hfz13_9
 try clear hfz15_0 hfz15_1 hfz15_10 hfz15_11 hfz15_12 hfz15_2 hfz15_3 hfz15_4 hfz15_5 hfz15_6 hfz15_7 hfz15_8 hfz15_9
 try clear hfz17_0 hfz17_1 hfz17_10 hfz17_11 hfz17_12 hfz17_2 hfz17_3 hfz17_4 hfz17_5 hfz17_6 hfz17_7 hfz17_8 hfz17_9
 try clear hfz18_0 hfz18_1 hfz18_10 hfz18_11 hfz18_12 hfz18_2 hfz18_3 hfz18_4 hfz18_5 hfz18_6 hfz18_7 hfz18_8 hfz18_9
 try clear hfz24_0 hfz24_1 hfz24_10 hfz24_11 hfz24_12 hfz24_2 hfz24_3 hfz24_4 hfz24_5 hfz24_6 hfz24_7 hfz24_8 hfz24_9
 try clear hfz26_0 hfz26_1 hfz26_10 hfz26_11 hfz26_12 hfz26_2 hfz26_3 hfz26_4 hfz26_5 hfz26_6 hfz26_7 hfz26_8 hfz26_9
 try clear hfz28_0 hfz28_1 hfz28_10 hfz28_11 hfz28_12 hfz28_2 hfz28_3 hfz28_4 hfz28_5 hfz28_6 hfz28_7 hfz28_8 hfz28_9
 try clear hfz29_0 hfz29_1 hfz29_10 hfz29_11 hfz29_12 hfz29_2 hfz29_3 hfz29_4 hfz29_5 hfz29_6 hfz29_7 hfz29_8 hfz29_9
 try clear hfz30_0 hfz30_1 hfz30_10 hfz30_11 hfz30_12 hfz30_2 hfz30_3 hfz30_4 hfz30_5 hfz30_6 hfz30_7 hfz30_8 hfz30_9
 try clear hfz40_0 hfz40_1 hfz40_10 hfz40_11 hfz40_12 hfz40_2 hfz40_3 hfz40_4 hfz40_5 hfz40_6 hfz40_7 hfz40_8 hfz40_9
 try clear hfz41_0 hfz41_1 hfz41_10 hfz41_11 hfz41_12 hfz41_2 hfz41_3 hfz41_4 hfz41_5 hfz41_6 hfz41_7 hfz41_8 hfz41_9
 try clear hfz42_0 hfz42_1 hfz42_10 hfz42_11 hfz42_12 hfz42_2 hfz42_3 hfz42_4 hfz42_5 hfz42_6 hfz42_7 hfz42_8 hfz42_9
 try clear hfz43_0 hfz43_1 hfz43_10 hfz43_11 hfz43_12 hfz43_2 hfz43_3 hfz43_4 hfz43_5 hfz43_6 hfz43_7 hfz43_8 hfz43_9
 try clear hfz5_0 hfz5_1 hfz5_10 hfz5_11 hfz5_12 hfz5_2 hfz5_3 hfz5_4 hfz5_5 hfz5_6 hfz5_7 hfz5_8 hfz5_9
 try clear hfz7_0 hfz7_1 hfz7_10 hfz7_11 hfz7_12 hfz7_2 hfz7_3 hfz7_4 hfz7_5 hfz7_6 hfz7_7 hfz7_8 hfz7_9
 try clear hfz9_0 hfz9_1 hfz9_10 hfz9_11 hfz9_12 hfz9_2 hfz9_3 hfz9_4 hfz9_5 hfz9_6 hfz9_7 hfz9_8 hfz9_9
 try clear p2
 obtain ⟨kq, x86_31, rfl, HA, HJ31, BK188, HB⟩ := hcut
 cases kq with
 | zero => exact absurd HA.out (by simp [boarderref04_Right.j2])
 | succ kj31 => ?_
 have H := HA.out
 clear HA
 simp only [boarderref04_Right.j2] at H
 by_cases c44 : x86_31 = true
 · subst c44
   have H1 : (some false) = some r := by rw [if_pos rfl] at H; exact H
   clear H
   have H := H1
   clear H1
   obtain rfl := Option.some.inj H
   go_wp2
   go_ret
   exact ⟨sqE, sqB1 HB.out GE188.out⟩
 replace c44 := Bool.eq_false_iff.mpr c44
 subst c44
 have H1 : (if (l0_11.length : Int) = 16 then ((boarderref03_Right.f kj31 l0_12).bind fun t194 => (if t194 = true then ((boarderref03_Has.f kj31 l0_12 52).bind fun t195 => (some (t195 == 0))) else (some false))) else (some false)) = some r := by rw [if_neg (show ¬ (false = true) by decide)] at H; exact H
 clear H
 have H := H1
 clear H1
 by_cases c45 : (l0_11.length : Int) = 16
 rotate_left
 · rw [if_neg c45] at H
   have c45b0 : ((l0_11.length : Int) == 16) = false := beq_eq_false_iff_ne.mpr c45
   have c45b1 : ((l0_11.length : Int) != 16) = true := bne_iff_ne.mpr c45
   obtain rfl := Option.some.inj H
   have hcz51_0 : wc.cell? ⟨gb188, 0, none⟩ = some (.int .i64 a0_0) := (blk_cell BK188.out 0).trans rfl
   have hcz51_1 : wc.cell? ⟨gb188, 1, none⟩ = some (.int .i64 a0_1) := (blk_cell BK188.out 1).trans rfl
   have hcz51_2 : wc.cell? ⟨gb188, 2, none⟩ = some (.int .i64 a0_2) := (blk_cell BK188.out 2).trans rfl
   have hcz51_3 : wc.cell? ⟨gb188, 3, none⟩ = some (.int .i64 a0_3) := (blk_cell BK188.out 3).trans rfl
   have hcz51_4 : wc.cell? ⟨gb188, 4, none⟩ = some (.int .i64 a0_4) := (blk_cell BK188.out 4).trans rfl
   have hcz51_5 : wc.cell? ⟨gb188, 5, none⟩ = some (.int .i64 a0_5) := (blk_cell BK188.out 5).trans rfl
   have hcz51_6 : wc.cell? ⟨gb188, 6, none⟩ = some (.int .i64 a0_6) := (blk_cell BK188.out 6).trans rfl
   have hcz51_7 : wc.cell? ⟨gb188, 7, none⟩ = some (.int .i64 a0_7) := (blk_cell BK188.out 7).trans rfl
   have hcz51_8 : wc.cell? ⟨gb188, 8, none⟩ = some (.int .i64 a0_8) := (blk_cell BK188.out 8).trans rfl
   have hcz51_9 : wc.cell? ⟨gb188, 9, none⟩ = some (.int .i64 a0_9) := (blk_cell BK188.out 9).trans rfl
   have hcz51_10 : wc.cell? ⟨gb188, 10, none⟩ = some (.int .i64 a0_10) := (blk_cell BK188.out 10).trans rfl
   have hcz51_11 : wc.cell? ⟨gb188, 11, none⟩ = some (.slice A0_11 l0_11.length c0_11) := (blk_cell BK188.out 11).trans rfl
   have hcz51_12 : wc.cell? ⟨gb188, 12, none⟩ = some (.slice A0_12 l0_12.length c0_12) := (blk_cell BK188.out 12).trans rfl
   have hfz51_0 := blk_frozen BK188.out 0
   have hfz51_1 := blk_frozen BK188.out 1
   have hfz51_2 := blk_frozen BK188.out 2
   have hfz51_3 := blk_frozen BK188.out 3
   have hfz51_4 := blk_frozen BK188.out 4
   have hfz51_5 := blk_frozen BK188.out 5
   have hfz51_6 := blk_frozen BK188.out 6
   have hfz51_7 := blk_frozen BK188.out 7
   have hfz51_8 := blk_frozen BK188.out 8
   have hfz51_9 := blk_frozen BK188.out 9
   have hfz51_10 := blk_frozen BK188.out 10
   have hfz51_11 := blk_frozen BK188.out 11
   have hfz51_12 := blk_frozen BK188.out 12
   go_wp2
   go_ret
   exact ⟨sqE, sqB1 HB.out GE188.out⟩
 rw [if_pos c45] at H
 have c45b0 : ((l0_11.length : Int) == 16) = true := beq_iff_eq.mpr c45
 have c45b1 : ((l0_11.length : Int) != 16) = false := bne_eq_false_iff_eq.mpr c45
 clear c45
 replace H := Option.bind_eq_some_iff.mp H
 obtain ⟨t194, A460, H⟩ := H
 replace H : (if t194 = true then ((boarderref03_Has.f kj31 l0_12 52).bind fun t195 => (some (t195 == 0))) else (some false)) = some r := H
 have A46 := Aside0.mk A460
 clear A460
 by_cases c47 : t194 = true
 rotate_left
 · replace c47 := Bool.eq_false_iff.mpr c47
   subst c47
   have H1 : (some false) = some r := by rw [if_neg (show ¬ (false = true) by decide)] at H; exact H
   clear H
   have H := H1
   clear H1
   obtain rfl := Option.some.inj H
   have hcz50_0 : wc.cell? ⟨gb188, 0, none⟩ = some (.int .i64 a0_0) := (blk_cell BK188.out 0).trans rfl
   have hcz50_1 : wc.cell? ⟨gb188, 1, none⟩ = some (.int .i64 a0_1) := (blk_cell BK188.out 1).trans rfl
   have hcz50_2 : wc.cell? ⟨gb188, 2, none⟩ = some (.int .i64 a0_2) := (blk_cell BK188.out 2).trans rfl
   have hcz50_3 : wc.cell? ⟨gb188, 3, none⟩ = some (.int .i64 a0_3) := (blk_cell BK188.out 3).trans rfl
   have hcz50_4 : wc.cell? ⟨gb188, 4, none⟩ = some (.int .i64 a0_4) := (blk_cell BK188.out 4).trans rfl
   have hcz50_5 : wc.cell? ⟨gb188, 5, none⟩ = some (.int .i64 a0_5) := (blk_cell BK188.out 5).trans rfl
   have hcz50_6 : wc.cell? ⟨gb188, 6, none⟩ = some (.int .i64 a0_6) := (blk_cell BK188.out 6).trans rfl
   have hcz50_7 : wc.cell? ⟨gb188, 7, none⟩ = some (.int .i64 a0_7) := (blk_cell BK188.out 7).trans rfl
   have hcz50_8 : wc.cell? ⟨gb188, 8, none⟩ = some (.int .i64 a0_8) := (blk_cell BK188.out 8).trans rfl
   have hcz50_9 : wc.cell? ⟨gb188, 9, none⟩ = some (.int .i64 a0_9) := (blk_cell BK188.out 9).trans rfl
   have hcz50_10 : wc.cell? ⟨gb188, 10, none⟩ = some (.int .i64 a0_10) := (blk_cell BK188.out 10).trans rfl
   have hcz50_11 : wc.cell? ⟨gb188, 11, none⟩ = some (.slice A0_11 l0_11.length c0_11) := (blk_cell BK188.out 11).trans rfl
   have hcz50_12 : wc.cell? ⟨gb188, 12, none⟩ = some (.slice A0_12 l0_12.length c0_12) := (blk_cell BK188.out 12).trans rfl
   have hfz50_0 := blk_frozen BK188.out 0
   have hfz50_1 := blk_frozen BK188.out 1
   have hfz50_2 := blk_frozen BK188.out 2
   have hfz50_3 := blk_frozen BK188.out 3
   have hfz50_4 := blk_frozen BK188.out 4
   have hfz50_5 := blk_frozen BK188.out 5
   have hfz50_6 := blk_frozen BK188.out 6
   have hfz50_7 := blk_frozen BK188.out 7
   have hfz50_8 := blk_frozen BK188.out 8
   have hfz50_9 := blk_frozen BK188.out 9
   have hfz50_10 := blk_frozen BK188.out 10
   have hfz50_11 := blk_frozen BK188.out 11
   have hfz50_12 := blk_frozen BK188.out 12
   go_wp2_with (first | (go_at_call 28; (with_reducible refine (boarderref03_Right.calls _ _ _ _ _ _ ?side1 ?side2 A46.out).mono ?_); (case side1 => repeat (first | exact (Kd.C_below HR0_12.out HB.out) | (with_reducible refine Kd.C_alloc ?_ _) | (with_reducible refine Kd.C_drewN ?_ _) | (with_reducible refine Kd.C_drew ?_))); (case side2 => exact HC0_12.out); rintro e w' ⟨rfl, ⟨nd, rfl⟩⟩))
   go_ret
   exact ⟨sqE, sqB1 HB.out GE188.out⟩
 subst c47
 have H1 : ((boarderref03_Has.f kj31 l0_12 52).bind fun t195 => (some (t195 == 0))) = some r := by rw [if_pos rfl] at H; exact H
 clear H
 have H := H1
 clear H1
 replace H := Option.bind_eq_some_iff.mp H
 obtain ⟨t195, A480, H⟩ := H
 replace H : (some (t195 == 0)) = some r := H
 have A48 := Aside0.mk A480
 clear A480
 obtain rfl := Option.some.inj H
 have hcz49_0 : wc.cell? ⟨gb188, 0, none⟩ = some (.int .i64 a0_0) := (blk_cell BK188.out 0).trans rfl
 have hcz49_1 : wc.cell? ⟨gb188, 1, none⟩ = some (.int .i64 a0_1) := (blk_cell BK188.out 1).trans rfl
 have hcz49_2 : wc.cell? ⟨gb188, 2, none⟩ = some (.int .i64 a0_2) := (blk_cell BK188.out 2).trans rfl
 have hcz49_3 : wc.cell? ⟨gb188, 3, none⟩ = some (.int .i64 a0_3) := (blk_cell BK188.out 3).trans rfl
 have hcz49_4 : wc.cell? ⟨gb188, 4, none⟩ = some (.int .i64 a0_4) := (blk_cell BK188.out 4).trans rfl
 have hcz49_5 : wc.cell? ⟨gb188, 5, none⟩ = some (.int .i64 a0_5) := (blk_cell BK188.out 5).trans rfl
 have hcz49_6 : wc.cell? ⟨gb188, 6, none⟩ = some (.int .i64 a0_6) := (blk_cell BK188.out 6).trans rfl
 have hcz49_7 : wc.cell? ⟨gb188, 7, none⟩ = some (.int .i64 a0_7) := (blk_cell BK188.out 7).trans rfl
 have hcz49_8 : wc.cell? ⟨gb188, 8, none⟩ = some (.int .i64 a0_8) := (blk_cell BK188.out 8).trans rfl
 have hcz49_9 : wc.cell? ⟨gb188, 9, none⟩ = some (.int .i64 a0_9) := (blk_cell BK188.out 9).trans rfl
 have hcz49_10 : wc.cell? ⟨gb188, 10, none⟩ = some (.int .i64 a0_10) := (blk_cell BK188.out 10).trans rfl
 have hcz49_11 : wc.cell? ⟨gb188, 11, none⟩ = some (.slice A0_11 l0_11.length c0_11) := (blk_cell BK188.out 11).trans rfl
 have hcz49_12 : wc.cell? ⟨gb188, 12, none⟩ = some (.slice A0_12 l0_12.length c0_12) := (blk_cell BK188.out 12).trans rfl
 have hfz49_0 := blk_frozen BK188.out 0
 have hfz49_1 := blk_frozen BK188.out 1
 have hfz49_2 := blk_frozen BK188.out 2
 have hfz49_3 := blk_frozen BK188.out 3
 have hfz49_4 := blk_frozen BK188.out 4
 have hfz49_5 := blk_frozen BK188.out 5
 have hfz49_6 := blk_frozen BK188.out 6
 have hfz49_7 := blk_frozen BK188.out 7
 have hfz49_8 := blk_frozen BK188.out 8
 have hfz49_9 := blk_frozen BK188.out 9
 have hfz49_10 := blk_frozen BK188.out 10
 have hfz49_11 := blk_frozen BK188.out 11
 have hfz49_12 := blk_frozen BK188.out 12
 go_wp2_with (first | (go_at_call 28; (with_reducible refine (boarderref03_Right.calls _ _ _ _ _ _ ?side1 ?side2 A46.out).mono ?_); (case side1 => repeat (first | exact (Kd.C_below HR0_12.out HB.out) | (with_reducible refine Kd.C_alloc ?_ _) | (with_reducible refine Kd.C_drewN ?_ _) | (with_reducible refine Kd.C_drew ?_))); (case side2 => exact HC0_12.out); rintro e w' ⟨rfl, ⟨nd, rfl⟩⟩) | (go_at_call 29; (with_reducible refine (boarderref03_Has.calls _ _ _ _ _ _ _ ?side1 ?side2 A48.out).mono ?_); (case side1 => repeat (first | exact (Kd.C_below HR0_12.out (sqB1 HB.out GE188.out)) | (with_reducible refine Kd.C_alloc ?_ _) | (with_reducible refine Kd.C_drewN ?_ _) | (with_reducible refine Kd.C_drew ?_))); (case side2 => exact HC0_12.out); rintro e w' ⟨rfl, ⟨nd, rfl⟩⟩))
 go_ret
 exact ⟨sqE, sqB1 HB.out GE188.out⟩

end Go.Proofs.YtkjmfnijagdhpaaDoor.PKey
