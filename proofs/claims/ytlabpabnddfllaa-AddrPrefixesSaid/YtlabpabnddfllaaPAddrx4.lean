/- Lean functions for Go functions of the given program, and proofs that the code computes them, each under its theorem's own conditions. Written by a program of this session. -/
import Derived.Test.YtlabpabnddfllaaPAddrx0
import Derived.Test.YtlabpabnddfllaaPAddrx1
import Derived.Test.YtlabpabnddfllaaPAddrx3
namespace Go.Proofs.Ytlabpabnddfllaa.PAddr
open Go.RowKit Go.Proofs.YtlabpabnddfllaaW.PrintWords Go.Proofs.YtlabpabnddfllaaW.PrintLast Go.Proofs.YtlabpabnddfllaaW.PrintMore
attribute [local go_sem] max2_int min2_int max_two min_two max_three min_three max_four min_four   -- for this text's walks alone
set_option linter.unusedVariables false
set_option linter.unusedSimpArgs false

/-! ### boarderlaw01_AddrPrefixes: function 6 -/
mutual
def boarderlaw01_AddrPrefixes.j0 : Nat → Int → Int → Int → Int → Int → Int → Bool → Option (Bool)
  | 0, _, _, _, _, _, _, _ => none
  | k + 1, x0, x1, x5, x6, x7, x8, x32 => if x32 = true then (if x5 = 0 then (if x6 = 1 then (if x7 = 0 then (if x8 = 1 then ((boarderlaw01_knows.f k).bind fun t191 => (some t191)) else (some false)) else (some false)) else (some false)) else (some false)) else ((boarderref01_Mask.f k x1).bind fun t192 => (if x5 = t192 then (boarderlaw01_AddrPrefixes.j1 k x0 x1 x7 x8 (x6 != 0)) else (boarderlaw01_AddrPrefixes.j1 k x0 x1 x7 x8 true)))
def boarderlaw01_AddrPrefixes.j1 : Nat → Int → Int → Int → Int → Bool → Option (Bool)
  | 0, _, _, _, _, _ => none
  | k + 1, x0, x1, x7, x8, x57 => if x57 = true then (some false) else ((boarderref01_Fair.f k x0 x1).bind fun t193 => (if t193 = true then ((boarderref01_Last.f k x0 x1).bind fun t194 => (if x7 = t194 then (if x8 = 0 then ((boarderlaw01_knows.f k).bind fun t195 => (some t195)) else (some false)) else (some false))) else (if x7 = 0 then (if x8 = 1 then ((boarderlaw01_knows.f k).bind fun t196 => (some t196)) else (some false)) else (some false))))
def boarderlaw01_AddrPrefixes.j2 : Nat → Int → Int → Int → Int → Int → Int → Bool → Option (Bool)
  | 0, _, _, _, _, _, _, _ => none
  | k + 1, x0, x1, x5, x6, x7, x8, x32 => if x32 = true then (if x5 = 0 then (if x6 = 1 then (if x7 = 0 then (if x8 = 1 then ((boarderlaw01_knows.f k).bind fun t201 => (some t201)) else (some false)) else (some false)) else (some false)) else (some false)) else ((boarderref01_Mask.f k x1).bind fun t202 => (if x5 = t202 then (boarderlaw01_AddrPrefixes.j3 k x0 x1 x7 x8 (x6 != 0)) else (boarderlaw01_AddrPrefixes.j3 k x0 x1 x7 x8 true)))
def boarderlaw01_AddrPrefixes.j3 : Nat → Int → Int → Int → Int → Bool → Option (Bool)
  | 0, _, _, _, _, _ => none
  | k + 1, x0, x1, x7, x8, x57 => if x57 = true then (some false) else ((boarderref01_Fair.f k x0 x1).bind fun t203 => (if t203 = true then ((boarderref01_Last.f k x0 x1).bind fun t204 => (if x7 = t204 then (if x8 = 0 then ((boarderlaw01_knows.f k).bind fun t205 => (some t205)) else (some false)) else (some false))) else (if x7 = 0 then (if x8 = 1 then ((boarderlaw01_knows.f k).bind fun t206 => (some t206)) else (some false)) else (some false))))
end
def boarderlaw01_AddrPrefixes.f (k : Nat) (a0 : Int) (a1 : Int) : Option (Bool) := (addr_Fair.f a0 a1).bind fun t185 => ((boarderref01_Fair.f k a0 a1).bind fun t186 => (if t185 = true then (if t186 = true then ((addr_Mask.f a1).bind fun bt187 => ((addr_Last.f a0 a1).bind fun bt189 => (if a1 < 0 then (boarderlaw01_AddrPrefixes.j0 k a0 a1 bt187.1 bt187.2 bt189.1 bt189.2 true) else (boarderlaw01_AddrPrefixes.j0 k a0 a1 bt187.1 bt187.2 bt189.1 bt189.2 (decide (a1 > 32)))))) else (some false)) else (if t186 = true then (some false) else ((addr_Mask.f a1).bind fun bt197 => ((addr_Last.f a0 a1).bind fun bt199 => (if a1 < 0 then (boarderlaw01_AddrPrefixes.j2 k a0 a1 bt197.1 bt197.2 bt199.1 bt199.2 true) else (boarderlaw01_AddrPrefixes.j2 k a0 a1 bt197.1 bt197.2 bt199.1 bt199.2 (decide (a1 > 32)))))))))
theorem boarderlaw01_AddrPrefixes.mono_l : ∀ k, (∀ y0 y1 y2 y3 y4 y5 y6, LeO (boarderlaw01_AddrPrefixes.j0 k y0 y1 y2 y3 y4 y5 y6) (boarderlaw01_AddrPrefixes.j0 (k + 1) y0 y1 y2 y3 y4 y5 y6)) ∧ (∀ y0 y1 y2 y3 y4, LeO (boarderlaw01_AddrPrefixes.j1 k y0 y1 y2 y3 y4) (boarderlaw01_AddrPrefixes.j1 (k + 1) y0 y1 y2 y3 y4)) ∧ (∀ y0 y1 y2 y3 y4 y5 y6, LeO (boarderlaw01_AddrPrefixes.j2 k y0 y1 y2 y3 y4 y5 y6) (boarderlaw01_AddrPrefixes.j2 (k + 1) y0 y1 y2 y3 y4 y5 y6)) ∧ (∀ y0 y1 y2 y3 y4, LeO (boarderlaw01_AddrPrefixes.j3 k y0 y1 y2 y3 y4) (boarderlaw01_AddrPrefixes.j3 (k + 1) y0 y1 y2 y3 y4))
  | 0 => ⟨fun _ _ _ _ _ _ _ r h => by simp [boarderlaw01_AddrPrefixes.j0] at h, fun _ _ _ _ _ r h => by simp [boarderlaw01_AddrPrefixes.j1] at h, fun _ _ _ _ _ _ _ r h => by simp [boarderlaw01_AddrPrefixes.j2] at h, fun _ _ _ _ _ r h => by simp [boarderlaw01_AddrPrefixes.j3] at h⟩
  | k + 1 => by
    obtain ⟨ih0, ih1, ih2, ih3⟩ := boarderlaw01_AddrPrefixes.mono_l k
    refine ⟨?_, ?_, ?_, ?_⟩
    · intro y0 y1 y2 y3 y4 y5 y6
      unfold boarderlaw01_AddrPrefixes.j0
      repeat' first
      | (with_reducible exact ih0 _ _ _ _ _ _ _)
      | (with_reducible exact ih1 _ _ _ _ _)
      | (with_reducible exact ih2 _ _ _ _ _ _ _)
      | (with_reducible exact ih3 _ _ _ _ _)
      | (with_reducible exact boarderlaw01_knows.mono _)
      | (with_reducible exact boarderref01_Fair.mono _ _ _)
      | (with_reducible exact boarderref01_Last.mono _ _ _)
      | (with_reducible exact boarderref01_Mask.mono _ _)
      | (with_reducible exact LeO.refl _)
      | (with_reducible exact LeO.none _)
      | (with_reducible refine LeO.ite ?_ ?_)
      | (with_reducible refine LeO.bind ?_ (fun _ => ?_))
      | exact ih0 _ _ _ _ _ _ _
      | exact ih1 _ _ _ _ _
      | exact ih2 _ _ _ _ _ _ _
      | exact ih3 _ _ _ _ _
      | exact boarderlaw01_knows.mono _
      | exact boarderref01_Fair.mono _ _ _
      | exact boarderref01_Last.mono _ _ _
      | exact boarderref01_Mask.mono _ _
      | exact LeO.none _
      | refine LeO.ite ?_ ?_
      | refine LeO.bind ?_ (fun _ => ?_)
    · intro y0 y1 y2 y3 y4
      unfold boarderlaw01_AddrPrefixes.j1
      repeat' first
      | (with_reducible exact ih0 _ _ _ _ _ _ _)
      | (with_reducible exact ih1 _ _ _ _ _)
      | (with_reducible exact ih2 _ _ _ _ _ _ _)
      | (with_reducible exact ih3 _ _ _ _ _)
      | (with_reducible exact boarderlaw01_knows.mono _)
      | (with_reducible exact boarderref01_Fair.mono _ _ _)
      | (with_reducible exact boarderref01_Last.mono _ _ _)
      | (with_reducible exact boarderref01_Mask.mono _ _)
      | (with_reducible exact LeO.refl _)
      | (with_reducible exact LeO.none _)
      | (with_reducible refine LeO.ite ?_ ?_)
      | (with_reducible refine LeO.bind ?_ (fun _ => ?_))
      | exact ih0 _ _ _ _ _ _ _
      | exact ih1 _ _ _ _ _
      | exact ih2 _ _ _ _ _ _ _
      | exact ih3 _ _ _ _ _
      | exact boarderlaw01_knows.mono _
      | exact boarderref01_Fair.mono _ _ _
      | exact boarderref01_Last.mono _ _ _
      | exact boarderref01_Mask.mono _ _
      | exact LeO.none _
      | refine LeO.ite ?_ ?_
      | refine LeO.bind ?_ (fun _ => ?_)
    · intro y0 y1 y2 y3 y4 y5 y6
      unfold boarderlaw01_AddrPrefixes.j2
      repeat' first
      | (with_reducible exact ih0 _ _ _ _ _ _ _)
      | (with_reducible exact ih1 _ _ _ _ _)
      | (with_reducible exact ih2 _ _ _ _ _ _ _)
      | (with_reducible exact ih3 _ _ _ _ _)
      | (with_reducible exact boarderlaw01_knows.mono _)
      | (with_reducible exact boarderref01_Fair.mono _ _ _)
      | (with_reducible exact boarderref01_Last.mono _ _ _)
      | (with_reducible exact boarderref01_Mask.mono _ _)
      | (with_reducible exact LeO.refl _)
      | (with_reducible exact LeO.none _)
      | (with_reducible refine LeO.ite ?_ ?_)
      | (with_reducible refine LeO.bind ?_ (fun _ => ?_))
      | exact ih0 _ _ _ _ _ _ _
      | exact ih1 _ _ _ _ _
      | exact ih2 _ _ _ _ _ _ _
      | exact ih3 _ _ _ _ _
      | exact boarderlaw01_knows.mono _
      | exact boarderref01_Fair.mono _ _ _
      | exact boarderref01_Last.mono _ _ _
      | exact boarderref01_Mask.mono _ _
      | exact LeO.none _
      | refine LeO.ite ?_ ?_
      | refine LeO.bind ?_ (fun _ => ?_)
    · intro y0 y1 y2 y3 y4
      unfold boarderlaw01_AddrPrefixes.j3
      repeat' first
      | (with_reducible exact ih0 _ _ _ _ _ _ _)
      | (with_reducible exact ih1 _ _ _ _ _)
      | (with_reducible exact ih2 _ _ _ _ _ _ _)
      | (with_reducible exact ih3 _ _ _ _ _)
      | (with_reducible exact boarderlaw01_knows.mono _)
      | (with_reducible exact boarderref01_Fair.mono _ _ _)
      | (with_reducible exact boarderref01_Last.mono _ _ _)
      | (with_reducible exact boarderref01_Mask.mono _ _)
      | (with_reducible exact LeO.refl _)
      | (with_reducible exact LeO.none _)
      | (with_reducible refine LeO.ite ?_ ?_)
      | (with_reducible refine LeO.bind ?_ (fun _ => ?_))
      | exact ih0 _ _ _ _ _ _ _
      | exact ih1 _ _ _ _ _
      | exact ih2 _ _ _ _ _ _ _
      | exact ih3 _ _ _ _ _
      | exact boarderlaw01_knows.mono _
      | exact boarderref01_Fair.mono _ _ _
      | exact boarderref01_Last.mono _ _ _
      | exact boarderref01_Mask.mono _ _
      | exact LeO.none _
      | refine LeO.ite ?_ ?_
      | refine LeO.bind ?_ (fun _ => ?_)
theorem boarderlaw01_AddrPrefixes.mono : ∀ a0 a1 k, LeO (boarderlaw01_AddrPrefixes.f k a0 a1) (boarderlaw01_AddrPrefixes.f (k + 1) a0 a1) := by
  intro a0 a1 k
  obtain ⟨ih0, ih1, ih2, ih3⟩ := boarderlaw01_AddrPrefixes.mono_l k
  unfold boarderlaw01_AddrPrefixes.f
  repeat' first
      | (with_reducible exact ih0 _ _ _ _ _ _ _)
      | (with_reducible exact ih1 _ _ _ _ _)
      | (with_reducible exact ih2 _ _ _ _ _ _ _)
      | (with_reducible exact ih3 _ _ _ _ _)
      | (with_reducible exact boarderlaw01_knows.mono _)
      | (with_reducible exact boarderref01_Fair.mono _ _ _)
      | (with_reducible exact boarderref01_Last.mono _ _ _)
      | (with_reducible exact boarderref01_Mask.mono _ _)
      | (with_reducible exact LeO.refl _)
      | (with_reducible exact LeO.none _)
      | (with_reducible refine LeO.ite ?_ ?_)
      | (with_reducible refine LeO.bind ?_ (fun _ => ?_))
      | exact ih0 _ _ _ _ _ _ _
      | exact ih1 _ _ _ _ _
      | exact ih2 _ _ _ _ _ _ _
      | exact ih3 _ _ _ _ _
      | exact boarderlaw01_knows.mono _
      | exact boarderref01_Fair.mono _ _ _
      | exact boarderref01_Last.mono _ _ _
      | exact boarderref01_Mask.mono _ _
      | exact LeO.none _
      | refine LeO.ite ?_ ?_
      | refine LeO.bind ?_ (fun _ => ?_)
set_option maxHeartbeats 8000000 in
set_option maxRecDepth 100000 in
theorem boarderlaw01_AddrPrefixes.calls (k : Nat) (a0 : Int) (a1 : Int) (r : Bool) (w : World) (h : boarderlaw01_AddrPrefixes.f k a0 a1 = some r) :
    Calls Try.prog 6 #[.int .i64 a0, .int .i64 a1] w fun e w' => e = .returned (.bool r) ∧ Below w.heap.size w w' := by
  have HB := Aside0.mk (Below.refl w.heap.size w)
  have H : ((addr_Fair.f a0 a1).bind fun t185 => ((boarderref01_Fair.f k a0 a1).bind fun t186 => (if t185 = true then (if t186 = true then ((addr_Mask.f a1).bind fun bt187 => ((addr_Last.f a0 a1).bind fun bt189 => (if a1 < 0 then (boarderlaw01_AddrPrefixes.j0 k a0 a1 bt187.1 bt187.2 bt189.1 bt189.2 true) else (boarderlaw01_AddrPrefixes.j0 k a0 a1 bt187.1 bt187.2 bt189.1 bt189.2 (decide (a1 > 32)))))) else (some false)) else (if t186 = true then (some false) else ((addr_Mask.f a1).bind fun bt197 => ((addr_Last.f a0 a1).bind fun bt199 => (if a1 < 0 then (boarderlaw01_AddrPrefixes.j2 k a0 a1 bt197.1 bt197.2 bt199.1 bt199.2 true) else (boarderlaw01_AddrPrefixes.j2 k a0 a1 bt197.1 bt197.2 bt199.1 bt199.2 (decide (a1 > 32)))))))))) = some r := h
  clear h
  replace H := Option.bind_eq_some_iff.mp H
  obtain ⟨t185, A30, H⟩ := H
  replace H : ((boarderref01_Fair.f k a0 a1).bind fun t186 => (if t185 = true then (if t186 = true then ((addr_Mask.f a1).bind fun bt187 => ((addr_Last.f a0 a1).bind fun bt189 => (if a1 < 0 then (boarderlaw01_AddrPrefixes.j0 k a0 a1 bt187.1 bt187.2 bt189.1 bt189.2 true) else (boarderlaw01_AddrPrefixes.j0 k a0 a1 bt187.1 bt187.2 bt189.1 bt189.2 (decide (a1 > 32)))))) else (some false)) else (if t186 = true then (some false) else ((addr_Mask.f a1).bind fun bt197 => ((addr_Last.f a0 a1).bind fun bt199 => (if a1 < 0 then (boarderlaw01_AddrPrefixes.j2 k a0 a1 bt197.1 bt197.2 bt199.1 bt199.2 true) else (boarderlaw01_AddrPrefixes.j2 k a0 a1 bt197.1 bt197.2 bt199.1 bt199.2 (decide (a1 > 32))))))))) = some r := H
  have A3 := Aside0.mk A30
  clear A30
  replace H := Option.bind_eq_some_iff.mp H
  obtain ⟨t186, A40, H⟩ := H
  replace H : (if t185 = true then (if t186 = true then ((addr_Mask.f a1).bind fun bt187 => ((addr_Last.f a0 a1).bind fun bt189 => (if a1 < 0 then (boarderlaw01_AddrPrefixes.j0 k a0 a1 bt187.1 bt187.2 bt189.1 bt189.2 true) else (boarderlaw01_AddrPrefixes.j0 k a0 a1 bt187.1 bt187.2 bt189.1 bt189.2 (decide (a1 > 32)))))) else (some false)) else (if t186 = true then (some false) else ((addr_Mask.f a1).bind fun bt197 => ((addr_Last.f a0 a1).bind fun bt199 => (if a1 < 0 then (boarderlaw01_AddrPrefixes.j2 k a0 a1 bt197.1 bt197.2 bt199.1 bt199.2 true) else (boarderlaw01_AddrPrefixes.j2 k a0 a1 bt197.1 bt197.2 bt199.1 bt199.2 (decide (a1 > 32)))))))) = some r := H
  have A4 := Aside0.mk A40
  clear A40
  by_cases c5 : t185 = true
  · subst c5
    have H1 : (if t186 = true then ((addr_Mask.f a1).bind fun bt187 => ((addr_Last.f a0 a1).bind fun bt189 => (if a1 < 0 then (boarderlaw01_AddrPrefixes.j0 k a0 a1 bt187.1 bt187.2 bt189.1 bt189.2 true) else (boarderlaw01_AddrPrefixes.j0 k a0 a1 bt187.1 bt187.2 bt189.1 bt189.2 (decide (a1 > 32)))))) else (some false)) = some r := by rw [if_pos rfl] at H; exact H
    clear H
    have H := H1
    clear H1
    by_cases c6 : t186 = true
    · subst c6
      have H1 : ((addr_Mask.f a1).bind fun bt187 => ((addr_Last.f a0 a1).bind fun bt189 => (if a1 < 0 then (boarderlaw01_AddrPrefixes.j0 k a0 a1 bt187.1 bt187.2 bt189.1 bt189.2 true) else (boarderlaw01_AddrPrefixes.j0 k a0 a1 bt187.1 bt187.2 bt189.1 bt189.2 (decide (a1 > 32)))))) = some r := by rw [if_pos rfl] at H; exact H
      clear H
      have H := H1
      clear H1
      replace H := Option.bind_eq_some_iff.mp H
      obtain ⟨⟨t187, t188⟩, A70, H⟩ := H
      replace H : ((addr_Last.f a0 a1).bind fun bt189 => (if a1 < 0 then (boarderlaw01_AddrPrefixes.j0 k a0 a1 t187 t188 bt189.1 bt189.2 true) else (boarderlaw01_AddrPrefixes.j0 k a0 a1 t187 t188 bt189.1 bt189.2 (decide (a1 > 32))))) = some r := H
      have A7 := Aside0.mk A70
      clear A70
      replace H := Option.bind_eq_some_iff.mp H
      obtain ⟨⟨t189, t190⟩, A80, H⟩ := H
      replace H : (if a1 < 0 then (boarderlaw01_AddrPrefixes.j0 k a0 a1 t187 t188 t189 t190 true) else (boarderlaw01_AddrPrefixes.j0 k a0 a1 t187 t188 t189 t190 (decide (a1 > 32)))) = some r := H
      have A8 := Aside0.mk A80
      clear A80
      have HC9 := Aside0.mk H
      clear H
      go_enter Try.func6, Try.ntmps6
      go_upto_region 5 with (first | ((with_reducible refine gate_callee (f := 22) rfl ?_); refine goesL_ (some 11) rfl rfl Try.func22 (by kernel_rfl) rfl #[.int .i64 a0, .int .i64 a1] rfl (by (try simp only [List.map_toArray, List.map_cons, List.map_nil]); first | done | rfl | (simp only [List.length_drop, List.length_take]; rfl)) ?_; (with_reducible refine (addr_Fair.calls a0 a1 true _ A3.out).mono ?_); rintro e w' ⟨rfl, ⟨nd, rfl⟩⟩; refine ⟨_, rfl, ?_⟩) | ((with_reducible refine gate_callee (f := 23) rfl ?_); refine goesL_ (some 14) rfl rfl Try.func23 (by kernel_rfl) rfl #[.int .i64 a0, .int .i64 a1] rfl (by (try simp only [List.map_toArray, List.map_cons, List.map_nil]); first | done | rfl | (simp only [List.length_drop, List.length_take]; rfl)) ?_; (with_reducible refine (boarderref01_Fair.calls k a0 a1 true _ A4.out).mono ?_); rintro e w' ⟨rfl, ⟨nd, rfl⟩⟩; refine ⟨_, rfl, ?_⟩) | ((with_reducible refine gate_callee (f := 24) rfl ?_); refine goesL_ (some 18) rfl rfl Try.func24 (by kernel_rfl) rfl #[.int .i64 a1] rfl (by (try simp only [List.map_toArray, List.map_cons, List.map_nil]); first | done | rfl | (simp only [List.length_drop, List.length_take]; rfl)) ?_; (with_reducible refine (addr_Mask.calls a1 t187 t188 _ A7.out).mono ?_); rintro e w' ⟨rfl, ⟨nd, rfl⟩⟩; refine ⟨_, rfl, ?_⟩) | ((with_reducible refine gate_callee (f := 25) rfl ?_); refine goesL_ (some 24) rfl rfl Try.func25 (by kernel_rfl) rfl #[.int .i64 a0, .int .i64 a1] rfl (by (try simp only [List.map_toArray, List.map_cons, List.map_nil]); first | done | rfl | (simp only [List.length_drop, List.length_take]; rfl)) ?_; (with_reducible refine (addr_Last.calls a0 a1 t189 t190 _ A8.out).mono ?_); rintro e w' ⟨rfl, ⟨nd, rfl⟩⟩; refine ⟨_, rfl, ?_⟩))
      (try simp only [Act.put, List.setIfInBounds_toArray, List.set_cons_zero, List.set_cons_succ])
      go_cut [32] (fun v32 wc => ∃ (kq : Nat) (x32_8 : Bool), v32 = .bool x32_8 ∧ Aside0 (boarderlaw01_AddrPrefixes.j0 kq a0 a1 t187 t188 t189 t190 x32_8 = some r) ∧ Aside0 (kq ≤ k) ∧ Aside0 (Below w.heap.size w wc))
      case first =>
        have H := HC9.out
        clear HC9
        by_cases c10 : a1 < 0
        · rw [if_pos c10] at H
          have c10b0 : decide (a1 < 0) = true := decide_eq_true c10
          clear c10
          (first | rw [c10b0] | (simp only [i64_w, i32_w]; rw [c10b0]) | skip)
          have H' := Aside0.mk H
          clear H
          go_wp2
          go_meet
          case rel => exact ⟨_, (true), (by first | rfl | (simp; done) | (simp [*]; done)), H', ⟨by first | omega | exact Nat.le_refl _⟩, ⟨by repeat (first | (with_reducible first | exact HB.out | apply below_alloc | apply pw_below_drewN | apply below_drew1) | exact HB.out)⟩⟩
        · rw [if_neg c10] at H
          have c10b0 : decide (a1 < 0) = false := decide_eq_false c10
          clear c10
          (first | rw [c10b0] | (simp only [i64_w, i32_w]; rw [c10b0]) | skip)
          have H' := Aside0.mk H
          clear H
          go_wp2
          go_meet
          case rel => exact ⟨_, (decide (a1 > 32)), (by first | rfl | (simp; done) | (simp [*]; done)), H', ⟨by first | omega | exact Nat.le_refl _⟩, ⟨by repeat (first | (with_reducible first | exact HB.out | apply below_alloc | apply pw_below_drewN | apply below_drew1) | exact HB.out)⟩⟩
      case rest =>
        clear HC9
        try clear c1
        try clear c2
        try clear p2
        try clear c5
        try clear c6
        try clear c10
        try clear c10b0
        obtain ⟨kq, x32_8, rfl, HA, HJ8, HB⟩ := hcut
        cases kq with
        | zero => exact absurd HA.out (by simp [boarderlaw01_AddrPrefixes.j0])
        | succ kj8 =>
          have H := HA.out
          clear HA
          simp only [boarderlaw01_AddrPrefixes.j0] at H
          by_cases c11 : x32_8 = true
          · subst c11
            have H1 : (if t187 = 0 then (if t188 = 1 then (if t189 = 0 then (if t190 = 1 then ((boarderlaw01_knows.f kj8).bind fun t191 => (some t191)) else (some false)) else (some false)) else (some false)) else (some false)) = some r := by rw [if_pos rfl] at H; exact H
            clear H
            have H := H1
            clear H1
            by_cases c12 : t187 = 0
            · rw [if_pos c12] at H
              have c12b0 : (t187 == 0) = true := beq_iff_eq.mpr c12
              have c12b1 : (t187 != 0) = false := bne_eq_false_iff_eq.mpr c12
              clear c12
              by_cases c13 : t188 = 1
              · rw [if_pos c13] at H
                have c13b0 : (t188 == 1) = true := beq_iff_eq.mpr c13
                have c13b1 : (t188 != 1) = false := bne_eq_false_iff_eq.mpr c13
                clear c13
                by_cases c14 : t189 = 0
                · rw [if_pos c14] at H
                  have c14b0 : (t189 == 0) = true := beq_iff_eq.mpr c14
                  have c14b1 : (t189 != 0) = false := bne_eq_false_iff_eq.mpr c14
                  clear c14
                  by_cases c15 : t190 = 1
                  · rw [if_pos c15] at H
                    have c15b0 : (t190 == 1) = true := beq_iff_eq.mpr c15
                    have c15b1 : (t190 != 1) = false := bne_eq_false_iff_eq.mpr c15
                    clear c15
                    replace H := Option.bind_eq_some_iff.mp H
                    obtain ⟨t191, A160, H⟩ := H
                    replace H : (some t191) = some r := H
                    have A16 := Aside0.mk A160
                    clear A160
                    obtain rfl := Option.some.inj H
                    go_wp2_with (first | (go_at_call 18; (with_reducible refine (boarderlaw01_knows.calls kj8  t191 _ A16.out).mono ?_); rintro e w17 ⟨rfl, hb⟩; have n0_ := Aside0.mk (below_step (by repeat (first | (with_reducible first | exact HB.out | apply below_alloc | apply pw_below_drewN | apply below_drew1) | exact HB.out)) hb); clear HB; have HB := n0_; clear n0_; (try clear hb); (try clear hb2); (try clear hk); (try clear hi)))
                    go_ret
                    exact ⟨by first | rfl | (simp [errW_none, errW_some] <;> rfl) | (simp [*, errW_none, errW_some] <;> rfl), by repeat (first | (with_reducible first | exact HB.out | apply below_alloc | apply pw_below_drewN | apply below_drew1) | exact HB.out)⟩
                  · rw [if_neg c15] at H
                    have c15b0 : (t190 == 1) = false := beq_eq_false_iff_ne.mpr c15
                    have c15b1 : (t190 != 1) = true := bne_iff_ne.mpr c15
                    obtain rfl := Option.some.inj H
                    go_wp2
                    go_ret
                    exact ⟨by first | rfl | (simp [errW_none, errW_some] <;> rfl) | (simp [*, errW_none, errW_some] <;> rfl), by repeat (first | (with_reducible first | exact HB.out | apply below_alloc | apply pw_below_drewN | apply below_drew1) | exact HB.out)⟩
                · rw [if_neg c14] at H
                  have c14b0 : (t189 == 0) = false := beq_eq_false_iff_ne.mpr c14
                  have c14b1 : (t189 != 0) = true := bne_iff_ne.mpr c14
                  obtain rfl := Option.some.inj H
                  go_wp2
                  go_ret
                  exact ⟨by first | rfl | (simp [errW_none, errW_some] <;> rfl) | (simp [*, errW_none, errW_some] <;> rfl), by repeat (first | (with_reducible first | exact HB.out | apply below_alloc | apply pw_below_drewN | apply below_drew1) | exact HB.out)⟩
              · rw [if_neg c13] at H
                have c13b0 : (t188 == 1) = false := beq_eq_false_iff_ne.mpr c13
                have c13b1 : (t188 != 1) = true := bne_iff_ne.mpr c13
                obtain rfl := Option.some.inj H
                go_wp2
                go_ret
                exact ⟨by first | rfl | (simp [errW_none, errW_some] <;> rfl) | (simp [*, errW_none, errW_some] <;> rfl), by repeat (first | (with_reducible first | exact HB.out | apply below_alloc | apply pw_below_drewN | apply below_drew1) | exact HB.out)⟩
            · rw [if_neg c12] at H
              have c12b0 : (t187 == 0) = false := beq_eq_false_iff_ne.mpr c12
              have c12b1 : (t187 != 0) = true := bne_iff_ne.mpr c12
              obtain rfl := Option.some.inj H
              go_wp2
              go_ret
              exact ⟨by first | rfl | (simp [errW_none, errW_some] <;> rfl) | (simp [*, errW_none, errW_some] <;> rfl), by repeat (first | (with_reducible first | exact HB.out | apply below_alloc | apply pw_below_drewN | apply below_drew1) | exact HB.out)⟩
          · replace c11 := Bool.eq_false_iff.mpr c11
            subst c11
            have H1 : ((boarderref01_Mask.f kj8 a1).bind fun t192 => (if t187 = t192 then (boarderlaw01_AddrPrefixes.j1 kj8 a0 a1 t189 t190 (t188 != 0)) else (boarderlaw01_AddrPrefixes.j1 kj8 a0 a1 t189 t190 true))) = some r := by rw [if_neg (show ¬ (false = true) by decide)] at H; exact H
            clear H
            have H := H1
            clear H1
            have HC18 := Aside0.mk H
            clear H
            go_upto_region 7 with (fail)
            go_cut [57] (fun v57 wc => ∃ (kq : Nat) (x57_17 : Bool), v57 = .bool x57_17 ∧ Aside0 (boarderlaw01_AddrPrefixes.j1 kq a0 a1 t189 t190 x57_17 = some r) ∧ Aside0 (kq ≤ kj8) ∧ Aside0 (Below w.heap.size w wc))
            case first =>
              have H := HC18.out
              clear HC18
              replace H := Option.bind_eq_some_iff.mp H
              obtain ⟨t192, A190, H⟩ := H
              replace H : (if t187 = t192 then (boarderlaw01_AddrPrefixes.j1 kj8 a0 a1 t189 t190 (t188 != 0)) else (boarderlaw01_AddrPrefixes.j1 kj8 a0 a1 t189 t190 true)) = some r := H
              have A19 := Aside0.mk A190
              clear A190
              by_cases c20 : t187 = t192
              · rw [if_pos c20] at H
                have c20b0 : (t187 == t192) = true := beq_iff_eq.mpr c20
                have c20b1 : (t187 != t192) = false := bne_eq_false_iff_eq.mpr c20
                clear c20
                (first | rw [c20b0] | (simp only [i64_w, i32_w]; rw [c20b0]) | skip)
                have H' := Aside0.mk H
                clear H
                go_wp2_with (first | ((with_reducible refine gate_callee (f := 26) rfl ?_); refine goesL_ (some 52) rfl rfl Try.func26 (by kernel_rfl) rfl #[.int .i64 a1] rfl (by (try simp only [List.map_toArray, List.map_cons, List.map_nil]); first | done | rfl | (simp only [List.length_drop, List.length_take]; rfl)) ?_; (with_reducible refine (boarderref01_Mask.calls kj8 a1 t192 _ A19.out).mono ?_); rintro e w' ⟨rfl, ⟨nd, rfl⟩⟩; refine ⟨_, rfl, ?_⟩))
                go_meet
                case rel => exact ⟨_, ((t188 != 0)), (by first | rfl | (simp; done) | (simp [*]; done)), H', ⟨by have := HJ8.out; first | omega | exact Nat.le_refl _⟩, ⟨by repeat (first | (with_reducible first | exact HB.out | apply below_alloc | apply pw_below_drewN | apply below_drew1) | exact HB.out)⟩⟩
              · rw [if_neg c20] at H
                have c20b0 : (t187 == t192) = false := beq_eq_false_iff_ne.mpr c20
                have c20b1 : (t187 != t192) = true := bne_iff_ne.mpr c20
                (first | rw [c20b0] | (simp only [i64_w, i32_w]; rw [c20b0]) | skip)
                have H' := Aside0.mk H
                clear H
                go_wp2_with (first | ((with_reducible refine gate_callee (f := 26) rfl ?_); refine goesL_ (some 52) rfl rfl Try.func26 (by kernel_rfl) rfl #[.int .i64 a1] rfl (by (try simp only [List.map_toArray, List.map_cons, List.map_nil]); first | done | rfl | (simp only [List.length_drop, List.length_take]; rfl)) ?_; (with_reducible refine (boarderref01_Mask.calls kj8 a1 t192 _ A19.out).mono ?_); rintro e w' ⟨rfl, ⟨nd, rfl⟩⟩; refine ⟨_, rfl, ?_⟩))
                go_meet
                case rel => exact ⟨_, (true), (by first | rfl | (simp; done) | (simp [*]; done)), H', ⟨by have := HJ8.out; first | omega | exact Nat.le_refl _⟩, ⟨by repeat (first | (with_reducible first | exact HB.out | apply below_alloc | apply pw_below_drewN | apply below_drew1) | exact HB.out)⟩⟩
            case rest =>
              clear HC18
              try clear c1
              try clear c2
              try clear p2
              try clear c5
              try clear c6
              try clear c10
              try clear c10b0
              try clear c11
              try clear c12
              try clear c12b0
              try clear c12b1
              try clear c13
              try clear c13b0
              try clear c13b1
              try clear c14
              try clear c14b0
              try clear c14b1
              try clear c15
              try clear c15b0
              try clear c15b1
              try clear c20
              try clear c20b0
              try clear c20b1
              try clear p2
              obtain ⟨kq, x57_17, rfl, HA, HJ17, HB⟩ := hcut
              cases kq with
              | zero => exact absurd HA.out (by simp [boarderlaw01_AddrPrefixes.j1])
              | succ kj17 =>
                have H := HA.out
                clear HA
                simp only [boarderlaw01_AddrPrefixes.j1] at H
                by_cases c21 : x57_17 = true
                · subst c21
                  have H1 : (some false) = some r := by rw [if_pos rfl] at H; exact H
                  clear H
                  have H := H1
                  clear H1
                  obtain rfl := Option.some.inj H
                  go_wp2
                  go_ret
                  exact ⟨by first | rfl | (simp [errW_none, errW_some] <;> rfl) | (simp [*, errW_none, errW_some] <;> rfl), by repeat (first | (with_reducible first | exact HB.out | apply below_alloc | apply pw_below_drewN | apply below_drew1) | exact HB.out)⟩
                · replace c21 := Bool.eq_false_iff.mpr c21
                  subst c21
                  have H1 : ((boarderref01_Fair.f kj17 a0 a1).bind fun t193 => (if t193 = true then ((boarderref01_Last.f kj17 a0 a1).bind fun t194 => (if t189 = t194 then (if t190 = 0 then ((boarderlaw01_knows.f kj17).bind fun t195 => (some t195)) else (some false)) else (some false))) else (if t189 = 0 then (if t190 = 1 then ((boarderlaw01_knows.f kj17).bind fun t196 => (some t196)) else (some false)) else (some false)))) = some r := by rw [if_neg (show ¬ (false = true) by decide)] at H; exact H
                  clear H
                  have H := H1
                  clear H1
                  replace H := Option.bind_eq_some_iff.mp H
                  obtain ⟨t193, A220, H⟩ := H
                  replace H : (if t193 = true then ((boarderref01_Last.f kj17 a0 a1).bind fun t194 => (if t189 = t194 then (if t190 = 0 then ((boarderlaw01_knows.f kj17).bind fun t195 => (some t195)) else (some false)) else (some false))) else (if t189 = 0 then (if t190 = 1 then ((boarderlaw01_knows.f kj17).bind fun t196 => (some t196)) else (some false)) else (some false))) = some r := H
                  have A22 := Aside0.mk A220
                  clear A220
                  by_cases c23 : t193 = true
                  · subst c23
                    have H1 : ((boarderref01_Last.f kj17 a0 a1).bind fun t194 => (if t189 = t194 then (if t190 = 0 then ((boarderlaw01_knows.f kj17).bind fun t195 => (some t195)) else (some false)) else (some false))) = some r := by rw [if_pos rfl] at H; exact H
                    clear H
                    have H := H1
                    clear H1
                    replace H := Option.bind_eq_some_iff.mp H
                    obtain ⟨t194, A240, H⟩ := H
                    replace H : (if t189 = t194 then (if t190 = 0 then ((boarderlaw01_knows.f kj17).bind fun t195 => (some t195)) else (some false)) else (some false)) = some r := H
                    have A24 := Aside0.mk A240
                    clear A240
                    by_cases c25 : t189 = t194
                    · rw [if_pos c25] at H
                      have c25b0 : (t189 == t194) = true := beq_iff_eq.mpr c25
                      have c25b1 : (t189 != t194) = false := bne_eq_false_iff_eq.mpr c25
                      clear c25
                      by_cases c26 : t190 = 0
                      · rw [if_pos c26] at H
                        have c26b0 : (t190 == 0) = true := beq_iff_eq.mpr c26
                        have c26b1 : (t190 != 0) = false := bne_eq_false_iff_eq.mpr c26
                        clear c26
                        replace H := Option.bind_eq_some_iff.mp H
                        obtain ⟨t195, A270, H⟩ := H
                        replace H : (some t195) = some r := H
                        have A27 := Aside0.mk A270
                        clear A270
                        obtain rfl := Option.some.inj H
                        go_wp2_with (first | ((with_reducible refine gate_callee (f := 23) rfl ?_); refine goesL_ (some 60) rfl rfl Try.func23 (by kernel_rfl) rfl #[.int .i64 a0, .int .i64 a1] rfl (by (try simp only [List.map_toArray, List.map_cons, List.map_nil]); first | done | rfl | (simp only [List.length_drop, List.length_take]; rfl)) ?_; (with_reducible refine (boarderref01_Fair.calls kj17 a0 a1 true _ A22.out).mono ?_); rintro e w' ⟨rfl, ⟨nd, rfl⟩⟩; refine ⟨_, rfl, ?_⟩) | ((with_reducible refine gate_callee (f := 27) rfl ?_); refine goesL_ (some 74) rfl rfl Try.func27 (by kernel_rfl) rfl #[.int .i64 a0, .int .i64 a1] rfl (by (try simp only [List.map_toArray, List.map_cons, List.map_nil]); first | done | rfl | (simp only [List.length_drop, List.length_take]; rfl)) ?_; (with_reducible refine (boarderref01_Last.calls kj17 a0 a1 t194 _ A24.out).mono ?_); rintro e w' ⟨rfl, ⟨nd, rfl⟩⟩; refine ⟨_, rfl, ?_⟩) | (go_at_call 18; (with_reducible refine (boarderlaw01_knows.calls kj17  t195 _ A27.out).mono ?_); rintro e w28 ⟨rfl, hb⟩; have n0_ := Aside0.mk (below_step (by repeat (first | (with_reducible first | exact HB.out | apply below_alloc | apply pw_below_drewN | apply below_drew1) | exact HB.out)) hb); clear HB; have HB := n0_; clear n0_; (try clear hb); (try clear hb2); (try clear hk); (try clear hi)))
                        go_ret
                        exact ⟨by first | rfl | (simp [errW_none, errW_some] <;> rfl) | (simp [*, errW_none, errW_some] <;> rfl), by repeat (first | (with_reducible first | exact HB.out | apply below_alloc | apply pw_below_drewN | apply below_drew1) | exact HB.out)⟩
                      · rw [if_neg c26] at H
                        have c26b0 : (t190 == 0) = false := beq_eq_false_iff_ne.mpr c26
                        have c26b1 : (t190 != 0) = true := bne_iff_ne.mpr c26
                        obtain rfl := Option.some.inj H
                        go_wp2_with (first | ((with_reducible refine gate_callee (f := 23) rfl ?_); refine goesL_ (some 60) rfl rfl Try.func23 (by kernel_rfl) rfl #[.int .i64 a0, .int .i64 a1] rfl (by (try simp only [List.map_toArray, List.map_cons, List.map_nil]); first | done | rfl | (simp only [List.length_drop, List.length_take]; rfl)) ?_; (with_reducible refine (boarderref01_Fair.calls kj17 a0 a1 true _ A22.out).mono ?_); rintro e w' ⟨rfl, ⟨nd, rfl⟩⟩; refine ⟨_, rfl, ?_⟩) | ((with_reducible refine gate_callee (f := 27) rfl ?_); refine goesL_ (some 74) rfl rfl Try.func27 (by kernel_rfl) rfl #[.int .i64 a0, .int .i64 a1] rfl (by (try simp only [List.map_toArray, List.map_cons, List.map_nil]); first | done | rfl | (simp only [List.length_drop, List.length_take]; rfl)) ?_; (with_reducible refine (boarderref01_Last.calls kj17 a0 a1 t194 _ A24.out).mono ?_); rintro e w' ⟨rfl, ⟨nd, rfl⟩⟩; refine ⟨_, rfl, ?_⟩))
                        go_ret
                        exact ⟨by first | rfl | (simp [errW_none, errW_some] <;> rfl) | (simp [*, errW_none, errW_some] <;> rfl), by repeat (first | (with_reducible first | exact HB.out | apply below_alloc | apply pw_below_drewN | apply below_drew1) | exact HB.out)⟩
                    · rw [if_neg c25] at H
                      have c25b0 : (t189 == t194) = false := beq_eq_false_iff_ne.mpr c25
                      have c25b1 : (t189 != t194) = true := bne_iff_ne.mpr c25
                      obtain rfl := Option.some.inj H
                      go_wp2_with (first | ((with_reducible refine gate_callee (f := 23) rfl ?_); refine goesL_ (some 60) rfl rfl Try.func23 (by kernel_rfl) rfl #[.int .i64 a0, .int .i64 a1] rfl (by (try simp only [List.map_toArray, List.map_cons, List.map_nil]); first | done | rfl | (simp only [List.length_drop, List.length_take]; rfl)) ?_; (with_reducible refine (boarderref01_Fair.calls kj17 a0 a1 true _ A22.out).mono ?_); rintro e w' ⟨rfl, ⟨nd, rfl⟩⟩; refine ⟨_, rfl, ?_⟩) | ((with_reducible refine gate_callee (f := 27) rfl ?_); refine goesL_ (some 74) rfl rfl Try.func27 (by kernel_rfl) rfl #[.int .i64 a0, .int .i64 a1] rfl (by (try simp only [List.map_toArray, List.map_cons, List.map_nil]); first | done | rfl | (simp only [List.length_drop, List.length_take]; rfl)) ?_; (with_reducible refine (boarderref01_Last.calls kj17 a0 a1 t194 _ A24.out).mono ?_); rintro e w' ⟨rfl, ⟨nd, rfl⟩⟩; refine ⟨_, rfl, ?_⟩))
                      go_ret
                      exact ⟨by first | rfl | (simp [errW_none, errW_some] <;> rfl) | (simp [*, errW_none, errW_some] <;> rfl), by repeat (first | (with_reducible first | exact HB.out | apply below_alloc | apply pw_below_drewN | apply below_drew1) | exact HB.out)⟩
                  · replace c23 := Bool.eq_false_iff.mpr c23
                    subst c23
                    have H1 : (if t189 = 0 then (if t190 = 1 then ((boarderlaw01_knows.f kj17).bind fun t196 => (some t196)) else (some false)) else (some false)) = some r := by rw [if_neg (show ¬ (false = true) by decide)] at H; exact H
                    clear H
                    have H := H1
                    clear H1
                    by_cases c29 : t189 = 0
                    · rw [if_pos c29] at H
                      have c29b0 : (t189 == 0) = true := beq_iff_eq.mpr c29
                      have c29b1 : (t189 != 0) = false := bne_eq_false_iff_eq.mpr c29
                      clear c29
                      by_cases c30 : t190 = 1
                      · rw [if_pos c30] at H
                        have c30b0 : (t190 == 1) = true := beq_iff_eq.mpr c30
                        have c30b1 : (t190 != 1) = false := bne_eq_false_iff_eq.mpr c30
                        clear c30
                        replace H := Option.bind_eq_some_iff.mp H
                        obtain ⟨t196, A310, H⟩ := H
                        replace H : (some t196) = some r := H
                        have A31 := Aside0.mk A310
                        clear A310
                        obtain rfl := Option.some.inj H
                        go_wp2_with (first | ((with_reducible refine gate_callee (f := 23) rfl ?_); refine goesL_ (some 60) rfl rfl Try.func23 (by kernel_rfl) rfl #[.int .i64 a0, .int .i64 a1] rfl (by (try simp only [List.map_toArray, List.map_cons, List.map_nil]); first | done | rfl | (simp only [List.length_drop, List.length_take]; rfl)) ?_; (with_reducible refine (boarderref01_Fair.calls kj17 a0 a1 false _ A22.out).mono ?_); rintro e w' ⟨rfl, ⟨nd, rfl⟩⟩; refine ⟨_, rfl, ?_⟩) | (go_at_call 18; (with_reducible refine (boarderlaw01_knows.calls kj17  t196 _ A31.out).mono ?_); rintro e w32 ⟨rfl, hb⟩; have n0_ := Aside0.mk (below_step (by repeat (first | (with_reducible first | exact HB.out | apply below_alloc | apply pw_below_drewN | apply below_drew1) | exact HB.out)) hb); clear HB; have HB := n0_; clear n0_; (try clear hb); (try clear hb2); (try clear hk); (try clear hi)))
                        go_ret
                        exact ⟨by first | rfl | (simp [errW_none, errW_some] <;> rfl) | (simp [*, errW_none, errW_some] <;> rfl), by repeat (first | (with_reducible first | exact HB.out | apply below_alloc | apply pw_below_drewN | apply below_drew1) | exact HB.out)⟩
                      · rw [if_neg c30] at H
                        have c30b0 : (t190 == 1) = false := beq_eq_false_iff_ne.mpr c30
                        have c30b1 : (t190 != 1) = true := bne_iff_ne.mpr c30
                        obtain rfl := Option.some.inj H
                        go_wp2_with (first | ((with_reducible refine gate_callee (f := 23) rfl ?_); refine goesL_ (some 60) rfl rfl Try.func23 (by kernel_rfl) rfl #[.int .i64 a0, .int .i64 a1] rfl (by (try simp only [List.map_toArray, List.map_cons, List.map_nil]); first | done | rfl | (simp only [List.length_drop, List.length_take]; rfl)) ?_; (with_reducible refine (boarderref01_Fair.calls kj17 a0 a1 false _ A22.out).mono ?_); rintro e w' ⟨rfl, ⟨nd, rfl⟩⟩; refine ⟨_, rfl, ?_⟩))
                        go_ret
                        exact ⟨by first | rfl | (simp [errW_none, errW_some] <;> rfl) | (simp [*, errW_none, errW_some] <;> rfl), by repeat (first | (with_reducible first | exact HB.out | apply below_alloc | apply pw_below_drewN | apply below_drew1) | exact HB.out)⟩
                    · rw [if_neg c29] at H
                      have c29b0 : (t189 == 0) = false := beq_eq_false_iff_ne.mpr c29
                      have c29b1 : (t189 != 0) = true := bne_iff_ne.mpr c29
                      obtain rfl := Option.some.inj H
                      go_wp2_with (first | ((with_reducible refine gate_callee (f := 23) rfl ?_); refine goesL_ (some 60) rfl rfl Try.func23 (by kernel_rfl) rfl #[.int .i64 a0, .int .i64 a1] rfl (by (try simp only [List.map_toArray, List.map_cons, List.map_nil]); first | done | rfl | (simp only [List.length_drop, List.length_take]; rfl)) ?_; (with_reducible refine (boarderref01_Fair.calls kj17 a0 a1 false _ A22.out).mono ?_); rintro e w' ⟨rfl, ⟨nd, rfl⟩⟩; refine ⟨_, rfl, ?_⟩))
                      go_ret
                      exact ⟨by first | rfl | (simp [errW_none, errW_some] <;> rfl) | (simp [*, errW_none, errW_some] <;> rfl), by repeat (first | (with_reducible first | exact HB.out | apply below_alloc | apply pw_below_drewN | apply below_drew1) | exact HB.out)⟩
    · replace c6 := Bool.eq_false_iff.mpr c6
      subst c6
      have H1 : (some false) = some r := by rw [if_neg (show ¬ (false = true) by decide)] at H; exact H
      clear H
      have H := H1
      clear H1
      obtain rfl := Option.some.inj H
      go_enter Try.func6, Try.ntmps6
      go_wp2_with (first | ((with_reducible refine gate_callee (f := 22) rfl ?_); refine goesL_ (some 11) rfl rfl Try.func22 (by kernel_rfl) rfl #[.int .i64 a0, .int .i64 a1] rfl (by (try simp only [List.map_toArray, List.map_cons, List.map_nil]); first | done | rfl | (simp only [List.length_drop, List.length_take]; rfl)) ?_; (with_reducible refine (addr_Fair.calls a0 a1 true _ A3.out).mono ?_); rintro e w' ⟨rfl, ⟨nd, rfl⟩⟩; refine ⟨_, rfl, ?_⟩) | ((with_reducible refine gate_callee (f := 23) rfl ?_); refine goesL_ (some 14) rfl rfl Try.func23 (by kernel_rfl) rfl #[.int .i64 a0, .int .i64 a1] rfl (by (try simp only [List.map_toArray, List.map_cons, List.map_nil]); first | done | rfl | (simp only [List.length_drop, List.length_take]; rfl)) ?_; (with_reducible refine (boarderref01_Fair.calls k a0 a1 false _ A4.out).mono ?_); rintro e w' ⟨rfl, ⟨nd, rfl⟩⟩; refine ⟨_, rfl, ?_⟩))
      go_ret
      exact ⟨by first | rfl | (simp [errW_none, errW_some] <;> rfl) | (simp [*, errW_none, errW_some] <;> rfl), by repeat (first | (with_reducible first | exact HB.out | apply below_alloc | apply pw_below_drewN | apply below_drew1) | exact HB.out)⟩
  · replace c5 := Bool.eq_false_iff.mpr c5
    subst c5
    have H1 : (if t186 = true then (some false) else ((addr_Mask.f a1).bind fun bt197 => ((addr_Last.f a0 a1).bind fun bt199 => (if a1 < 0 then (boarderlaw01_AddrPrefixes.j2 k a0 a1 bt197.1 bt197.2 bt199.1 bt199.2 true) else (boarderlaw01_AddrPrefixes.j2 k a0 a1 bt197.1 bt197.2 bt199.1 bt199.2 (decide (a1 > 32))))))) = some r := by rw [if_neg (show ¬ (false = true) by decide)] at H; exact H
    clear H
    have H := H1
    clear H1
    by_cases c33 : t186 = true
    · subst c33
      have H1 : (some false) = some r := by rw [if_pos rfl] at H; exact H
      clear H
      have H := H1
      clear H1
      obtain rfl := Option.some.inj H
      go_enter Try.func6, Try.ntmps6
      go_wp2_with (first | ((with_reducible refine gate_callee (f := 22) rfl ?_); refine goesL_ (some 11) rfl rfl Try.func22 (by kernel_rfl) rfl #[.int .i64 a0, .int .i64 a1] rfl (by (try simp only [List.map_toArray, List.map_cons, List.map_nil]); first | done | rfl | (simp only [List.length_drop, List.length_take]; rfl)) ?_; (with_reducible refine (addr_Fair.calls a0 a1 false _ A3.out).mono ?_); rintro e w' ⟨rfl, ⟨nd, rfl⟩⟩; refine ⟨_, rfl, ?_⟩) | ((with_reducible refine gate_callee (f := 23) rfl ?_); refine goesL_ (some 14) rfl rfl Try.func23 (by kernel_rfl) rfl #[.int .i64 a0, .int .i64 a1] rfl (by (try simp only [List.map_toArray, List.map_cons, List.map_nil]); first | done | rfl | (simp only [List.length_drop, List.length_take]; rfl)) ?_; (with_reducible refine (boarderref01_Fair.calls k a0 a1 true _ A4.out).mono ?_); rintro e w' ⟨rfl, ⟨nd, rfl⟩⟩; refine ⟨_, rfl, ?_⟩))
      go_ret
      exact ⟨by first | rfl | (simp [errW_none, errW_some] <;> rfl) | (simp [*, errW_none, errW_some] <;> rfl), by repeat (first | (with_reducible first | exact HB.out | apply below_alloc | apply pw_below_drewN | apply below_drew1) | exact HB.out)⟩
    · replace c33 := Bool.eq_false_iff.mpr c33
      subst c33
      have H1 : ((addr_Mask.f a1).bind fun bt197 => ((addr_Last.f a0 a1).bind fun bt199 => (if a1 < 0 then (boarderlaw01_AddrPrefixes.j2 k a0 a1 bt197.1 bt197.2 bt199.1 bt199.2 true) else (boarderlaw01_AddrPrefixes.j2 k a0 a1 bt197.1 bt197.2 bt199.1 bt199.2 (decide (a1 > 32)))))) = some r := by rw [if_neg (show ¬ (false = true) by decide)] at H; exact H
      clear H
      have H := H1
      clear H1
      replace H := Option.bind_eq_some_iff.mp H
      obtain ⟨⟨t197, t198⟩, A340, H⟩ := H
      replace H : ((addr_Last.f a0 a1).bind fun bt199 => (if a1 < 0 then (boarderlaw01_AddrPrefixes.j2 k a0 a1 t197 t198 bt199.1 bt199.2 true) else (boarderlaw01_AddrPrefixes.j2 k a0 a1 t197 t198 bt199.1 bt199.2 (decide (a1 > 32))))) = some r := H
      have A34 := Aside0.mk A340
      clear A340
      replace H := Option.bind_eq_some_iff.mp H
      obtain ⟨⟨t199, t200⟩, A350, H⟩ := H
      replace H : (if a1 < 0 then (boarderlaw01_AddrPrefixes.j2 k a0 a1 t197 t198 t199 t200 true) else (boarderlaw01_AddrPrefixes.j2 k a0 a1 t197 t198 t199 t200 (decide (a1 > 32)))) = some r := H
      have A35 := Aside0.mk A350
      clear A350
      have HC36 := Aside0.mk H
      clear H
      go_enter Try.func6, Try.ntmps6
      go_upto_region 5 with (first | ((with_reducible refine gate_callee (f := 22) rfl ?_); refine goesL_ (some 11) rfl rfl Try.func22 (by kernel_rfl) rfl #[.int .i64 a0, .int .i64 a1] rfl (by (try simp only [List.map_toArray, List.map_cons, List.map_nil]); first | done | rfl | (simp only [List.length_drop, List.length_take]; rfl)) ?_; (with_reducible refine (addr_Fair.calls a0 a1 false _ A3.out).mono ?_); rintro e w' ⟨rfl, ⟨nd, rfl⟩⟩; refine ⟨_, rfl, ?_⟩) | ((with_reducible refine gate_callee (f := 23) rfl ?_); refine goesL_ (some 14) rfl rfl Try.func23 (by kernel_rfl) rfl #[.int .i64 a0, .int .i64 a1] rfl (by (try simp only [List.map_toArray, List.map_cons, List.map_nil]); first | done | rfl | (simp only [List.length_drop, List.length_take]; rfl)) ?_; (with_reducible refine (boarderref01_Fair.calls k a0 a1 false _ A4.out).mono ?_); rintro e w' ⟨rfl, ⟨nd, rfl⟩⟩; refine ⟨_, rfl, ?_⟩) | ((with_reducible refine gate_callee (f := 24) rfl ?_); refine goesL_ (some 18) rfl rfl Try.func24 (by kernel_rfl) rfl #[.int .i64 a1] rfl (by (try simp only [List.map_toArray, List.map_cons, List.map_nil]); first | done | rfl | (simp only [List.length_drop, List.length_take]; rfl)) ?_; (with_reducible refine (addr_Mask.calls a1 t197 t198 _ A34.out).mono ?_); rintro e w' ⟨rfl, ⟨nd, rfl⟩⟩; refine ⟨_, rfl, ?_⟩) | ((with_reducible refine gate_callee (f := 25) rfl ?_); refine goesL_ (some 24) rfl rfl Try.func25 (by kernel_rfl) rfl #[.int .i64 a0, .int .i64 a1] rfl (by (try simp only [List.map_toArray, List.map_cons, List.map_nil]); first | done | rfl | (simp only [List.length_drop, List.length_take]; rfl)) ?_; (with_reducible refine (addr_Last.calls a0 a1 t199 t200 _ A35.out).mono ?_); rintro e w' ⟨rfl, ⟨nd, rfl⟩⟩; refine ⟨_, rfl, ?_⟩))
      (try simp only [Act.put, List.setIfInBounds_toArray, List.set_cons_zero, List.set_cons_succ])
      go_cut [32] (fun v32 wc => ∃ (kq : Nat) (x32_35 : Bool), v32 = .bool x32_35 ∧ Aside0 (boarderlaw01_AddrPrefixes.j2 kq a0 a1 t197 t198 t199 t200 x32_35 = some r) ∧ Aside0 (kq ≤ k) ∧ Aside0 (Below w.heap.size w wc))
      case first =>
        have H := HC36.out
        clear HC36
        by_cases c37 : a1 < 0
        · rw [if_pos c37] at H
          have c37b0 : decide (a1 < 0) = true := decide_eq_true c37
          clear c37
          (first | rw [c37b0] | (simp only [i64_w, i32_w]; rw [c37b0]) | skip)
          have H' := Aside0.mk H
          clear H
          go_wp2
          go_meet
          case rel => exact ⟨_, (true), (by first | rfl | (simp; done) | (simp [*]; done)), H', ⟨by first | omega | exact Nat.le_refl _⟩, ⟨by repeat (first | (with_reducible first | exact HB.out | apply below_alloc | apply pw_below_drewN | apply below_drew1) | exact HB.out)⟩⟩
        · rw [if_neg c37] at H
          have c37b0 : decide (a1 < 0) = false := decide_eq_false c37
          clear c37
          (first | rw [c37b0] | (simp only [i64_w, i32_w]; rw [c37b0]) | skip)
          have H' := Aside0.mk H
          clear H
          go_wp2
          go_meet
          case rel => exact ⟨_, (decide (a1 > 32)), (by first | rfl | (simp; done) | (simp [*]; done)), H', ⟨by first | omega | exact Nat.le_refl _⟩, ⟨by repeat (first | (with_reducible first | exact HB.out | apply below_alloc | apply pw_below_drewN | apply below_drew1) | exact HB.out)⟩⟩
      case rest =>
        clear HC36
        try clear c1
        try clear c2
        try clear p2
        try clear c3
        try clear c5
        try clear c6
        try clear c10
        try clear c10b0
        try clear c11
        try clear c12
        try clear c12b0
        try clear c12b1
        try clear c13
        try clear c13b0
        try clear c13b1
        try clear c14
        try clear c14b0
        try clear c14b1
        try clear c15
        try clear c15b0
        try clear c15b1
        try clear c20
        try clear c20b0
        try clear c20b1
        try clear c21
        try clear c22
        try clear c23
        try clear c24
        try clear c25
        try clear c25b0
        try clear c25b1
        try clear c26
        try clear c26b0
        try clear c26b1
        try clear c27
        try clear c29
        try clear c29b0
        try clear c29b1
        try clear c30
        try clear c30b0
        try clear c30b1
        try clear c33
        try clear c37
        try clear c37b0
        try clear p2
        obtain ⟨kq, x32_35, rfl, HA, HJ35, HB⟩ := hcut
        cases kq with
        | zero => exact absurd HA.out (by simp [boarderlaw01_AddrPrefixes.j2])
        | succ kj35 =>
          have H := HA.out
          clear HA
          simp only [boarderlaw01_AddrPrefixes.j2] at H
          by_cases c38 : x32_35 = true
          · subst c38
            have H1 : (if t197 = 0 then (if t198 = 1 then (if t199 = 0 then (if t200 = 1 then ((boarderlaw01_knows.f kj35).bind fun t201 => (some t201)) else (some false)) else (some false)) else (some false)) else (some false)) = some r := by rw [if_pos rfl] at H; exact H
            clear H
            have H := H1
            clear H1
            by_cases c39 : t197 = 0
            · rw [if_pos c39] at H
              have c39b0 : (t197 == 0) = true := beq_iff_eq.mpr c39
              have c39b1 : (t197 != 0) = false := bne_eq_false_iff_eq.mpr c39
              clear c39
              by_cases c40 : t198 = 1
              · rw [if_pos c40] at H
                have c40b0 : (t198 == 1) = true := beq_iff_eq.mpr c40
                have c40b1 : (t198 != 1) = false := bne_eq_false_iff_eq.mpr c40
                clear c40
                by_cases c41 : t199 = 0
                · rw [if_pos c41] at H
                  have c41b0 : (t199 == 0) = true := beq_iff_eq.mpr c41
                  have c41b1 : (t199 != 0) = false := bne_eq_false_iff_eq.mpr c41
                  clear c41
                  by_cases c42 : t200 = 1
                  · rw [if_pos c42] at H
                    have c42b0 : (t200 == 1) = true := beq_iff_eq.mpr c42
                    have c42b1 : (t200 != 1) = false := bne_eq_false_iff_eq.mpr c42
                    clear c42
                    replace H := Option.bind_eq_some_iff.mp H
                    obtain ⟨t201, A430, H⟩ := H
                    replace H : (some t201) = some r := H
                    have A43 := Aside0.mk A430
                    clear A430
                    obtain rfl := Option.some.inj H
                    go_wp2_with (first | (go_at_call 18; (with_reducible refine (boarderlaw01_knows.calls kj35  t201 _ A43.out).mono ?_); rintro e w44 ⟨rfl, hb⟩; have n0_ := Aside0.mk (below_step (by repeat (first | (with_reducible first | exact HB.out | apply below_alloc | apply pw_below_drewN | apply below_drew1) | exact HB.out)) hb); clear HB; have HB := n0_; clear n0_; (try clear hb); (try clear hb2); (try clear hk); (try clear hi)))
                    go_ret
                    exact ⟨by first | rfl | (simp [errW_none, errW_some] <;> rfl) | (simp [*, errW_none, errW_some] <;> rfl), by repeat (first | (with_reducible first | exact HB.out | apply below_alloc | apply pw_below_drewN | apply below_drew1) | exact HB.out)⟩
                  · rw [if_neg c42] at H
                    have c42b0 : (t200 == 1) = false := beq_eq_false_iff_ne.mpr c42
                    have c42b1 : (t200 != 1) = true := bne_iff_ne.mpr c42
                    obtain rfl := Option.some.inj H
                    go_wp2
                    go_ret
                    exact ⟨by first | rfl | (simp [errW_none, errW_some] <;> rfl) | (simp [*, errW_none, errW_some] <;> rfl), by repeat (first | (with_reducible first | exact HB.out | apply below_alloc | apply pw_below_drewN | apply below_drew1) | exact HB.out)⟩
                · rw [if_neg c41] at H
                  have c41b0 : (t199 == 0) = false := beq_eq_false_iff_ne.mpr c41
                  have c41b1 : (t199 != 0) = true := bne_iff_ne.mpr c41
                  obtain rfl := Option.some.inj H
                  go_wp2
                  go_ret
                  exact ⟨by first | rfl | (simp [errW_none, errW_some] <;> rfl) | (simp [*, errW_none, errW_some] <;> rfl), by repeat (first | (with_reducible first | exact HB.out | apply below_alloc | apply pw_below_drewN | apply below_drew1) | exact HB.out)⟩
              · rw [if_neg c40] at H
                have c40b0 : (t198 == 1) = false := beq_eq_false_iff_ne.mpr c40
                have c40b1 : (t198 != 1) = true := bne_iff_ne.mpr c40
                obtain rfl := Option.some.inj H
                go_wp2
                go_ret
                exact ⟨by first | rfl | (simp [errW_none, errW_some] <;> rfl) | (simp [*, errW_none, errW_some] <;> rfl), by repeat (first | (with_reducible first | exact HB.out | apply below_alloc | apply pw_below_drewN | apply below_drew1) | exact HB.out)⟩
            · rw [if_neg c39] at H
              have c39b0 : (t197 == 0) = false := beq_eq_false_iff_ne.mpr c39
              have c39b1 : (t197 != 0) = true := bne_iff_ne.mpr c39
              obtain rfl := Option.some.inj H
              go_wp2
              go_ret
              exact ⟨by first | rfl | (simp [errW_none, errW_some] <;> rfl) | (simp [*, errW_none, errW_some] <;> rfl), by repeat (first | (with_reducible first | exact HB.out | apply below_alloc | apply pw_below_drewN | apply below_drew1) | exact HB.out)⟩
          · replace c38 := Bool.eq_false_iff.mpr c38
            subst c38
            have H1 : ((boarderref01_Mask.f kj35 a1).bind fun t202 => (if t197 = t202 then (boarderlaw01_AddrPrefixes.j3 kj35 a0 a1 t199 t200 (t198 != 0)) else (boarderlaw01_AddrPrefixes.j3 kj35 a0 a1 t199 t200 true))) = some r := by rw [if_neg (show ¬ (false = true) by decide)] at H; exact H
            clear H
            have H := H1
            clear H1
            have HC45 := Aside0.mk H
            clear H
            go_upto_region 7 with (fail)
            go_cut [57] (fun v57 wc => ∃ (kq : Nat) (x57_44 : Bool), v57 = .bool x57_44 ∧ Aside0 (boarderlaw01_AddrPrefixes.j3 kq a0 a1 t199 t200 x57_44 = some r) ∧ Aside0 (kq ≤ kj35) ∧ Aside0 (Below w.heap.size w wc))
            case first =>
              have H := HC45.out
              clear HC45
              replace H := Option.bind_eq_some_iff.mp H
              obtain ⟨t202, A460, H⟩ := H
              replace H : (if t197 = t202 then (boarderlaw01_AddrPrefixes.j3 kj35 a0 a1 t199 t200 (t198 != 0)) else (boarderlaw01_AddrPrefixes.j3 kj35 a0 a1 t199 t200 true)) = some r := H
              have A46 := Aside0.mk A460
              clear A460
              by_cases c47 : t197 = t202
              · rw [if_pos c47] at H
                have c47b0 : (t197 == t202) = true := beq_iff_eq.mpr c47
                have c47b1 : (t197 != t202) = false := bne_eq_false_iff_eq.mpr c47
                clear c47
                (first | rw [c47b0] | (simp only [i64_w, i32_w]; rw [c47b0]) | skip)
                have H' := Aside0.mk H
                clear H
                go_wp2_with (first | ((with_reducible refine gate_callee (f := 26) rfl ?_); refine goesL_ (some 52) rfl rfl Try.func26 (by kernel_rfl) rfl #[.int .i64 a1] rfl (by (try simp only [List.map_toArray, List.map_cons, List.map_nil]); first | done | rfl | (simp only [List.length_drop, List.length_take]; rfl)) ?_; (with_reducible refine (boarderref01_Mask.calls kj35 a1 t202 _ A46.out).mono ?_); rintro e w' ⟨rfl, ⟨nd, rfl⟩⟩; refine ⟨_, rfl, ?_⟩))
                go_meet
                case rel => exact ⟨_, ((t198 != 0)), (by first | rfl | (simp; done) | (simp [*]; done)), H', ⟨by have := HJ35.out; first | omega | exact Nat.le_refl _⟩, ⟨by repeat (first | (with_reducible first | exact HB.out | apply below_alloc | apply pw_below_drewN | apply below_drew1) | exact HB.out)⟩⟩
              · rw [if_neg c47] at H
                have c47b0 : (t197 == t202) = false := beq_eq_false_iff_ne.mpr c47
                have c47b1 : (t197 != t202) = true := bne_iff_ne.mpr c47
                (first | rw [c47b0] | (simp only [i64_w, i32_w]; rw [c47b0]) | skip)
                have H' := Aside0.mk H
                clear H
                go_wp2_with (first | ((with_reducible refine gate_callee (f := 26) rfl ?_); refine goesL_ (some 52) rfl rfl Try.func26 (by kernel_rfl) rfl #[.int .i64 a1] rfl (by (try simp only [List.map_toArray, List.map_cons, List.map_nil]); first | done | rfl | (simp only [List.length_drop, List.length_take]; rfl)) ?_; (with_reducible refine (boarderref01_Mask.calls kj35 a1 t202 _ A46.out).mono ?_); rintro e w' ⟨rfl, ⟨nd, rfl⟩⟩; refine ⟨_, rfl, ?_⟩))
                go_meet
                case rel => exact ⟨_, (true), (by first | rfl | (simp; done) | (simp [*]; done)), H', ⟨by have := HJ35.out; first | omega | exact Nat.le_refl _⟩, ⟨by repeat (first | (with_reducible first | exact HB.out | apply below_alloc | apply pw_below_drewN | apply below_drew1) | exact HB.out)⟩⟩
            case rest =>
              clear HC45
              try clear c1
              try clear c2
              try clear p2
              try clear c3
              try clear c4
              try clear c5
              try clear c6
              try clear c10
              try clear c10b0
              try clear c11
              try clear c12
              try clear c12b0
              try clear c12b1
              try clear c13
              try clear c13b0
              try clear c13b1
              try clear c14
              try clear c14b0
              try clear c14b1
              try clear c15
              try clear c15b0
              try clear c15b1
              try clear c20
              try clear c20b0
              try clear c20b1
              try clear c21
              try clear c22
              try clear c23
              try clear c24
              try clear c25
              try clear c25b0
              try clear c25b1
              try clear c26
              try clear c26b0
              try clear c26b1
              try clear c27
              try clear c29
              try clear c29b0
              try clear c29b1
              try clear c30
              try clear c30b0
              try clear c30b1
              try clear c33
              try clear c37
              try clear c37b0
              try clear c38
              try clear c39
              try clear c39b0
              try clear c39b1
              try clear c40
              try clear c40b0
              try clear c40b1
              try clear c41
              try clear c41b0
              try clear c41b1
              try clear c42
              try clear c42b0
              try clear c42b1
              try clear c47
              try clear c47b0
              try clear c47b1
              try clear p2
              obtain ⟨kq, x57_44, rfl, HA, HJ44, HB⟩ := hcut
              cases kq with
              | zero => exact absurd HA.out (by simp [boarderlaw01_AddrPrefixes.j3])
              | succ kj44 =>
                have H := HA.out
                clear HA
                simp only [boarderlaw01_AddrPrefixes.j3] at H
                by_cases c48 : x57_44 = true
                · subst c48
                  have H1 : (some false) = some r := by rw [if_pos rfl] at H; exact H
                  clear H
                  have H := H1
                  clear H1
                  obtain rfl := Option.some.inj H
                  go_wp2
                  go_ret
                  exact ⟨by first | rfl | (simp [errW_none, errW_some] <;> rfl) | (simp [*, errW_none, errW_some] <;> rfl), by repeat (first | (with_reducible first | exact HB.out | apply below_alloc | apply pw_below_drewN | apply below_drew1) | exact HB.out)⟩
                · replace c48 := Bool.eq_false_iff.mpr c48
                  subst c48
                  have H1 : ((boarderref01_Fair.f kj44 a0 a1).bind fun t203 => (if t203 = true then ((boarderref01_Last.f kj44 a0 a1).bind fun t204 => (if t199 = t204 then (if t200 = 0 then ((boarderlaw01_knows.f kj44).bind fun t205 => (some t205)) else (some false)) else (some false))) else (if t199 = 0 then (if t200 = 1 then ((boarderlaw01_knows.f kj44).bind fun t206 => (some t206)) else (some false)) else (some false)))) = some r := by rw [if_neg (show ¬ (false = true) by decide)] at H; exact H
                  clear H
                  have H := H1
                  clear H1
                  replace H := Option.bind_eq_some_iff.mp H
                  obtain ⟨t203, A490, H⟩ := H
                  replace H : (if t203 = true then ((boarderref01_Last.f kj44 a0 a1).bind fun t204 => (if t199 = t204 then (if t200 = 0 then ((boarderlaw01_knows.f kj44).bind fun t205 => (some t205)) else (some false)) else (some false))) else (if t199 = 0 then (if t200 = 1 then ((boarderlaw01_knows.f kj44).bind fun t206 => (some t206)) else (some false)) else (some false))) = some r := H
                  have A49 := Aside0.mk A490
                  clear A490
                  by_cases c50 : t203 = true
                  · subst c50
                    have H1 : ((boarderref01_Last.f kj44 a0 a1).bind fun t204 => (if t199 = t204 then (if t200 = 0 then ((boarderlaw01_knows.f kj44).bind fun t205 => (some t205)) else (some false)) else (some false))) = some r := by rw [if_pos rfl] at H; exact H
                    clear H
                    have H := H1
                    clear H1
                    replace H := Option.bind_eq_some_iff.mp H
                    obtain ⟨t204, A510, H⟩ := H
                    replace H : (if t199 = t204 then (if t200 = 0 then ((boarderlaw01_knows.f kj44).bind fun t205 => (some t205)) else (some false)) else (some false)) = some r := H
                    have A51 := Aside0.mk A510
                    clear A510
                    by_cases c52 : t199 = t204
                    · rw [if_pos c52] at H
                      have c52b0 : (t199 == t204) = true := beq_iff_eq.mpr c52
                      have c52b1 : (t199 != t204) = false := bne_eq_false_iff_eq.mpr c52
                      clear c52
                      by_cases c53 : t200 = 0
                      · rw [if_pos c53] at H
                        have c53b0 : (t200 == 0) = true := beq_iff_eq.mpr c53
                        have c53b1 : (t200 != 0) = false := bne_eq_false_iff_eq.mpr c53
                        clear c53
                        replace H := Option.bind_eq_some_iff.mp H
                        obtain ⟨t205, A540, H⟩ := H
                        replace H : (some t205) = some r := H
                        have A54 := Aside0.mk A540
                        clear A540
                        obtain rfl := Option.some.inj H
                        go_wp2_with (first | ((with_reducible refine gate_callee (f := 23) rfl ?_); refine goesL_ (some 60) rfl rfl Try.func23 (by kernel_rfl) rfl #[.int .i64 a0, .int .i64 a1] rfl (by (try simp only [List.map_toArray, List.map_cons, List.map_nil]); first | done | rfl | (simp only [List.length_drop, List.length_take]; rfl)) ?_; (with_reducible refine (boarderref01_Fair.calls kj44 a0 a1 true _ A49.out).mono ?_); rintro e w' ⟨rfl, ⟨nd, rfl⟩⟩; refine ⟨_, rfl, ?_⟩) | ((with_reducible refine gate_callee (f := 27) rfl ?_); refine goesL_ (some 74) rfl rfl Try.func27 (by kernel_rfl) rfl #[.int .i64 a0, .int .i64 a1] rfl (by (try simp only [List.map_toArray, List.map_cons, List.map_nil]); first | done | rfl | (simp only [List.length_drop, List.length_take]; rfl)) ?_; (with_reducible refine (boarderref01_Last.calls kj44 a0 a1 t204 _ A51.out).mono ?_); rintro e w' ⟨rfl, ⟨nd, rfl⟩⟩; refine ⟨_, rfl, ?_⟩) | (go_at_call 18; (with_reducible refine (boarderlaw01_knows.calls kj44  t205 _ A54.out).mono ?_); rintro e w55 ⟨rfl, hb⟩; have n0_ := Aside0.mk (below_step (by repeat (first | (with_reducible first | exact HB.out | apply below_alloc | apply pw_below_drewN | apply below_drew1) | exact HB.out)) hb); clear HB; have HB := n0_; clear n0_; (try clear hb); (try clear hb2); (try clear hk); (try clear hi)))
                        go_ret
                        exact ⟨by first | rfl | (simp [errW_none, errW_some] <;> rfl) | (simp [*, errW_none, errW_some] <;> rfl), by repeat (first | (with_reducible first | exact HB.out | apply below_alloc | apply pw_below_drewN | apply below_drew1) | exact HB.out)⟩
                      · rw [if_neg c53] at H
                        have c53b0 : (t200 == 0) = false := beq_eq_false_iff_ne.mpr c53
                        have c53b1 : (t200 != 0) = true := bne_iff_ne.mpr c53
                        obtain rfl := Option.some.inj H
                        go_wp2_with (first | ((with_reducible refine gate_callee (f := 23) rfl ?_); refine goesL_ (some 60) rfl rfl Try.func23 (by kernel_rfl) rfl #[.int .i64 a0, .int .i64 a1] rfl (by (try simp only [List.map_toArray, List.map_cons, List.map_nil]); first | done | rfl | (simp only [List.length_drop, List.length_take]; rfl)) ?_; (with_reducible refine (boarderref01_Fair.calls kj44 a0 a1 true _ A49.out).mono ?_); rintro e w' ⟨rfl, ⟨nd, rfl⟩⟩; refine ⟨_, rfl, ?_⟩) | ((with_reducible refine gate_callee (f := 27) rfl ?_); refine goesL_ (some 74) rfl rfl Try.func27 (by kernel_rfl) rfl #[.int .i64 a0, .int .i64 a1] rfl (by (try simp only [List.map_toArray, List.map_cons, List.map_nil]); first | done | rfl | (simp only [List.length_drop, List.length_take]; rfl)) ?_; (with_reducible refine (boarderref01_Last.calls kj44 a0 a1 t204 _ A51.out).mono ?_); rintro e w' ⟨rfl, ⟨nd, rfl⟩⟩; refine ⟨_, rfl, ?_⟩))
                        go_ret
                        exact ⟨by first | rfl | (simp [errW_none, errW_some] <;> rfl) | (simp [*, errW_none, errW_some] <;> rfl), by repeat (first | (with_reducible first | exact HB.out | apply below_alloc | apply pw_below_drewN | apply below_drew1) | exact HB.out)⟩
                    · rw [if_neg c52] at H
                      have c52b0 : (t199 == t204) = false := beq_eq_false_iff_ne.mpr c52
                      have c52b1 : (t199 != t204) = true := bne_iff_ne.mpr c52
                      obtain rfl := Option.some.inj H
                      go_wp2_with (first | ((with_reducible refine gate_callee (f := 23) rfl ?_); refine goesL_ (some 60) rfl rfl Try.func23 (by kernel_rfl) rfl #[.int .i64 a0, .int .i64 a1] rfl (by (try simp only [List.map_toArray, List.map_cons, List.map_nil]); first | done | rfl | (simp only [List.length_drop, List.length_take]; rfl)) ?_; (with_reducible refine (boarderref01_Fair.calls kj44 a0 a1 true _ A49.out).mono ?_); rintro e w' ⟨rfl, ⟨nd, rfl⟩⟩; refine ⟨_, rfl, ?_⟩) | ((with_reducible refine gate_callee (f := 27) rfl ?_); refine goesL_ (some 74) rfl rfl Try.func27 (by kernel_rfl) rfl #[.int .i64 a0, .int .i64 a1] rfl (by (try simp only [List.map_toArray, List.map_cons, List.map_nil]); first | done | rfl | (simp only [List.length_drop, List.length_take]; rfl)) ?_; (with_reducible refine (boarderref01_Last.calls kj44 a0 a1 t204 _ A51.out).mono ?_); rintro e w' ⟨rfl, ⟨nd, rfl⟩⟩; refine ⟨_, rfl, ?_⟩))
                      go_ret
                      exact ⟨by first | rfl | (simp [errW_none, errW_some] <;> rfl) | (simp [*, errW_none, errW_some] <;> rfl), by repeat (first | (with_reducible first | exact HB.out | apply below_alloc | apply pw_below_drewN | apply below_drew1) | exact HB.out)⟩
                  · replace c50 := Bool.eq_false_iff.mpr c50
                    subst c50
                    have H1 : (if t199 = 0 then (if t200 = 1 then ((boarderlaw01_knows.f kj44).bind fun t206 => (some t206)) else (some false)) else (some false)) = some r := by rw [if_neg (show ¬ (false = true) by decide)] at H; exact H
                    clear H
                    have H := H1
                    clear H1
                    by_cases c56 : t199 = 0
                    · rw [if_pos c56] at H
                      have c56b0 : (t199 == 0) = true := beq_iff_eq.mpr c56
                      have c56b1 : (t199 != 0) = false := bne_eq_false_iff_eq.mpr c56
                      clear c56
                      by_cases c57 : t200 = 1
                      · rw [if_pos c57] at H
                        have c57b0 : (t200 == 1) = true := beq_iff_eq.mpr c57
                        have c57b1 : (t200 != 1) = false := bne_eq_false_iff_eq.mpr c57
                        clear c57
                        replace H := Option.bind_eq_some_iff.mp H
                        obtain ⟨t206, A580, H⟩ := H
                        replace H : (some t206) = some r := H
                        have A58 := Aside0.mk A580
                        clear A580
                        obtain rfl := Option.some.inj H
                        go_wp2_with (first | ((with_reducible refine gate_callee (f := 23) rfl ?_); refine goesL_ (some 60) rfl rfl Try.func23 (by kernel_rfl) rfl #[.int .i64 a0, .int .i64 a1] rfl (by (try simp only [List.map_toArray, List.map_cons, List.map_nil]); first | done | rfl | (simp only [List.length_drop, List.length_take]; rfl)) ?_; (with_reducible refine (boarderref01_Fair.calls kj44 a0 a1 false _ A49.out).mono ?_); rintro e w' ⟨rfl, ⟨nd, rfl⟩⟩; refine ⟨_, rfl, ?_⟩) | (go_at_call 18; (with_reducible refine (boarderlaw01_knows.calls kj44  t206 _ A58.out).mono ?_); rintro e w59 ⟨rfl, hb⟩; have n0_ := Aside0.mk (below_step (by repeat (first | (with_reducible first | exact HB.out | apply below_alloc | apply pw_below_drewN | apply below_drew1) | exact HB.out)) hb); clear HB; have HB := n0_; clear n0_; (try clear hb); (try clear hb2); (try clear hk); (try clear hi)))
                        go_ret
                        exact ⟨by first | rfl | (simp [errW_none, errW_some] <;> rfl) | (simp [*, errW_none, errW_some] <;> rfl), by repeat (first | (with_reducible first | exact HB.out | apply below_alloc | apply pw_below_drewN | apply below_drew1) | exact HB.out)⟩
                      · rw [if_neg c57] at H
                        have c57b0 : (t200 == 1) = false := beq_eq_false_iff_ne.mpr c57
                        have c57b1 : (t200 != 1) = true := bne_iff_ne.mpr c57
                        obtain rfl := Option.some.inj H
                        go_wp2_with (first | ((with_reducible refine gate_callee (f := 23) rfl ?_); refine goesL_ (some 60) rfl rfl Try.func23 (by kernel_rfl) rfl #[.int .i64 a0, .int .i64 a1] rfl (by (try simp only [List.map_toArray, List.map_cons, List.map_nil]); first | done | rfl | (simp only [List.length_drop, List.length_take]; rfl)) ?_; (with_reducible refine (boarderref01_Fair.calls kj44 a0 a1 false _ A49.out).mono ?_); rintro e w' ⟨rfl, ⟨nd, rfl⟩⟩; refine ⟨_, rfl, ?_⟩))
                        go_ret
                        exact ⟨by first | rfl | (simp [errW_none, errW_some] <;> rfl) | (simp [*, errW_none, errW_some] <;> rfl), by repeat (first | (with_reducible first | exact HB.out | apply below_alloc | apply pw_below_drewN | apply below_drew1) | exact HB.out)⟩
                    · rw [if_neg c56] at H
                      have c56b0 : (t199 == 0) = false := beq_eq_false_iff_ne.mpr c56
                      have c56b1 : (t199 != 0) = true := bne_iff_ne.mpr c56
                      obtain rfl := Option.some.inj H
                      go_wp2_with (first | ((with_reducible refine gate_callee (f := 23) rfl ?_); refine goesL_ (some 60) rfl rfl Try.func23 (by kernel_rfl) rfl #[.int .i64 a0, .int .i64 a1] rfl (by (try simp only [List.map_toArray, List.map_cons, List.map_nil]); first | done | rfl | (simp only [List.length_drop, List.length_take]; rfl)) ?_; (with_reducible refine (boarderref01_Fair.calls kj44 a0 a1 false _ A49.out).mono ?_); rintro e w' ⟨rfl, ⟨nd, rfl⟩⟩; refine ⟨_, rfl, ?_⟩))
                      go_ret
                      exact ⟨by first | rfl | (simp [errW_none, errW_some] <;> rfl) | (simp [*, errW_none, errW_some] <;> rfl), by repeat (first | (with_reducible first | exact HB.out | apply below_alloc | apply pw_below_drewN | apply below_drew1) | exact HB.out)⟩

/-- THE ONE PURE STATEMENT of boarderlaw01_AddrPrefixes: yours. -/
def boarderlaw01_AddrPrefixes.Pure : Prop := ∀ (a0 : Int) (a1 : Int), (Lit.int .i64 a0).wf = true → (Lit.int .i64 a1).wf = true → ∃ k, boarderlaw01_AddrPrefixes.f k a0 a1 = some true
theorem boarderlaw01_AddrPrefixes.walk (P : boarderlaw01_AddrPrefixes.Pure) (a0 : Int) (a1 : Int) (w : World) (w0 : (Lit.int .i64 a0).wf = true) (w1 : (Lit.int .i64 a1).wf = true) :
    Calls Try.prog 6 #[.int .i64 a0, .int .i64 a1] w fun e w' => e = .returned (.bool true) ∧ Below w.heap.size w w' := by
  obtain ⟨k, h⟩ := P a0 a1 w0 w1
  refine (boarderlaw01_AddrPrefixes.calls k a0 a1 true w h).mono ?_
  rintro e w' ⟨rfl, hd⟩
  exact ⟨rfl, hd⟩

end Go.Proofs.Ytlabpabnddfllaa.PAddr
