/- Lean functions for Go functions of the given program, and proofs that the code computes them, each under its theorem's own conditions. Written by a program of this session. -/
import Derived.Test.YtlabpabnddfllaaPTablex0
import Derived.Test.YtlabpabnddfllaaPTablex1
import Derived.Test.YtlabpabnddfllaaPTablex2
import Derived.Test.YtlabpabnddfllaaPTablex3
namespace Go.Proofs.Ytlabpabnddfllaa.PTable
open Go.RowKit Go.Proofs.YtlabpabnddfllaaW.PrintWords Go.Proofs.YtlabpabnddfllaaW.PrintLast Go.Proofs.YtlabpabnddfllaaW.PrintMore
attribute [local go_sem] max2_int min2_int max_two min_two max_three min_three max_four min_four   -- for this text's walks alone
set_option linter.unusedVariables false
set_option linter.unusedSimpArgs false

attribute [local go_sem high] eqA43
/-! ### boarderlaw12_knows: function 33 -/
def boarderlaw12_knows.f (k : Nat)  : Option (Bool) := (table_Set.f k ([] : List (S43)) 8 3 10 (⟨#[105, 48, 49]⟩ : ByteArray)).bind fun bt167 => ((table_Set.f k bt167.1 7 1 10 (⟨#[105, 48, 49]⟩ : ByteArray)).bind fun bt171 => ((table_Holds.f 7 1 10 (⟨#[105, 48, 49]⟩ : ByteArray) 9).bind fun t175 => (if t175 = true then ((table_Holds.f 7 1 10 (⟨#[105, 48, 49]⟩ : ByteArray) 10).bind fun t176 => (if t176 = true then (none) else ((table_Rests.f 8 3 10 (⟨#[105, 48, 49]⟩ : ByteArray) 9).bind fun t177 => (if t177 = true then (if bt167.2 = 0 then (if bt171.2 = 0 then (if (bt171.1.length : Int) = 2 then (if 0 < (bt171.1.length : Int) then (if (((rd_T43 bt171.1 0).f0) == 7 && (((rd_T43 bt171.1 0).f1) == 1 && (((rd_T43 bt171.1 0).f2) == 10 && ((((rd_T43 bt171.1 0).f3).toList) == ([105, 48, 49] : List UInt8))))) = true then ((table_Free.f k bt171.1 8 (⟨#[105, 48, 49]⟩ : ByteArray) 9).bind fun t179 => (if t179 = true then (none) else ((table_Free.f k bt171.1 8 (⟨#[105, 48, 50]⟩ : ByteArray) 10).bind fun t180 => (if t180 = true then ((table_Free.f k bt171.1 7 (⟨#[105, 48, 49]⟩ : ByteArray) 9).bind fun t181 => (if t181 = true then ((table_Free.f k bt171.1 7 (⟨#[105, 48, 50]⟩ : ByteArray) 9).bind fun t182 => (if t182 = true then (none) else ((table_Right.f k bt171.1).bind fun t183 => (some t183)))) else (none))) else (none))))) else (none)) else (none)) else (none)) else (none)) else (none)) else (none))))) else (none))))
theorem boarderlaw12_knows.mono : ∀ k, LeO (boarderlaw12_knows.f k ) (boarderlaw12_knows.f (k + 1) ) := by
  intro  k
  unfold boarderlaw12_knows.f
  repeat' first
      | (with_reducible exact table_Free.mono _ _ _ _ _)
      | (with_reducible exact table_Right.mono _ _)
      | (with_reducible exact table_Set.mono _ _ _ _ _ _)
      | (with_reducible exact LeO.refl _)
      | (with_reducible exact LeO.none _)
      | (with_reducible refine LeO.ite ?_ ?_)
      | (with_reducible refine LeO.bind ?_ (fun _ => ?_))
      | exact table_Free.mono _ _ _ _ _
      | exact table_Right.mono _ _
      | exact table_Set.mono _ _ _ _ _ _
      | exact LeO.none _
      | refine LeO.ite ?_ ?_
      | refine LeO.bind ?_ (fun _ => ?_)
def boarderlaw12_knows.T5 : Bool × List (List Nat × List Nat) := (true, [([], []), ([0], [0]), ([1, 1], [1]), ([2], [2]), ([3, 2, 2], [2, 3]), ([4, 2], [2, 4]), ([2, 5], [2, 5]), ([6, 4], [6]), ([7], [7]), ([8, 7, 7], [7, 8]), ([7, 9], [7, 9]), ([10, 9], [10]), ([11], [11]), ([12, 11], [11, 12]), ([11, 13], [11, 13]), ([14, 11], [14]), ([15], [15]), ([16, 15], [15, 16]), ([15, 17], [15, 17]), ([18, 15], [18]), ([19], [19]), ([20, 19], [19, 20]), ([21, 19], [19, 21]), ([19, 22], [19, 22]), ([23, 19], [23]), ([24], [24]), ([25, 24], [24, 25]), ([26, 24], [24, 26]), ([24], [24]), ([27, 28, 24], [24, 27, 28]), ([24, 29], [24, 29]), ([30, 24], [30]), ([31], [31]), ([32, 31, 31], [31, 32]), ([33, 31], [31, 33]), ([31, 34], [31, 34]), ([35, 33], [35]), ([36], [36]), ([37, 36, 36], [36, 37]), ([36, 38], [36, 38]), ([39, 38], [39]), ([40], [40]), ([41, 40, 40], [40, 41]), ([40, 42], [40, 42]), ([43, 42], [43]), ([44], [44]), ([45, 44, 44], [44, 45]), ([46, 44], [44, 46]), ([44, 47], [44, 47]), ([48, 46], [48]), ([49], [49]), ([50, 49, 49], [49, 50]), ([49, 51], [49, 51]), ([52, 51, 0, 1, 2, 3, 4, 5, 6, 7, 8, 9, 10, 11, 12, 13, 14, 15, 16, 17, 18, 19, 20, 21, 22, 23, 24, 25, 26, 27, 28, 29, 30, 31, 32, 33, 34, 35, 36, 37, 38, 39, 40, 41, 42, 43, 44, 45, 46, 47, 48, 49, 50, 51, 52], [52])])
def boarderlaw12_knows.B5 : List Nat := [0, 1, 3, 7, 15, 31, 63, 127, 255, 511, 1023, 2047, 4095, 8191, 16383, 32767, 65535, 131071, 262143, 524287, 1048575, 2097151, 4194303, 8388607, 16777215, 33554431, 67108863, 134217727, 33554431, 536870911, 1073741823, 2147483647, 4294967295, 8589934591, 17179869183, 34359738367, 68719476735, 137438953471, 274877906943, 549755813887, 1099511627775, 2199023255551, 4398046511103, 8796093022207, 17592186044415, 35184372088831, 70368744177663, 140737488355327, 281474976710655, 562949953421311, 1125899906842623, 2251799813685247, 4503599627370495, 9007199254740991]
theorem boarderlaw12_knows.tab5 : rtab .any (opsOf Try.f33 5) = boarderlaw12_knows.T5 := by kernel_rfl
theorem boarderlaw12_knows.bits5 : waitsOk boarderlaw12_knows.T5.2 boarderlaw12_knows.B5 = true := by kernel_rfl
set_option maxHeartbeats 8000000 in
set_option maxRecDepth 100000 in
theorem boarderlaw12_knows.calls (k : Nat)  (r : Bool) (w : World) (h : boarderlaw12_knows.f k  = some r) :
    Calls Try.prog 33 #[] w fun e w' => e = .returned (.bool r) ∧ Below w.heap.size w w' := by
  have hu43 := Try.underlying43
  have HB := Aside0.mk (Below.refl w.heap.size w)
  have H : ((table_Set.f k ([] : List (S43)) 8 3 10 (⟨#[105, 48, 49]⟩ : ByteArray)).bind fun bt167 => ((table_Set.f k bt167.1 7 1 10 (⟨#[105, 48, 49]⟩ : ByteArray)).bind fun bt171 => ((table_Holds.f 7 1 10 (⟨#[105, 48, 49]⟩ : ByteArray) 9).bind fun t175 => (if t175 = true then ((table_Holds.f 7 1 10 (⟨#[105, 48, 49]⟩ : ByteArray) 10).bind fun t176 => (if t176 = true then (none) else ((table_Rests.f 8 3 10 (⟨#[105, 48, 49]⟩ : ByteArray) 9).bind fun t177 => (if t177 = true then (if bt167.2 = 0 then (if bt171.2 = 0 then (if (bt171.1.length : Int) = 2 then (if 0 < (bt171.1.length : Int) then (if (((rd_T43 bt171.1 0).f0) == 7 && (((rd_T43 bt171.1 0).f1) == 1 && (((rd_T43 bt171.1 0).f2) == 10 && ((((rd_T43 bt171.1 0).f3).toList) == ([105, 48, 49] : List UInt8))))) = true then ((table_Free.f k bt171.1 8 (⟨#[105, 48, 49]⟩ : ByteArray) 9).bind fun t179 => (if t179 = true then (none) else ((table_Free.f k bt171.1 8 (⟨#[105, 48, 50]⟩ : ByteArray) 10).bind fun t180 => (if t180 = true then ((table_Free.f k bt171.1 7 (⟨#[105, 48, 49]⟩ : ByteArray) 9).bind fun t181 => (if t181 = true then ((table_Free.f k bt171.1 7 (⟨#[105, 48, 50]⟩ : ByteArray) 9).bind fun t182 => (if t182 = true then (none) else ((table_Right.f k bt171.1).bind fun t183 => (some t183)))) else (none))) else (none))))) else (none)) else (none)) else (none)) else (none)) else (none)) else (none))))) else (none))))) = some r := h
  clear h
  replace H := Option.bind_eq_some_iff.mp H
  obtain ⟨⟨t167, t170⟩, A10, H⟩ := H
  replace H : ((table_Set.f k t167 7 1 10 (⟨#[105, 48, 49]⟩ : ByteArray)).bind fun bt171 => ((table_Holds.f 7 1 10 (⟨#[105, 48, 49]⟩ : ByteArray) 9).bind fun t175 => (if t175 = true then ((table_Holds.f 7 1 10 (⟨#[105, 48, 49]⟩ : ByteArray) 10).bind fun t176 => (if t176 = true then (none) else ((table_Rests.f 8 3 10 (⟨#[105, 48, 49]⟩ : ByteArray) 9).bind fun t177 => (if t177 = true then (if t170 = 0 then (if bt171.2 = 0 then (if (bt171.1.length : Int) = 2 then (if 0 < (bt171.1.length : Int) then (if (((rd_T43 bt171.1 0).f0) == 7 && (((rd_T43 bt171.1 0).f1) == 1 && (((rd_T43 bt171.1 0).f2) == 10 && ((((rd_T43 bt171.1 0).f3).toList) == ([105, 48, 49] : List UInt8))))) = true then ((table_Free.f k bt171.1 8 (⟨#[105, 48, 49]⟩ : ByteArray) 9).bind fun t179 => (if t179 = true then (none) else ((table_Free.f k bt171.1 8 (⟨#[105, 48, 50]⟩ : ByteArray) 10).bind fun t180 => (if t180 = true then ((table_Free.f k bt171.1 7 (⟨#[105, 48, 49]⟩ : ByteArray) 9).bind fun t181 => (if t181 = true then ((table_Free.f k bt171.1 7 (⟨#[105, 48, 50]⟩ : ByteArray) 9).bind fun t182 => (if t182 = true then (none) else ((table_Right.f k bt171.1).bind fun t183 => (some t183)))) else (none))) else (none))))) else (none)) else (none)) else (none)) else (none)) else (none)) else (none))))) else (none)))) = some r := H
  have A1 := Aside0.mk A10
  clear A10
  replace H := Option.bind_eq_some_iff.mp H
  obtain ⟨⟨t171, t174⟩, A20, H⟩ := H
  replace H : ((table_Holds.f 7 1 10 (⟨#[105, 48, 49]⟩ : ByteArray) 9).bind fun t175 => (if t175 = true then ((table_Holds.f 7 1 10 (⟨#[105, 48, 49]⟩ : ByteArray) 10).bind fun t176 => (if t176 = true then (none) else ((table_Rests.f 8 3 10 (⟨#[105, 48, 49]⟩ : ByteArray) 9).bind fun t177 => (if t177 = true then (if t170 = 0 then (if t174 = 0 then (if (t171.length : Int) = 2 then (if 0 < (t171.length : Int) then (if (((rd_T43 t171 0).f0) == 7 && (((rd_T43 t171 0).f1) == 1 && (((rd_T43 t171 0).f2) == 10 && ((((rd_T43 t171 0).f3).toList) == ([105, 48, 49] : List UInt8))))) = true then ((table_Free.f k t171 8 (⟨#[105, 48, 49]⟩ : ByteArray) 9).bind fun t179 => (if t179 = true then (none) else ((table_Free.f k t171 8 (⟨#[105, 48, 50]⟩ : ByteArray) 10).bind fun t180 => (if t180 = true then ((table_Free.f k t171 7 (⟨#[105, 48, 49]⟩ : ByteArray) 9).bind fun t181 => (if t181 = true then ((table_Free.f k t171 7 (⟨#[105, 48, 50]⟩ : ByteArray) 9).bind fun t182 => (if t182 = true then (none) else ((table_Right.f k t171).bind fun t183 => (some t183)))) else (none))) else (none))))) else (none)) else (none)) else (none)) else (none)) else (none)) else (none))))) else (none))) = some r := H
  have A2 := Aside0.mk A20
  clear A20
  replace H := Option.bind_eq_some_iff.mp H
  obtain ⟨t175, A30, H⟩ := H
  replace H : (if t175 = true then ((table_Holds.f 7 1 10 (⟨#[105, 48, 49]⟩ : ByteArray) 10).bind fun t176 => (if t176 = true then (none) else ((table_Rests.f 8 3 10 (⟨#[105, 48, 49]⟩ : ByteArray) 9).bind fun t177 => (if t177 = true then (if t170 = 0 then (if t174 = 0 then (if (t171.length : Int) = 2 then (if 0 < (t171.length : Int) then (if (((rd_T43 t171 0).f0) == 7 && (((rd_T43 t171 0).f1) == 1 && (((rd_T43 t171 0).f2) == 10 && ((((rd_T43 t171 0).f3).toList) == ([105, 48, 49] : List UInt8))))) = true then ((table_Free.f k t171 8 (⟨#[105, 48, 49]⟩ : ByteArray) 9).bind fun t179 => (if t179 = true then (none) else ((table_Free.f k t171 8 (⟨#[105, 48, 50]⟩ : ByteArray) 10).bind fun t180 => (if t180 = true then ((table_Free.f k t171 7 (⟨#[105, 48, 49]⟩ : ByteArray) 9).bind fun t181 => (if t181 = true then ((table_Free.f k t171 7 (⟨#[105, 48, 50]⟩ : ByteArray) 9).bind fun t182 => (if t182 = true then (none) else ((table_Right.f k t171).bind fun t183 => (some t183)))) else (none))) else (none))))) else (none)) else (none)) else (none)) else (none)) else (none)) else (none))))) else (none)) = some r := H
  have A3 := Aside0.mk A30
  clear A30
  by_cases c4 : t175 = true
  · subst c4
    have H1 : ((table_Holds.f 7 1 10 (⟨#[105, 48, 49]⟩ : ByteArray) 10).bind fun t176 => (if t176 = true then (none) else ((table_Rests.f 8 3 10 (⟨#[105, 48, 49]⟩ : ByteArray) 9).bind fun t177 => (if t177 = true then (if t170 = 0 then (if t174 = 0 then (if (t171.length : Int) = 2 then (if 0 < (t171.length : Int) then (if (((rd_T43 t171 0).f0) == 7 && (((rd_T43 t171 0).f1) == 1 && (((rd_T43 t171 0).f2) == 10 && ((((rd_T43 t171 0).f3).toList) == ([105, 48, 49] : List UInt8))))) = true then ((table_Free.f k t171 8 (⟨#[105, 48, 49]⟩ : ByteArray) 9).bind fun t179 => (if t179 = true then (none) else ((table_Free.f k t171 8 (⟨#[105, 48, 50]⟩ : ByteArray) 10).bind fun t180 => (if t180 = true then ((table_Free.f k t171 7 (⟨#[105, 48, 49]⟩ : ByteArray) 9).bind fun t181 => (if t181 = true then ((table_Free.f k t171 7 (⟨#[105, 48, 50]⟩ : ByteArray) 9).bind fun t182 => (if t182 = true then (none) else ((table_Right.f k t171).bind fun t183 => (some t183)))) else (none))) else (none))))) else (none)) else (none)) else (none)) else (none)) else (none)) else (none))))) = some r := by rw [if_pos rfl] at H; exact H
    clear H
    have H := H1
    clear H1
    replace H := Option.bind_eq_some_iff.mp H
    obtain ⟨t176, A50, H⟩ := H
    replace H : (if t176 = true then (none) else ((table_Rests.f 8 3 10 (⟨#[105, 48, 49]⟩ : ByteArray) 9).bind fun t177 => (if t177 = true then (if t170 = 0 then (if t174 = 0 then (if (t171.length : Int) = 2 then (if 0 < (t171.length : Int) then (if (((rd_T43 t171 0).f0) == 7 && (((rd_T43 t171 0).f1) == 1 && (((rd_T43 t171 0).f2) == 10 && ((((rd_T43 t171 0).f3).toList) == ([105, 48, 49] : List UInt8))))) = true then ((table_Free.f k t171 8 (⟨#[105, 48, 49]⟩ : ByteArray) 9).bind fun t179 => (if t179 = true then (none) else ((table_Free.f k t171 8 (⟨#[105, 48, 50]⟩ : ByteArray) 10).bind fun t180 => (if t180 = true then ((table_Free.f k t171 7 (⟨#[105, 48, 49]⟩ : ByteArray) 9).bind fun t181 => (if t181 = true then ((table_Free.f k t171 7 (⟨#[105, 48, 50]⟩ : ByteArray) 9).bind fun t182 => (if t182 = true then (none) else ((table_Right.f k t171).bind fun t183 => (some t183)))) else (none))) else (none))))) else (none)) else (none)) else (none)) else (none)) else (none)) else (none)))) = some r := H
    have A5 := Aside0.mk A50
    clear A50
    by_cases c6 : t176 = true
    · subst c6
      have H1 : (none) = some r := by rw [if_pos rfl] at H; exact H
      clear H
      have H := H1
      clear H1
      exact absurd H (by simp)
    · replace c6 := Bool.eq_false_iff.mpr c6
      subst c6
      have H1 : ((table_Rests.f 8 3 10 (⟨#[105, 48, 49]⟩ : ByteArray) 9).bind fun t177 => (if t177 = true then (if t170 = 0 then (if t174 = 0 then (if (t171.length : Int) = 2 then (if 0 < (t171.length : Int) then (if (((rd_T43 t171 0).f0) == 7 && (((rd_T43 t171 0).f1) == 1 && (((rd_T43 t171 0).f2) == 10 && ((((rd_T43 t171 0).f3).toList) == ([105, 48, 49] : List UInt8))))) = true then ((table_Free.f k t171 8 (⟨#[105, 48, 49]⟩ : ByteArray) 9).bind fun t179 => (if t179 = true then (none) else ((table_Free.f k t171 8 (⟨#[105, 48, 50]⟩ : ByteArray) 10).bind fun t180 => (if t180 = true then ((table_Free.f k t171 7 (⟨#[105, 48, 49]⟩ : ByteArray) 9).bind fun t181 => (if t181 = true then ((table_Free.f k t171 7 (⟨#[105, 48, 50]⟩ : ByteArray) 9).bind fun t182 => (if t182 = true then (none) else ((table_Right.f k t171).bind fun t183 => (some t183)))) else (none))) else (none))))) else (none)) else (none)) else (none)) else (none)) else (none)) else (none))) = some r := by rw [if_neg (show ¬ (false = true) by decide)] at H; exact H
      clear H
      have H := H1
      clear H1
      replace H := Option.bind_eq_some_iff.mp H
      obtain ⟨t177, A70, H⟩ := H
      replace H : (if t177 = true then (if t170 = 0 then (if t174 = 0 then (if (t171.length : Int) = 2 then (if 0 < (t171.length : Int) then (if (((rd_T43 t171 0).f0) == 7 && (((rd_T43 t171 0).f1) == 1 && (((rd_T43 t171 0).f2) == 10 && ((((rd_T43 t171 0).f3).toList) == ([105, 48, 49] : List UInt8))))) = true then ((table_Free.f k t171 8 (⟨#[105, 48, 49]⟩ : ByteArray) 9).bind fun t179 => (if t179 = true then (none) else ((table_Free.f k t171 8 (⟨#[105, 48, 50]⟩ : ByteArray) 10).bind fun t180 => (if t180 = true then ((table_Free.f k t171 7 (⟨#[105, 48, 49]⟩ : ByteArray) 9).bind fun t181 => (if t181 = true then ((table_Free.f k t171 7 (⟨#[105, 48, 50]⟩ : ByteArray) 9).bind fun t182 => (if t182 = true then (none) else ((table_Right.f k t171).bind fun t183 => (some t183)))) else (none))) else (none))))) else (none)) else (none)) else (none)) else (none)) else (none)) else (none)) = some r := H
      have A7 := Aside0.mk A70
      clear A70
      by_cases c8 : t177 = true
      · subst c8
        have H1 : (if t170 = 0 then (if t174 = 0 then (if (t171.length : Int) = 2 then (if 0 < (t171.length : Int) then (if (((rd_T43 t171 0).f0) == 7 && (((rd_T43 t171 0).f1) == 1 && (((rd_T43 t171 0).f2) == 10 && ((((rd_T43 t171 0).f3).toList) == ([105, 48, 49] : List UInt8))))) = true then ((table_Free.f k t171 8 (⟨#[105, 48, 49]⟩ : ByteArray) 9).bind fun t179 => (if t179 = true then (none) else ((table_Free.f k t171 8 (⟨#[105, 48, 50]⟩ : ByteArray) 10).bind fun t180 => (if t180 = true then ((table_Free.f k t171 7 (⟨#[105, 48, 49]⟩ : ByteArray) 9).bind fun t181 => (if t181 = true then ((table_Free.f k t171 7 (⟨#[105, 48, 50]⟩ : ByteArray) 9).bind fun t182 => (if t182 = true then (none) else ((table_Right.f k t171).bind fun t183 => (some t183)))) else (none))) else (none))))) else (none)) else (none)) else (none)) else (none)) else (none)) = some r := by rw [if_pos rfl] at H; exact H
        clear H
        have H := H1
        clear H1
        by_cases c9 : t170 = 0
        · rw [if_pos c9] at H
          have c9b0 : (t170 == 0) = true := beq_iff_eq.mpr c9
          have c9b1 : (t170 != 0) = false := bne_eq_false_iff_eq.mpr c9
          clear c9
          by_cases c10 : t174 = 0
          · rw [if_pos c10] at H
            have c10b0 : (t174 == 0) = true := beq_iff_eq.mpr c10
            have c10b1 : (t174 != 0) = false := bne_eq_false_iff_eq.mpr c10
            clear c10
            by_cases c11 : (t171.length : Int) = 2
            · rw [if_pos c11] at H
              have c11b0 : ((t171.length : Int) == 2) = true := beq_iff_eq.mpr c11
              have c11b1 : ((t171.length : Int) != 2) = false := bne_eq_false_iff_eq.mpr c11
              clear c11
              by_cases c12 : 0 < (t171.length : Int)
              · rw [if_pos c12] at H
                have c12b0 : decide (0 < (t171.length : Int)) = true := decide_eq_true c12
                have c12b1 : decide (0 < t171.length) = true := decide_eq_true (by omega)
                clear c12
                by_cases c13 : (((rd_T43 t171 0).f0) == 7 && (((rd_T43 t171 0).f1) == 1 && (((rd_T43 t171 0).f2) == 10 && ((((rd_T43 t171 0).f3).toList) == ([105, 48, 49] : List UInt8))))) = true
                · rw [if_pos c13] at H
                  have c13b0 : (((rd_T43 t171 0).f0) == 7 && (((rd_T43 t171 0).f1) == 1 && (((rd_T43 t171 0).f2) == 10 && ((((rd_T43 t171 0).f3).toList) == ([105, 48, 49] : List UInt8))))) = true := c13
                  (try (have c13b1 : decide (((rd_T43 t171 0).f0) = 7 && (((rd_T43 t171 0).f1) == 1 && (((rd_T43 t171 0).f2) == 10 && ((((rd_T43 t171 0).f3).toList) == ([105, 48, 49] : List UInt8))))) = true := by simpa using c13))
                  (try (have c13b2 : (((rd_T43 t171 0).f0) == 7 && (((rd_T43 t171 0).f1) == 1 && (((rd_T43 t171 0).f2) == 10 && ((((rd_T43 t171 0).f3).toList) == ([105, 48, 49] : List UInt8))))) = true := by simpa using c13))
                  clear c13
                  replace H := Option.bind_eq_some_iff.mp H
                  obtain ⟨t179, A140, H⟩ := H
                  replace H : (if t179 = true then (none) else ((table_Free.f k t171 8 (⟨#[105, 48, 50]⟩ : ByteArray) 10).bind fun t180 => (if t180 = true then ((table_Free.f k t171 7 (⟨#[105, 48, 49]⟩ : ByteArray) 9).bind fun t181 => (if t181 = true then ((table_Free.f k t171 7 (⟨#[105, 48, 50]⟩ : ByteArray) 9).bind fun t182 => (if t182 = true then (none) else ((table_Right.f k t171).bind fun t183 => (some t183)))) else (none))) else (none)))) = some r := H
                  have A14 := Aside0.mk A140
                  clear A140
                  by_cases c15 : t179 = true
                  · subst c15
                    have H1 : (none) = some r := by rw [if_pos rfl] at H; exact H
                    clear H
                    have H := H1
                    clear H1
                    exact absurd H (by simp)
                  · replace c15 := Bool.eq_false_iff.mpr c15
                    subst c15
                    have H1 : ((table_Free.f k t171 8 (⟨#[105, 48, 50]⟩ : ByteArray) 10).bind fun t180 => (if t180 = true then ((table_Free.f k t171 7 (⟨#[105, 48, 49]⟩ : ByteArray) 9).bind fun t181 => (if t181 = true then ((table_Free.f k t171 7 (⟨#[105, 48, 50]⟩ : ByteArray) 9).bind fun t182 => (if t182 = true then (none) else ((table_Right.f k t171).bind fun t183 => (some t183)))) else (none))) else (none))) = some r := by rw [if_neg (show ¬ (false = true) by decide)] at H; exact H
                    clear H
                    have H := H1
                    clear H1
                    replace H := Option.bind_eq_some_iff.mp H
                    obtain ⟨t180, A160, H⟩ := H
                    replace H : (if t180 = true then ((table_Free.f k t171 7 (⟨#[105, 48, 49]⟩ : ByteArray) 9).bind fun t181 => (if t181 = true then ((table_Free.f k t171 7 (⟨#[105, 48, 50]⟩ : ByteArray) 9).bind fun t182 => (if t182 = true then (none) else ((table_Right.f k t171).bind fun t183 => (some t183)))) else (none))) else (none)) = some r := H
                    have A16 := Aside0.mk A160
                    clear A160
                    by_cases c17 : t180 = true
                    · subst c17
                      have H1 : ((table_Free.f k t171 7 (⟨#[105, 48, 49]⟩ : ByteArray) 9).bind fun t181 => (if t181 = true then ((table_Free.f k t171 7 (⟨#[105, 48, 50]⟩ : ByteArray) 9).bind fun t182 => (if t182 = true then (none) else ((table_Right.f k t171).bind fun t183 => (some t183)))) else (none))) = some r := by rw [if_pos rfl] at H; exact H
                      clear H
                      have H := H1
                      clear H1
                      replace H := Option.bind_eq_some_iff.mp H
                      obtain ⟨t181, A180, H⟩ := H
                      replace H : (if t181 = true then ((table_Free.f k t171 7 (⟨#[105, 48, 50]⟩ : ByteArray) 9).bind fun t182 => (if t182 = true then (none) else ((table_Right.f k t171).bind fun t183 => (some t183)))) else (none)) = some r := H
                      have A18 := Aside0.mk A180
                      clear A180
                      by_cases c19 : t181 = true
                      · subst c19
                        have H1 : ((table_Free.f k t171 7 (⟨#[105, 48, 50]⟩ : ByteArray) 9).bind fun t182 => (if t182 = true then (none) else ((table_Right.f k t171).bind fun t183 => (some t183)))) = some r := by rw [if_pos rfl] at H; exact H
                        clear H
                        have H := H1
                        clear H1
                        replace H := Option.bind_eq_some_iff.mp H
                        obtain ⟨t182, A200, H⟩ := H
                        replace H : (if t182 = true then (none) else ((table_Right.f k t171).bind fun t183 => (some t183))) = some r := H
                        have A20 := Aside0.mk A200
                        clear A200
                        by_cases c21 : t182 = true
                        · subst c21
                          have H1 : (none) = some r := by rw [if_pos rfl] at H; exact H
                          clear H
                          have H := H1
                          clear H1
                          exact absurd H (by simp)
                        · replace c21 := Bool.eq_false_iff.mpr c21
                          subst c21
                          have H1 : ((table_Right.f k t171).bind fun t183 => (some t183)) = some r := by rw [if_neg (show ¬ (false = true) by decide)] at H; exact H
                          clear H
                          have H := H1
                          clear H1
                          replace H := Option.bind_eq_some_iff.mp H
                          obtain ⟨t183, A220, H⟩ := H
                          replace H : (some t183) = some r := H
                          have A22 := Aside0.mk A220
                          clear A220
                          obtain rfl := Option.some.inj H
                          go_enter Try.func33, Try.ntmps33
                          try go_wp2_with (first | ((with_reducible refine gate_dst (N := 1) rfl ?_); (try (refine gate_guard (by rfl) ?_; dsimp only)); refine box_event ?hg (N := 1) ?hd (cs := #[.int .i64 0, .int .i64 0, .int .i64 0, .string (⟨#[]⟩ : ByteArray)]) (t := 43) ?hr ?_; (case hd => rfl); (case hg => rfl); (case hr => first | (go_simp; done) | (go_simp; rfl)); intro gb165 hg w23 hbox hb; have n0_ := Aside0.mk (below_step (by repeat (first | (with_reducible first | exact HB.out | apply below_alloc | apply pw_below_drewN | apply below_drew1) | exact HB.out)) hb); have n1_ := Aside0.mk (hbox); have n2_ := Aside0.mk ((by rw [hg]; exact (below_size (by repeat (first | (with_reducible first | exact HB.out | apply below_alloc | apply pw_below_drewN | apply below_drew1) | exact HB.out))) : w.heap.size ≤ gb165)); have n3_ := Aside0.mk ((by rw [hg]; exact (below_size (by repeat (first | (with_reducible first | exact HB.out | apply below_alloc | apply pw_below_drewN | apply below_drew1) | exact HB.out))) : w.heap.size ≤ gb165)); clear HB; have HB := n0_; have BK165 := n1_; have GW165 := n2_; have GE165 := n3_; clear n0_ n1_ n2_ n3_; clear hb hbox hg; have hcz24_0 : w23.cell? ⟨gb165, 0, none⟩ = some (.int .i64 0) := (blk_cell BK165.out 0).trans rfl; have hcz24_1 : w23.cell? ⟨gb165, 1, none⟩ = some (.int .i64 0) := (blk_cell BK165.out 1).trans rfl; have hcz24_2 : w23.cell? ⟨gb165, 2, none⟩ = some (.int .i64 0) := (blk_cell BK165.out 2).trans rfl; have hcz24_3 : w23.cell? ⟨gb165, 3, none⟩ = some (.string (⟨#[]⟩ : ByteArray)) := (blk_cell BK165.out 3).trans rfl; have hfz24_0 := blk_frozen BK165.out 0; have hfz24_1 := blk_frozen BK165.out 1; have hfz24_2 := blk_frozen BK165.out 2; have hfz24_3 := blk_frozen BK165.out 3) | ((with_reducible refine gate_dst (N := 2) rfl ?_); (try (refine gate_guard (by rfl) ?_; dsimp only)); refine box_event ?hg (N := 2) ?hd (cs := #[.int .i64 0, .int .i64 0, .int .i64 0, .string (⟨#[]⟩ : ByteArray)]) (t := 43) ?hr ?_; (case hd => rfl); (case hg => rfl); (case hr => first | (go_simp; done) | (go_simp; rfl)); intro gb166 hg w25 hbox hb; have n0_ := Aside0.mk (blk_below (g := gb165) (o := .cells #[.int .i64 7, .int .i64 1, .int .i64 10, .string (⟨#[105, 48, 49]⟩ : ByteArray)] 43 (0, 0)) (by (with_reducible repeat (first | refine blk_drewN ?_ _ | refine blk_drew ?_ | refine blk_alloc ?_ _)); refine blk_put (cs := #[.int .i64 7, .int .i64 1, .int .i64 10, .string (⟨#[]⟩ : ByteArray)]) ?_ 3 _ rfl; (with_reducible repeat (first | refine blk_drewN ?_ _ | refine blk_drew ?_ | refine blk_alloc ?_ _)); refine blk_put (cs := #[.int .i64 7, .int .i64 1, .int .i64 0, .string (⟨#[]⟩ : ByteArray)]) ?_ 2 _ rfl; (with_reducible repeat (first | refine blk_drewN ?_ _ | refine blk_drew ?_ | refine blk_alloc ?_ _)); refine blk_put (cs := #[.int .i64 7, .int .i64 0, .int .i64 0, .string (⟨#[]⟩ : ByteArray)]) ?_ 1 _ rfl; (with_reducible repeat (first | refine blk_drewN ?_ _ | refine blk_drew ?_ | refine blk_alloc ?_ _)); refine blk_put (cs := #[.int .i64 0, .int .i64 0, .int .i64 0, .string (⟨#[]⟩ : ByteArray)]) ?_ 0 _ rfl; (with_reducible repeat (first | refine blk_drewN ?_ _ | refine blk_drew ?_ | refine blk_alloc ?_ _)); exact BK165.out) hb); have n1_ := Aside0.mk (below_step (by repeat (first | (with_reducible first | exact HB.out | apply below_alloc | apply pw_below_drewN | apply below_drew1 | refine below_set ?_ GE165.out) | exact HB.out)) hb); have n2_ := Aside0.mk (hbox); have n3_ := Aside0.mk ((by rw [hg]; exact (below_size (by repeat (first | (with_reducible first | exact HB.out | apply below_alloc | apply pw_below_drewN | apply below_drew1 | refine below_set ?_ GE165.out) | exact HB.out))) : w.heap.size ≤ gb166)); have n4_ := Aside0.mk ((by rw [hg]; exact (below_size (by repeat (first | (with_reducible first | exact HB.out | apply below_alloc | apply pw_below_drewN | apply below_drew1 | refine below_set ?_ GE165.out) | exact HB.out))) : w.heap.size ≤ gb166)); have n5_ := Aside0.mk ((by rw [hg]; exact Nat.ne_of_lt (blk_lt (g := gb165) (o := .cells #[.int .i64 7, .int .i64 1, .int .i64 10, .string (⟨#[105, 48, 49]⟩ : ByteArray)] 43 (0, 0)) (by (with_reducible repeat (first | refine blk_drewN ?_ _ | refine blk_drew ?_ | refine blk_alloc ?_ _)); refine blk_put (cs := #[.int .i64 7, .int .i64 1, .int .i64 10, .string (⟨#[]⟩ : ByteArray)]) ?_ 3 _ rfl; (with_reducible repeat (first | refine blk_drewN ?_ _ | refine blk_drew ?_ | refine blk_alloc ?_ _)); refine blk_put (cs := #[.int .i64 7, .int .i64 1, .int .i64 0, .string (⟨#[]⟩ : ByteArray)]) ?_ 2 _ rfl; (with_reducible repeat (first | refine blk_drewN ?_ _ | refine blk_drew ?_ | refine blk_alloc ?_ _)); refine blk_put (cs := #[.int .i64 7, .int .i64 0, .int .i64 0, .string (⟨#[]⟩ : ByteArray)]) ?_ 1 _ rfl; (with_reducible repeat (first | refine blk_drewN ?_ _ | refine blk_drew ?_ | refine blk_alloc ?_ _)); refine blk_put (cs := #[.int .i64 0, .int .i64 0, .int .i64 0, .string (⟨#[]⟩ : ByteArray)]) ?_ 0 _ rfl; (with_reducible repeat (first | refine blk_drewN ?_ _ | refine blk_drew ?_ | refine blk_alloc ?_ _)); exact BK165.out)) : gb165 ≠ gb166)); have n6_ := Aside0.mk ((by rw [hg]; exact Nat.ne_of_gt (blk_lt (g := gb165) (o := .cells #[.int .i64 7, .int .i64 1, .int .i64 10, .string (⟨#[105, 48, 49]⟩ : ByteArray)] 43 (0, 0)) (by (with_reducible repeat (first | refine blk_drewN ?_ _ | refine blk_drew ?_ | refine blk_alloc ?_ _)); refine blk_put (cs := #[.int .i64 7, .int .i64 1, .int .i64 10, .string (⟨#[]⟩ : ByteArray)]) ?_ 3 _ rfl; (with_reducible repeat (first | refine blk_drewN ?_ _ | refine blk_drew ?_ | refine blk_alloc ?_ _)); refine blk_put (cs := #[.int .i64 7, .int .i64 1, .int .i64 0, .string (⟨#[]⟩ : ByteArray)]) ?_ 2 _ rfl; (with_reducible repeat (first | refine blk_drewN ?_ _ | refine blk_drew ?_ | refine blk_alloc ?_ _)); refine blk_put (cs := #[.int .i64 7, .int .i64 0, .int .i64 0, .string (⟨#[]⟩ : ByteArray)]) ?_ 1 _ rfl; (with_reducible repeat (first | refine blk_drewN ?_ _ | refine blk_drew ?_ | refine blk_alloc ?_ _)); refine blk_put (cs := #[.int .i64 0, .int .i64 0, .int .i64 0, .string (⟨#[]⟩ : ByteArray)]) ?_ 0 _ rfl; (with_reducible repeat (first | refine blk_drewN ?_ _ | refine blk_drew ?_ | refine blk_alloc ?_ _)); exact BK165.out)) : gb166 ≠ gb165)); clear BK165; clear HB; have BK165 := n0_; have HB := n1_; have BK166 := n2_; have GW166 := n3_; have GE166 := n4_; have NB165_166 := n5_; have NB166_165 := n6_; clear n0_ n1_ n2_ n3_ n4_ n5_ n6_; clear hb hbox hg; have hnb26 := NB166_165.out; have hnc26 := NB165_166.out; have hcz27_0 : w25.cell? ⟨gb166, 0, none⟩ = some (.int .i64 0) := (blk_cell BK166.out 0).trans rfl; have hcz27_1 : w25.cell? ⟨gb166, 1, none⟩ = some (.int .i64 0) := (blk_cell BK166.out 1).trans rfl; have hcz27_2 : w25.cell? ⟨gb166, 2, none⟩ = some (.int .i64 0) := (blk_cell BK166.out 2).trans rfl; have hcz27_3 : w25.cell? ⟨gb166, 3, none⟩ = some (.string (⟨#[]⟩ : ByteArray)) := (blk_cell BK166.out 3).trans rfl; have hfz27_0 := blk_frozen BK166.out 0; have hfz27_1 := blk_frozen BK166.out 1; have hfz27_2 := blk_frozen BK166.out 2; have hfz27_3 := blk_frozen BK166.out 3) | ((with_reducible refine gate_callee (f := 34) rfl ?_); refine goesL_ (some 10) rfl rfl Try.func34 (by kernel_rfl) rfl #[.slice none 0 0, .agg #[.int .i64 8, .int .i64 3, .int .i64 10, .string (⟨#[105, 48, 49]⟩ : ByteArray)]] rfl (by (try simp only [List.map_toArray, List.map_cons, List.map_nil]); first | done | rfl | (simp only [List.length_drop, List.length_take]; rfl)) ?_; (refine (table_Set.calls k _ _ ([] : List (S43)) 8 3 10 (⟨#[105, 48, 49]⟩ : ByteArray) t167 t170 _ ?side1 ?side2 A1.out).mono ?_); (case side1 => exact Kd.C_nil _ _); (case side2 => exact Nat.le_refl _); rintro e w28 ⟨v168, rfl, ho0, hb⟩; refine ⟨_, rfl, ?_⟩; have n0_ := Aside0.mk (Kd.R_lower (Kd.R_newB (Kd.R_newB ho0 (g := gb165) (o := .cells #[.int .i64 7, .int .i64 1, .int .i64 10, .string (⟨#[105, 48, 49]⟩ : ByteArray)] 43 (0, 0)) (by (with_reducible repeat (first | refine blk_drewN ?_ _ | refine blk_drew ?_ | refine blk_alloc ?_ _)); refine blk_far ?_ NB165_166.out _; (with_reducible repeat (first | refine blk_drewN ?_ _ | refine blk_drew ?_ | refine blk_alloc ?_ _)); refine blk_far ?_ NB165_166.out _; (with_reducible repeat (first | refine blk_drewN ?_ _ | refine blk_drew ?_ | refine blk_alloc ?_ _)); refine blk_far ?_ NB165_166.out _; (with_reducible repeat (first | refine blk_drewN ?_ _ | refine blk_drew ?_ | refine blk_alloc ?_ _)); refine blk_far ?_ NB165_166.out _; (with_reducible repeat (first | refine blk_drewN ?_ _ | refine blk_drew ?_ | refine blk_alloc ?_ _)); exact BK165.out)) (g := gb166) (o := .cells #[.int .i64 8, .int .i64 3, .int .i64 10, .string (⟨#[105, 48, 49]⟩ : ByteArray)] 43 (0, 0)) (by (with_reducible repeat (first | refine blk_drewN ?_ _ | refine blk_drew ?_ | refine blk_alloc ?_ _)); refine blk_put (cs := #[.int .i64 8, .int .i64 3, .int .i64 10, .string (⟨#[]⟩ : ByteArray)]) ?_ 3 _ rfl; (with_reducible repeat (first | refine blk_drewN ?_ _ | refine blk_drew ?_ | refine blk_alloc ?_ _)); refine blk_put (cs := #[.int .i64 8, .int .i64 3, .int .i64 0, .string (⟨#[]⟩ : ByteArray)]) ?_ 2 _ rfl; (with_reducible repeat (first | refine blk_drewN ?_ _ | refine blk_drew ?_ | refine blk_alloc ?_ _)); refine blk_put (cs := #[.int .i64 8, .int .i64 0, .int .i64 0, .string (⟨#[]⟩ : ByteArray)]) ?_ 1 _ rfl; (with_reducible repeat (first | refine blk_drewN ?_ _ | refine blk_drew ?_ | refine blk_alloc ?_ _)); refine blk_put (cs := #[.int .i64 0, .int .i64 0, .int .i64 0, .string (⟨#[]⟩ : ByteArray)]) ?_ 0 _ rfl; (with_reducible repeat (first | refine blk_drewN ?_ _ | refine blk_drew ?_ | refine blk_alloc ?_ _)); exact BK166.out)) (below_size (by repeat (first | (with_reducible first | exact HB.out | apply below_alloc | apply pw_below_drewN | apply below_drew1 | refine below_set ?_ GE165.out | refine below_set ?_ GE166.out) | exact HB.out)))); have n1_ := Aside0.mk (blk_below (g := gb165) (o := .cells #[.int .i64 7, .int .i64 1, .int .i64 10, .string (⟨#[105, 48, 49]⟩ : ByteArray)] 43 (0, 0)) (by (with_reducible repeat (first | refine blk_drewN ?_ _ | refine blk_drew ?_ | refine blk_alloc ?_ _)); refine blk_far ?_ NB165_166.out _; (with_reducible repeat (first | refine blk_drewN ?_ _ | refine blk_drew ?_ | refine blk_alloc ?_ _)); refine blk_far ?_ NB165_166.out _; (with_reducible repeat (first | refine blk_drewN ?_ _ | refine blk_drew ?_ | refine blk_alloc ?_ _)); refine blk_far ?_ NB165_166.out _; (with_reducible repeat (first | refine blk_drewN ?_ _ | refine blk_drew ?_ | refine blk_alloc ?_ _)); refine blk_far ?_ NB165_166.out _; (with_reducible repeat (first | refine blk_drewN ?_ _ | refine blk_drew ?_ | refine blk_alloc ?_ _)); exact BK165.out) hb); have n2_ := Aside0.mk (blk_below (g := gb166) (o := .cells #[.int .i64 8, .int .i64 3, .int .i64 10, .string (⟨#[105, 48, 49]⟩ : ByteArray)] 43 (0, 0)) (by (with_reducible repeat (first | refine blk_drewN ?_ _ | refine blk_drew ?_ | refine blk_alloc ?_ _)); refine blk_put (cs := #[.int .i64 8, .int .i64 3, .int .i64 10, .string (⟨#[]⟩ : ByteArray)]) ?_ 3 _ rfl; (with_reducible repeat (first | refine blk_drewN ?_ _ | refine blk_drew ?_ | refine blk_alloc ?_ _)); refine blk_put (cs := #[.int .i64 8, .int .i64 3, .int .i64 0, .string (⟨#[]⟩ : ByteArray)]) ?_ 2 _ rfl; (with_reducible repeat (first | refine blk_drewN ?_ _ | refine blk_drew ?_ | refine blk_alloc ?_ _)); refine blk_put (cs := #[.int .i64 8, .int .i64 0, .int .i64 0, .string (⟨#[]⟩ : ByteArray)]) ?_ 1 _ rfl; (with_reducible repeat (first | refine blk_drewN ?_ _ | refine blk_drew ?_ | refine blk_alloc ?_ _)); refine blk_put (cs := #[.int .i64 0, .int .i64 0, .int .i64 0, .string (⟨#[]⟩ : ByteArray)]) ?_ 0 _ rfl; (with_reducible repeat (first | refine blk_drewN ?_ _ | refine blk_drew ?_ | refine blk_alloc ?_ _)); exact BK166.out) hb); have n3_ := Aside0.mk (below_step (by repeat (first | (with_reducible first | exact HB.out | apply below_alloc | apply pw_below_drewN | apply below_drew1 | refine below_set ?_ GE165.out | refine below_set ?_ GE166.out) | exact HB.out)) hb); clear BK165; clear BK166; clear HB; have HO169 := n0_; have BK165 := n1_; have BK166 := n2_; have HB := n3_; clear n0_ n1_ n2_ n3_; (try clear hb); (try clear hb2); (try clear hk); (try clear hi); (try clear ho0); obtain ⟨Ao29, co29, eo29⟩ := Kd.R_slice HO169.out; subst eo29; have hcz30_0 : w28.cell? ⟨gb165, 0, none⟩ = some (.int .i64 7) := (blk_cell BK165.out 0).trans rfl; have hcz30_1 : w28.cell? ⟨gb165, 1, none⟩ = some (.int .i64 1) := (blk_cell BK165.out 1).trans rfl; have hcz30_2 : w28.cell? ⟨gb165, 2, none⟩ = some (.int .i64 10) := (blk_cell BK165.out 2).trans rfl; have hcz30_3 : w28.cell? ⟨gb165, 3, none⟩ = some (.string (⟨#[105, 48, 49]⟩ : ByteArray)) := (blk_cell BK165.out 3).trans rfl; have hfz30_0 := blk_frozen BK165.out 0; have hfz30_1 := blk_frozen BK165.out 1; have hfz30_2 := blk_frozen BK165.out 2; have hfz30_3 := blk_frozen BK165.out 3) | ((with_reducible refine gate_callee (f := 34) rfl ?_); refine goesL_ (some 16) rfl rfl Try.func34 (by kernel_rfl) rfl #[.slice Ao29 t167.length co29, .agg #[.int .i64 7, .int .i64 1, .int .i64 10, .string (⟨#[105, 48, 49]⟩ : ByteArray)]] rfl (by (try simp only [List.map_toArray, List.map_cons, List.map_nil]); first | done | rfl | (simp only [List.length_drop, List.length_take]; rfl)) ?_; (with_reducible refine (table_Set.calls k _ _ t167 7 1 10 (⟨#[105, 48, 49]⟩ : ByteArray) t171 t174 _ ?side1 ?side2 A2.out).mono ?_); (case side1 => repeat (first | exact (Kd.R_reads' HO169.out).2.2 | (with_reducible refine Kd.C_alloc ?_ _) | (with_reducible refine Kd.C_drewN ?_ _) | (with_reducible refine Kd.C_drew ?_))); (case side2 => exact (Kd.R_reads' HO169.out).2.1); rintro e w31 ⟨v172, rfl, ho0, hb⟩; refine ⟨_, rfl, ?_⟩; have n0_ := Aside0.mk (Kd.R_elder' (by (with_reducible repeat (first | apply Kd.R_alloc | apply Kd.R_drewN | apply Kd.R_drew)); exact HO169.out) (Kd.R_base ho0) hb); have n1_ := Aside0.mk (Kd.R_lower (Kd.R_newB (Kd.R_newB (Kd.R_new' ho0 (Kd.R_lt (by (with_reducible repeat (first | apply Kd.R_alloc | apply Kd.R_drewN | apply Kd.R_drew)); exact HO169.out))) (g := gb165) (o := .cells #[.int .i64 7, .int .i64 1, .int .i64 10, .string (⟨#[105, 48, 49]⟩ : ByteArray)] 43 (0, 0)) (by (with_reducible repeat (first | refine blk_drewN ?_ _ | refine blk_drew ?_ | refine blk_alloc ?_ _)); exact BK165.out)) (g := gb166) (o := .cells #[.int .i64 8, .int .i64 3, .int .i64 10, .string (⟨#[105, 48, 49]⟩ : ByteArray)] 43 (0, 0)) (by (with_reducible repeat (first | refine blk_drewN ?_ _ | refine blk_drew ?_ | refine blk_alloc ?_ _)); exact BK166.out)) (below_size (by repeat (first | (with_reducible first | exact HB.out | apply below_alloc | apply pw_below_drewN | apply below_drew1 | refine below_set ?_ GE165.out | refine below_set ?_ GE166.out) | exact HB.out)))); have n2_ := Aside0.mk (blk_below (g := gb165) (o := .cells #[.int .i64 7, .int .i64 1, .int .i64 10, .string (⟨#[105, 48, 49]⟩ : ByteArray)] 43 (0, 0)) (by (with_reducible repeat (first | refine blk_drewN ?_ _ | refine blk_drew ?_ | refine blk_alloc ?_ _)); exact BK165.out) hb); have n3_ := Aside0.mk (blk_below (g := gb166) (o := .cells #[.int .i64 8, .int .i64 3, .int .i64 10, .string (⟨#[105, 48, 49]⟩ : ByteArray)] 43 (0, 0)) (by (with_reducible repeat (first | refine blk_drewN ?_ _ | refine blk_drew ?_ | refine blk_alloc ?_ _)); exact BK166.out) hb); have n4_ := Aside0.mk (below_step (by repeat (first | (with_reducible first | exact HB.out | apply below_alloc | apply pw_below_drewN | apply below_drew1 | refine below_set ?_ GE165.out | refine below_set ?_ GE166.out) | exact HB.out)) hb); clear HO169; clear BK165; clear BK166; clear HB; have HO169 := n0_; have HO173 := n1_; have BK165 := n2_; have BK166 := n3_; have HB := n4_; clear n0_ n1_ n2_ n3_ n4_; (try clear hb); (try clear hb2); (try clear hk); (try clear hi); (try clear ho0); obtain ⟨Ao32, co32, eo32⟩ := Kd.R_slice HO173.out; subst eo32))
                          have n0_ := Aside0.mk (Kd.R_drew HO169.out)
                          have n1_ := Aside0.mk (Kd.R_drew HO173.out)
                          have n2_ := Aside0.mk (blk_drew BK165.out)
                          have n3_ := Aside0.mk (blk_drew BK166.out)
                          have n4_ := Aside0.mk (below_drew1 HB.out)
                          clear HO169
                          clear HO173
                          clear BK165
                          clear BK166
                          clear HB
                          have HO169 := n0_
                          have HO173 := n1_
                          have BK165 := n2_
                          have BK166 := n3_
                          have HB := n4_
                          clear n0_ n1_ n2_ n3_ n4_
                          have p178 : 0 ≤ (0 : Int) := (by omega)
                          have q178 : 0 < (t171.length : Int) := of_decide_eq_true (by first | (with_reducible assumption) | assumption)
                          obtain ⟨ad178, e178, hx178_0, hx178_1, hx178_2, hx178_3⟩ := at_T43 (Kd.R_reads' HO173.out).2.2 0 p178 q178
                          cases e178
                          have qi178 : (0 < t171.length) = True := eq_true (by omega)
                          (try rw [show ((0 : Int)).toNat = 0 from rfl] at hx178_0)
                          (try rw [show 0 * 4 = 0 from rfl] at hx178_0)
                          (try rw [Addr.add_zero'] at hx178_0)
                          (try rw [show ((0 : Int)).toNat = 0 from rfl] at hx178_1)
                          (try rw [show 0 * 4 = 0 from rfl] at hx178_1)
                          (try rw [Addr.add_zero'] at hx178_1)
                          (try rw [show ((0 : Int)).toNat = 0 from rfl] at hx178_2)
                          (try rw [show 0 * 4 = 0 from rfl] at hx178_2)
                          (try rw [Addr.add_zero'] at hx178_2)
                          (try rw [show ((0 : Int)).toNat = 0 from rfl] at hx178_3)
                          (try rw [show 0 * 4 = 0 from rfl] at hx178_3)
                          (try rw [Addr.add_zero'] at hx178_3)
                          replace p178 := eq_true p178
                          replace q178 := eq_true q178
                          refine start_ (n := 54) (S := fun w' => w'.cell? ⟨gb165, 0, none⟩ = some (.int .i64 7) ∧ w'.cell? ⟨gb165, 1, none⟩ = some (.int .i64 1) ∧ w'.cell? ⟨gb165, 2, none⟩ = some (.int .i64 10) ∧ w'.cell? ⟨gb165, 3, none⟩ = some (.string (⟨#[105, 48, 49]⟩ : ByteArray)) ∧ w'.cell? ⟨gb166, 0, none⟩ = some (.int .i64 8) ∧ w'.cell? ⟨gb166, 1, none⟩ = some (.int .i64 3) ∧ w'.cell? ⟨gb166, 2, none⟩ = some (.int .i64 10) ∧ w'.cell? ⟨gb166, 3, none⟩ = some (.string (⟨#[105, 48, 49]⟩ : ByteArray)) ∧ w'.cell? ad178 = some (.int .i64 ((rd_T43 t171 0).f0)) ∧ w'.cell? ⟨ad178.block, ad178.off + 1, none⟩ = some (.int .i64 ((rd_T43 t171 0).f1)) ∧ w'.cell? ⟨ad178.block, ad178.off + 2, none⟩ = some (.int .i64 ((rd_T43 t171 0).f2)) ∧ w'.cell? ⟨ad178.block, ad178.off + 3, none⟩ = some (.string ((rd_T43 t171 0).f3))) (ds := []) #[false, false, false, false, false, false, false, false, false, false, false, false, false, false, false, false, false, false, false, false, false, false, false, false, false, false, false, false, false, false, false, false, false, false, false, false, false, false, false, false, false, false, false, false, false, false, false, false, false, false, false, false, false, false] (by kernel_rfl) rfl rfl ⟨(blk_cell BK165.out 0).trans rfl, (blk_cell BK165.out 1).trans rfl, (blk_cell BK165.out 2).trans rfl, (blk_cell BK165.out 3).trans rfl, (blk_cell BK166.out 0).trans rfl, (blk_cell BK166.out 1).trans rfl, (blk_cell BK166.out 2).trans rfl, (blk_cell BK166.out 3).trans rfl, hx178_0, hx178_1, hx178_2, hx178_3⟩ (fun hHeld => ?_); refine with_tabW boarderlaw12_knows.tab5 boarderlaw12_knows.bits5 (fun HT_ HW_ => ?_)
                          generalize w31.drew = w33 at HO169 HO173 BK165 BK166 HB hx178_0 hx178_1 hx178_2 hx178_3 hHeld ⊢
                          refine take_ (i := 0) (N := some 19) (v := ?_) (a' := ?_) #[true, false, false, false, false, false, false, false, false, false, false, false, false, false, false, false, false, false, false, false, false, false, false, false, false, false, false, false, false, false, false, false, false, false, false, false, false, false, false, false, false, false, false, false, false, false, false, false, false, false, false, false, false, false] rfl rfl (take_ofW HT_.out HW_.out (by kernel_rfl)) (fun _ _ _ h => h) (Or.inl ⟨by rfl, ?_⟩) hHeld ?_ ?_
                          rotate_left
                          · rintro w' ⟨s0, s1, s2, s3, s4, s5, s6, s7, s8, s9, s10, s11⟩
                            go_simp
                            with_reducible rfl
                          rotate_left
                          · simp only [Act.put, List.setIfInBounds_toArray, List.set_cons_zero, List.set_cons_succ, i64_w, i32_w]
                            rfl
                          refine one_ (i := 1) (N := some 20) #[true, true, false, false, false, false, false, false, false, false, false, false, false, false, false, false, false, false, false, false, false, false, false, false, false, false, false, false, false, false, false, false, false, false, false, false, false, false, false, false, false, false, false, false, false, false, false, false, false, false, false, false, false, false] rfl rfl (one_of HT_.out (by kernel_rfl)) (by decide) (fun K hK => ?_)
                          refine goes_ Try.func45 (by kernel_rfl) rfl #[.agg #[.int .i64 7, .int .i64 1, .int .i64 10, .string (⟨#[105, 48, 49]⟩ : ByteArray)], .int .i64 9] (by rfl) rfl rfl (by (try simp only [List.map_toArray, List.map_cons, List.map_nil]); first | done | rfl | (simp only [List.length_drop, List.length_take]; rfl)) ?_
                          with_reducible refine (table_Holds.calls 7 1 10 (⟨#[105, 48, 49]⟩ : ByteArray) 9 true _ A3.out).mono ?_
                          rintro e w34 ⟨rfl, hb⟩
                          have HS8_ := (hb.cell (World.block_lt_of_cell? _ _ (hHeld.2.2.2.2.2.2.2.2.1))).trans (hHeld.2.2.2.2.2.2.2.2.1)
                          have HS9_ := (hb.cell (World.block_lt_of_cell? _ _ (hHeld.2.2.2.2.2.2.2.2.2.1))).trans (hHeld.2.2.2.2.2.2.2.2.2.1)
                          have HS10_ := (hb.cell (World.block_lt_of_cell? _ _ (hHeld.2.2.2.2.2.2.2.2.2.2.1))).trans (hHeld.2.2.2.2.2.2.2.2.2.2.1)
                          have HS11_ := (hb.cell (World.block_lt_of_cell? _ _ (hHeld.2.2.2.2.2.2.2.2.2.2.2))).trans (hHeld.2.2.2.2.2.2.2.2.2.2.2)
                          refine ⟨_, rfl, ?_⟩
                          have n0_ := Aside0.mk (Kd.R_below (by (with_reducible repeat (first | apply Kd.R_alloc | apply Kd.R_drewN | apply Kd.R_drew)); exact HO169.out) hb)
                          have n1_ := Aside0.mk (Kd.R_below (by (with_reducible repeat (first | apply Kd.R_alloc | apply Kd.R_drewN | apply Kd.R_drew)); exact HO173.out) hb)
                          have n2_ := Aside0.mk (blk_below (g := gb165) (o := .cells #[.int .i64 7, .int .i64 1, .int .i64 10, .string (⟨#[105, 48, 49]⟩ : ByteArray)] 43 (0, 0)) (by (with_reducible repeat (first | refine blk_drewN ?_ _ | refine blk_drew ?_ | refine blk_alloc ?_ _)); exact BK165.out) hb)
                          have n3_ := Aside0.mk (blk_below (g := gb166) (o := .cells #[.int .i64 8, .int .i64 3, .int .i64 10, .string (⟨#[105, 48, 49]⟩ : ByteArray)] 43 (0, 0)) (by (with_reducible repeat (first | refine blk_drewN ?_ _ | refine blk_drew ?_ | refine blk_alloc ?_ _)); exact BK166.out) hb)
                          have n4_ := Aside0.mk (below_step (by repeat (first | (with_reducible first | exact HB.out | apply below_alloc | apply pw_below_drewN | apply below_drew1 | refine below_set ?_ GE165.out | refine below_set ?_ GE166.out) | exact HB.out)) hb)
                          clear HO169
                          clear HO173
                          clear BK165
                          clear BK166
                          clear HB
                          have HO169 := n0_
                          have HO173 := n1_
                          have BK165 := n2_
                          have BK166 := n3_
                          have HB := n4_
                          clear n0_ n1_ n2_ n3_ n4_
                          (try clear hb)
                          (try clear hb2)
                          (try clear hk)
                          (try clear hi)
                          refine hK.out _ _ ⟨(blk_cell BK165.out 0).trans rfl, (blk_cell BK165.out 1).trans rfl, (blk_cell BK165.out 2).trans rfl, (blk_cell BK165.out 3).trans rfl, (blk_cell BK166.out 0).trans rfl, (blk_cell BK166.out 1).trans rfl, (blk_cell BK166.out 2).trans rfl, (blk_cell BK166.out 3).trans rfl, HS8_, HS9_, HS10_, HS11_⟩ (fun hHeld => ?_)
                          clear hK K
                          refine norm_ (a' := ?_) ?_ ?_
                          rotate_left
                          · show Act.put _ (some 20) _ = _
                            simp only [Act.put, List.setIfInBounds_toArray, List.set_cons_zero, List.set_cons_succ, i64_w, i32_w]
                            rfl
                          refine pure_ (i := 2) (N := some 21) (v := ?_) (a' := ?_) #[true, true, true, false, false, false, false, false, false, false, false, false, false, false, false, false, false, false, false, false, false, false, false, false, false, false, false, false, false, false, false, false, false, false, false, false, false, false, false, false, false, false, false, false, false, false, false, false, false, false, false, false, false, false] rfl rfl (any_of HT_.out (by kernel_rfl)) (fun _ _ _ h => h) (Or.inl ⟨by rfl, ?_⟩) ?_ ?_
                          rotate_left
                          · intro w'
                            go_simp
                            with_reducible rfl
                          rotate_left
                          · simp only [Act.put, List.setIfInBounds_toArray, List.set_cons_zero, List.set_cons_succ, i64_w, i32_w]
                            rfl
                          refine take_ (i := 3) (N := some 22) (v := ?_) (a' := ?_) #[true, true, true, true, false, false, false, false, false, false, false, false, false, false, false, false, false, false, false, false, false, false, false, false, false, false, false, false, false, false, false, false, false, false, false, false, false, false, false, false, false, false, false, false, false, false, false, false, false, false, false, false, false, false] rfl rfl (take_ofW HT_.out HW_.out (by kernel_rfl)) (fun _ _ _ h => h) (Or.inl ⟨by rfl, ?_⟩) hHeld ?_ ?_
                          rotate_left
                          · rintro w' ⟨s0, s1, s2, s3, s4, s5, s6, s7, s8, s9, s10, s11⟩
                            go_simp
                            with_reducible rfl
                          rotate_left
                          · simp only [Act.put, List.setIfInBounds_toArray, List.set_cons_zero, List.set_cons_succ, i64_w, i32_w]
                            rfl
                          refine one_ (i := 4) (N := some 23) #[true, true, true, true, true, false, false, false, false, false, false, false, false, false, false, false, false, false, false, false, false, false, false, false, false, false, false, false, false, false, false, false, false, false, false, false, false, false, false, false, false, false, false, false, false, false, false, false, false, false, false, false, false, false] rfl rfl (one_of HT_.out (by kernel_rfl)) (by decide) (fun K hK => ?_)
                          refine goes_ Try.func45 (by kernel_rfl) rfl #[.agg #[.int .i64 7, .int .i64 1, .int .i64 10, .string (⟨#[105, 48, 49]⟩ : ByteArray)], .int .i64 10] (by rfl) rfl rfl (by (try simp only [List.map_toArray, List.map_cons, List.map_nil]); first | done | rfl | (simp only [List.length_drop, List.length_take]; rfl)) ?_
                          with_reducible refine (table_Holds.calls 7 1 10 (⟨#[105, 48, 49]⟩ : ByteArray) 10 false _ A5.out).mono ?_
                          rintro e w35 ⟨rfl, hb⟩
                          have HS8_ := (hb.cell (World.block_lt_of_cell? _ _ (hHeld.2.2.2.2.2.2.2.2.1))).trans (hHeld.2.2.2.2.2.2.2.2.1)
                          have HS9_ := (hb.cell (World.block_lt_of_cell? _ _ (hHeld.2.2.2.2.2.2.2.2.2.1))).trans (hHeld.2.2.2.2.2.2.2.2.2.1)
                          have HS10_ := (hb.cell (World.block_lt_of_cell? _ _ (hHeld.2.2.2.2.2.2.2.2.2.2.1))).trans (hHeld.2.2.2.2.2.2.2.2.2.2.1)
                          have HS11_ := (hb.cell (World.block_lt_of_cell? _ _ (hHeld.2.2.2.2.2.2.2.2.2.2.2))).trans (hHeld.2.2.2.2.2.2.2.2.2.2.2)
                          refine ⟨_, rfl, ?_⟩
                          have n0_ := Aside0.mk (Kd.R_below (by (with_reducible repeat (first | apply Kd.R_alloc | apply Kd.R_drewN | apply Kd.R_drew)); exact HO169.out) hb)
                          have n1_ := Aside0.mk (Kd.R_below (by (with_reducible repeat (first | apply Kd.R_alloc | apply Kd.R_drewN | apply Kd.R_drew)); exact HO173.out) hb)
                          have n2_ := Aside0.mk (blk_below (g := gb165) (o := .cells #[.int .i64 7, .int .i64 1, .int .i64 10, .string (⟨#[105, 48, 49]⟩ : ByteArray)] 43 (0, 0)) (by (with_reducible repeat (first | refine blk_drewN ?_ _ | refine blk_drew ?_ | refine blk_alloc ?_ _)); exact BK165.out) hb)
                          have n3_ := Aside0.mk (blk_below (g := gb166) (o := .cells #[.int .i64 8, .int .i64 3, .int .i64 10, .string (⟨#[105, 48, 49]⟩ : ByteArray)] 43 (0, 0)) (by (with_reducible repeat (first | refine blk_drewN ?_ _ | refine blk_drew ?_ | refine blk_alloc ?_ _)); exact BK166.out) hb)
                          have n4_ := Aside0.mk (below_step (by repeat (first | (with_reducible first | exact HB.out | apply below_alloc | apply pw_below_drewN | apply below_drew1 | refine below_set ?_ GE165.out | refine below_set ?_ GE166.out) | exact HB.out)) hb)
                          clear HO169
                          clear HO173
                          clear BK165
                          clear BK166
                          clear HB
                          have HO169 := n0_
                          have HO173 := n1_
                          have BK165 := n2_
                          have BK166 := n3_
                          have HB := n4_
                          clear n0_ n1_ n2_ n3_ n4_
                          (try clear hb)
                          (try clear hb2)
                          (try clear hk)
                          (try clear hi)
                          refine hK.out _ _ ⟨(blk_cell BK165.out 0).trans rfl, (blk_cell BK165.out 1).trans rfl, (blk_cell BK165.out 2).trans rfl, (blk_cell BK165.out 3).trans rfl, (blk_cell BK166.out 0).trans rfl, (blk_cell BK166.out 1).trans rfl, (blk_cell BK166.out 2).trans rfl, (blk_cell BK166.out 3).trans rfl, HS8_, HS9_, HS10_, HS11_⟩ (fun hHeld => ?_)
                          clear hK K
                          refine norm_ (a' := ?_) ?_ ?_
                          rotate_left
                          · show Act.put _ (some 23) _ = _
                            simp only [Act.put, List.setIfInBounds_toArray, List.set_cons_zero, List.set_cons_succ, i64_w, i32_w]
                            rfl
                          refine pure_ (i := 5) (N := some 24) (v := ?_) (a' := ?_) #[true, true, true, true, true, true, false, false, false, false, false, false, false, false, false, false, false, false, false, false, false, false, false, false, false, false, false, false, false, false, false, false, false, false, false, false, false, false, false, false, false, false, false, false, false, false, false, false, false, false, false, false, false, false] rfl rfl (any_of HT_.out (by kernel_rfl)) (fun _ _ _ h => h) (Or.inl ⟨by rfl, ?_⟩) ?_ ?_
                          rotate_left
                          · intro w'
                            go_simp
                            with_reducible rfl
                          rotate_left
                          · simp only [Act.put, List.setIfInBounds_toArray, List.set_cons_zero, List.set_cons_succ, i64_w, i32_w]
                            rfl
                          refine pure_ (i := 6) (N := some 25) (v := ?_) (a' := ?_) #[true, true, true, true, true, true, true, false, false, false, false, false, false, false, false, false, false, false, false, false, false, false, false, false, false, false, false, false, false, false, false, false, false, false, false, false, false, false, false, false, false, false, false, false, false, false, false, false, false, false, false, false, false, false] rfl rfl (any_of HT_.out (by kernel_rfl)) (fun _ _ _ h => h) (Or.inl ⟨by rfl, ?_⟩) ?_ ?_
                          rotate_left
                          · intro w'
                            go_simp
                            with_reducible rfl
                          rotate_left
                          · simp only [Act.put, List.setIfInBounds_toArray, List.set_cons_zero, List.set_cons_succ, i64_w, i32_w]
                            rfl
                          refine pure_ (i := 7) (N := some 26) (v := ?_) (a' := ?_) #[true, true, true, true, true, true, true, true, false, false, false, false, false, false, false, false, false, false, false, false, false, false, false, false, false, false, false, false, false, false, false, false, false, false, false, false, false, false, false, false, false, false, false, false, false, false, false, false, false, false, false, false, false, false] rfl rfl (any_of HT_.out (by kernel_rfl)) (fun _ _ _ h => h) (Or.inl ⟨by rfl, ?_⟩) ?_ ?_
                          rotate_left
                          · intro w'
                            go_simp
                            with_reducible rfl
                          rotate_left
                          · simp only [Act.put, List.setIfInBounds_toArray, List.set_cons_zero, List.set_cons_succ, i64_w, i32_w]
                            rfl
                          refine take_ (i := 8) (N := some 27) (v := ?_) (a' := ?_) #[true, true, true, true, true, true, true, true, true, false, false, false, false, false, false, false, false, false, false, false, false, false, false, false, false, false, false, false, false, false, false, false, false, false, false, false, false, false, false, false, false, false, false, false, false, false, false, false, false, false, false, false, false, false] rfl rfl (take_ofW HT_.out HW_.out (by kernel_rfl)) (fun _ _ _ h => h) (Or.inl ⟨by rfl, ?_⟩) hHeld ?_ ?_
                          rotate_left
                          · rintro w' ⟨s0, s1, s2, s3, s4, s5, s6, s7, s8, s9, s10, s11⟩
                            go_simp
                            with_reducible rfl
                          rotate_left
                          · simp only [Act.put, List.setIfInBounds_toArray, List.set_cons_zero, List.set_cons_succ, i64_w, i32_w]
                            rfl
                          refine one_ (i := 9) (N := some 28) #[true, true, true, true, true, true, true, true, true, true, false, false, false, false, false, false, false, false, false, false, false, false, false, false, false, false, false, false, false, false, false, false, false, false, false, false, false, false, false, false, false, false, false, false, false, false, false, false, false, false, false, false, false, false] rfl rfl (one_of HT_.out (by kernel_rfl)) (by decide) (fun K hK => ?_)
                          refine goes_ Try.func47 (by kernel_rfl) rfl #[.agg #[.int .i64 8, .int .i64 3, .int .i64 10, .string (⟨#[105, 48, 49]⟩ : ByteArray)], .int .i64 9] (by rfl) rfl rfl (by (try simp only [List.map_toArray, List.map_cons, List.map_nil]); first | done | rfl | (simp only [List.length_drop, List.length_take]; rfl)) ?_
                          with_reducible refine (table_Rests.calls 8 3 10 (⟨#[105, 48, 49]⟩ : ByteArray) 9 true _ A7.out).mono ?_
                          rintro e w36 ⟨rfl, hb⟩
                          have HS8_ := (hb.cell (World.block_lt_of_cell? _ _ (hHeld.2.2.2.2.2.2.2.2.1))).trans (hHeld.2.2.2.2.2.2.2.2.1)
                          have HS9_ := (hb.cell (World.block_lt_of_cell? _ _ (hHeld.2.2.2.2.2.2.2.2.2.1))).trans (hHeld.2.2.2.2.2.2.2.2.2.1)
                          have HS10_ := (hb.cell (World.block_lt_of_cell? _ _ (hHeld.2.2.2.2.2.2.2.2.2.2.1))).trans (hHeld.2.2.2.2.2.2.2.2.2.2.1)
                          have HS11_ := (hb.cell (World.block_lt_of_cell? _ _ (hHeld.2.2.2.2.2.2.2.2.2.2.2))).trans (hHeld.2.2.2.2.2.2.2.2.2.2.2)
                          refine ⟨_, rfl, ?_⟩
                          have n0_ := Aside0.mk (Kd.R_below (by (with_reducible repeat (first | apply Kd.R_alloc | apply Kd.R_drewN | apply Kd.R_drew)); exact HO169.out) hb)
                          have n1_ := Aside0.mk (Kd.R_below (by (with_reducible repeat (first | apply Kd.R_alloc | apply Kd.R_drewN | apply Kd.R_drew)); exact HO173.out) hb)
                          have n2_ := Aside0.mk (blk_below (g := gb165) (o := .cells #[.int .i64 7, .int .i64 1, .int .i64 10, .string (⟨#[105, 48, 49]⟩ : ByteArray)] 43 (0, 0)) (by (with_reducible repeat (first | refine blk_drewN ?_ _ | refine blk_drew ?_ | refine blk_alloc ?_ _)); exact BK165.out) hb)
                          have n3_ := Aside0.mk (blk_below (g := gb166) (o := .cells #[.int .i64 8, .int .i64 3, .int .i64 10, .string (⟨#[105, 48, 49]⟩ : ByteArray)] 43 (0, 0)) (by (with_reducible repeat (first | refine blk_drewN ?_ _ | refine blk_drew ?_ | refine blk_alloc ?_ _)); exact BK166.out) hb)
                          have n4_ := Aside0.mk (below_step (by repeat (first | (with_reducible first | exact HB.out | apply below_alloc | apply pw_below_drewN | apply below_drew1 | refine below_set ?_ GE165.out | refine below_set ?_ GE166.out) | exact HB.out)) hb)
                          clear HO169
                          clear HO173
                          clear BK165
                          clear BK166
                          clear HB
                          have HO169 := n0_
                          have HO173 := n1_
                          have BK165 := n2_
                          have BK166 := n3_
                          have HB := n4_
                          clear n0_ n1_ n2_ n3_ n4_
                          (try clear hb)
                          (try clear hb2)
                          (try clear hk)
                          (try clear hi)
                          refine hK.out _ _ ⟨(blk_cell BK165.out 0).trans rfl, (blk_cell BK165.out 1).trans rfl, (blk_cell BK165.out 2).trans rfl, (blk_cell BK165.out 3).trans rfl, (blk_cell BK166.out 0).trans rfl, (blk_cell BK166.out 1).trans rfl, (blk_cell BK166.out 2).trans rfl, (blk_cell BK166.out 3).trans rfl, HS8_, HS9_, HS10_, HS11_⟩ (fun hHeld => ?_)
                          clear hK K
                          refine norm_ (a' := ?_) ?_ ?_
                          rotate_left
                          · show Act.put _ (some 28) _ = _
                            simp only [Act.put, List.setIfInBounds_toArray, List.set_cons_zero, List.set_cons_succ, i64_w, i32_w]
                            rfl
                          refine pure_ (i := 10) (N := some 29) (v := ?_) (a' := ?_) #[true, true, true, true, true, true, true, true, true, true, true, false, false, false, false, false, false, false, false, false, false, false, false, false, false, false, false, false, false, false, false, false, false, false, false, false, false, false, false, false, false, false, false, false, false, false, false, false, false, false, false, false, false, false] rfl rfl (any_of HT_.out (by kernel_rfl)) (fun _ _ _ h => h) (Or.inl ⟨by rfl, ?_⟩) ?_ ?_
                          rotate_left
                          · intro w'
                            go_simp
                            with_reducible rfl
                          rotate_left
                          · simp only [Act.put, List.setIfInBounds_toArray, List.set_cons_zero, List.set_cons_succ, i64_w, i32_w]
                            rfl
                          refine pure_ (i := 11) (N := some 30) (v := ?_) (a' := ?_) #[true, true, true, true, true, true, true, true, true, true, true, true, false, false, false, false, false, false, false, false, false, false, false, false, false, false, false, false, false, false, false, false, false, false, false, false, false, false, false, false, false, false, false, false, false, false, false, false, false, false, false, false, false, false] rfl rfl (any_of HT_.out (by kernel_rfl)) (fun _ _ _ h => h) (Or.inl ⟨by rfl, ?_⟩) ?_ ?_
                          rotate_left
                          · intro w'
                            go_simp
                            with_reducible rfl
                          rotate_left
                          · simp only [Act.put, List.setIfInBounds_toArray, List.set_cons_zero, List.set_cons_succ, i64_w, i32_w]
                            rfl
                          refine pure_ (i := 12) (N := some 31) (v := ?_) (a' := ?_) #[true, true, true, true, true, true, true, true, true, true, true, true, true, false, false, false, false, false, false, false, false, false, false, false, false, false, false, false, false, false, false, false, false, false, false, false, false, false, false, false, false, false, false, false, false, false, false, false, false, false, false, false, false, false] rfl rfl (any_of HT_.out (by kernel_rfl)) (fun _ _ _ h => h) (Or.inl ⟨by rfl, ?_⟩) ?_ ?_
                          rotate_left
                          · intro w'
                            go_simp
                            with_reducible rfl
                          rotate_left
                          · simp only [Act.put, List.setIfInBounds_toArray, List.set_cons_zero, List.set_cons_succ, i64_w, i32_w]
                            rfl
                          refine pure_ (i := 13) (N := some 32) (v := ?_) (a' := ?_) #[true, true, true, true, true, true, true, true, true, true, true, true, true, true, false, false, false, false, false, false, false, false, false, false, false, false, false, false, false, false, false, false, false, false, false, false, false, false, false, false, false, false, false, false, false, false, false, false, false, false, false, false, false, false] rfl rfl (any_of HT_.out (by kernel_rfl)) (fun _ _ _ h => h) (Or.inl ⟨by rfl, ?_⟩) ?_ ?_
                          rotate_left
                          · intro w'
                            go_simp
                            with_reducible rfl
                          rotate_left
                          · simp only [Act.put, List.setIfInBounds_toArray, List.set_cons_zero, List.set_cons_succ, i64_w, i32_w]
                            rfl
                          refine pure_ (i := 14) (N := some 33) (v := ?_) (a' := ?_) #[true, true, true, true, true, true, true, true, true, true, true, true, true, true, true, false, false, false, false, false, false, false, false, false, false, false, false, false, false, false, false, false, false, false, false, false, false, false, false, false, false, false, false, false, false, false, false, false, false, false, false, false, false, false] rfl rfl (any_of HT_.out (by kernel_rfl)) (fun _ _ _ h => h) (Or.inl ⟨by rfl, ?_⟩) ?_ ?_
                          rotate_left
                          · intro w'
                            go_simp
                            with_reducible rfl
                          rotate_left
                          · simp only [Act.put, List.setIfInBounds_toArray, List.set_cons_zero, List.set_cons_succ, i64_w, i32_w]
                            rfl
                          refine pure_ (i := 15) (N := some 34) (v := ?_) (a' := ?_) #[true, true, true, true, true, true, true, true, true, true, true, true, true, true, true, true, false, false, false, false, false, false, false, false, false, false, false, false, false, false, false, false, false, false, false, false, false, false, false, false, false, false, false, false, false, false, false, false, false, false, false, false, false, false] rfl rfl (any_of HT_.out (by kernel_rfl)) (fun _ _ _ h => h) (Or.inl ⟨by rfl, ?_⟩) ?_ ?_
                          rotate_left
                          · intro w'
                            go_simp
                            with_reducible rfl
                          rotate_left
                          · simp only [Act.put, List.setIfInBounds_toArray, List.set_cons_zero, List.set_cons_succ, i64_w, i32_w]
                            rfl
                          refine pure_ (i := 16) (N := some 35) (v := ?_) (a' := ?_) #[true, true, true, true, true, true, true, true, true, true, true, true, true, true, true, true, true, false, false, false, false, false, false, false, false, false, false, false, false, false, false, false, false, false, false, false, false, false, false, false, false, false, false, false, false, false, false, false, false, false, false, false, false, false] rfl rfl (any_of HT_.out (by kernel_rfl)) (fun _ _ _ h => h) (Or.inl ⟨by rfl, ?_⟩) ?_ ?_
                          rotate_left
                          · intro w'
                            go_simp
                            with_reducible rfl
                          rotate_left
                          · simp only [Act.put, List.setIfInBounds_toArray, List.set_cons_zero, List.set_cons_succ, i64_w, i32_w]
                            rfl
                          refine pure_ (i := 17) (N := some 36) (v := ?_) (a' := ?_) #[true, true, true, true, true, true, true, true, true, true, true, true, true, true, true, true, true, true, false, false, false, false, false, false, false, false, false, false, false, false, false, false, false, false, false, false, false, false, false, false, false, false, false, false, false, false, false, false, false, false, false, false, false, false] rfl rfl (any_of HT_.out (by kernel_rfl)) (fun _ _ _ h => h) (Or.inl ⟨by rfl, ?_⟩) ?_ ?_
                          rotate_left
                          · intro w'
                            go_simp
                            with_reducible rfl
                          rotate_left
                          · simp only [Act.put, List.setIfInBounds_toArray, List.set_cons_zero, List.set_cons_succ, i64_w, i32_w]
                            rfl
                          refine pure_ (i := 18) (N := some 37) (v := ?_) (a' := ?_) #[true, true, true, true, true, true, true, true, true, true, true, true, true, true, true, true, true, true, true, false, false, false, false, false, false, false, false, false, false, false, false, false, false, false, false, false, false, false, false, false, false, false, false, false, false, false, false, false, false, false, false, false, false, false] rfl rfl (any_of HT_.out (by kernel_rfl)) (fun _ _ _ h => h) (Or.inl ⟨by rfl, ?_⟩) ?_ ?_
                          rotate_left
                          · intro w'
                            go_simp
                            with_reducible rfl
                          rotate_left
                          · simp only [Act.put, List.setIfInBounds_toArray, List.set_cons_zero, List.set_cons_succ, i64_w, i32_w]
                            rfl
                          refine pure_ (i := 19) (N := some 38) (v := ?_) (a' := ?_) #[true, true, true, true, true, true, true, true, true, true, true, true, true, true, true, true, true, true, true, true, false, false, false, false, false, false, false, false, false, false, false, false, false, false, false, false, false, false, false, false, false, false, false, false, false, false, false, false, false, false, false, false, false, false] rfl rfl (any_of HT_.out (by kernel_rfl)) (fun _ _ _ h => h) (Or.inl ⟨by rfl, ?_⟩) ?_ ?_
                          rotate_left
                          · intro w'
                            go_simp
                            with_reducible rfl
                          rotate_left
                          · simp only [Act.put, List.setIfInBounds_toArray, List.set_cons_zero, List.set_cons_succ, i64_w, i32_w]
                            rfl
                          refine pure_ (i := 20) (N := some 39) (v := ?_) (a' := ?_) #[true, true, true, true, true, true, true, true, true, true, true, true, true, true, true, true, true, true, true, true, true, false, false, false, false, false, false, false, false, false, false, false, false, false, false, false, false, false, false, false, false, false, false, false, false, false, false, false, false, false, false, false, false, false] rfl rfl (any_of HT_.out (by kernel_rfl)) (fun _ _ _ h => h) (Or.inl ⟨by rfl, ?_⟩) ?_ ?_
                          rotate_left
                          · intro w'
                            go_simp
                            with_reducible rfl
                          rotate_left
                          · simp only [Act.put, List.setIfInBounds_toArray, List.set_cons_zero, List.set_cons_succ, i64_w, i32_w]
                            rfl
                          refine pure_ (i := 21) (N := some 40) (v := ?_) (a' := ?_) #[true, true, true, true, true, true, true, true, true, true, true, true, true, true, true, true, true, true, true, true, true, true, false, false, false, false, false, false, false, false, false, false, false, false, false, false, false, false, false, false, false, false, false, false, false, false, false, false, false, false, false, false, false, false] rfl rfl (any_of HT_.out (by kernel_rfl)) (fun _ _ _ h => h) (Or.inl ⟨by rfl, ?_⟩) ?_ ?_
                          rotate_left
                          · intro w'
                            go_simp
                            with_reducible rfl
                          rotate_left
                          · simp only [Act.put, List.setIfInBounds_toArray, List.set_cons_zero, List.set_cons_succ, i64_w, i32_w]
                            rfl
                          refine pure_ (i := 22) (N := some 41) (v := ?_) (a' := ?_) #[true, true, true, true, true, true, true, true, true, true, true, true, true, true, true, true, true, true, true, true, true, true, true, false, false, false, false, false, false, false, false, false, false, false, false, false, false, false, false, false, false, false, false, false, false, false, false, false, false, false, false, false, false, false] rfl rfl (any_of HT_.out (by kernel_rfl)) (fun _ _ _ h => h) (Or.inl ⟨by rfl, ?_⟩) ?_ ?_
                          rotate_left
                          · intro w'
                            go_simp
                            with_reducible rfl
                          rotate_left
                          · simp only [Act.put, List.setIfInBounds_toArray, List.set_cons_zero, List.set_cons_succ, i64_w, i32_w]
                            rfl
                          refine pure_ (i := 23) (N := some 42) (v := ?_) (a' := ?_) #[true, true, true, true, true, true, true, true, true, true, true, true, true, true, true, true, true, true, true, true, true, true, true, true, false, false, false, false, false, false, false, false, false, false, false, false, false, false, false, false, false, false, false, false, false, false, false, false, false, false, false, false, false, false] rfl rfl (any_of HT_.out (by kernel_rfl)) (fun _ _ _ h => h) (Or.inl ⟨by rfl, ?_⟩) ?_ ?_
                          rotate_left
                          · intro w'
                            go_simp
                            with_reducible rfl
                          rotate_left
                          · simp only [Act.put, List.setIfInBounds_toArray, List.set_cons_zero, List.set_cons_succ, i64_w, i32_w]
                            rfl
                          refine pure_ (i := 24) (N := some 43) (v := ?_) (a' := ?_) #[true, true, true, true, true, true, true, true, true, true, true, true, true, true, true, true, true, true, true, true, true, true, true, true, true, false, false, false, false, false, false, false, false, false, false, false, false, false, false, false, false, false, false, false, false, false, false, false, false, false, false, false, false, false] rfl rfl (any_of HT_.out (by kernel_rfl)) (fun _ _ _ h => h) (Or.inl ⟨by rfl, ?_⟩) ?_ ?_
                          rotate_left
                          · intro w'
                            go_simp
                            with_reducible rfl
                          rotate_left
                          · simp only [Act.put, List.setIfInBounds_toArray, List.set_cons_zero, List.set_cons_succ, i64_w, i32_w]
                            rfl
                          refine pure_ (i := 25) (N := some 44) (v := ?_) (a' := ?_) #[true, true, true, true, true, true, true, true, true, true, true, true, true, true, true, true, true, true, true, true, true, true, true, true, true, true, false, false, false, false, false, false, false, false, false, false, false, false, false, false, false, false, false, false, false, false, false, false, false, false, false, false, false, false] rfl rfl (any_of HT_.out (by kernel_rfl)) (fun _ _ _ h => h) (Or.inl ⟨by rfl, ?_⟩) ?_ ?_
                          rotate_left
                          · intro w'
                            go_simp
                            with_reducible rfl
                          rotate_left
                          · simp only [Act.put, List.setIfInBounds_toArray, List.set_cons_zero, List.set_cons_succ, i64_w, i32_w]
                            rfl
                          refine pure_ (i := 26) (N := some 45) (v := ?_) (a' := ?_) #[true, true, true, true, true, true, true, true, true, true, true, true, true, true, true, true, true, true, true, true, true, true, true, true, true, true, true, false, false, false, false, false, false, false, false, false, false, false, false, false, false, false, false, false, false, false, false, false, false, false, false, false, false, false] rfl rfl (any_of HT_.out (by kernel_rfl)) (fun _ _ _ h => h) (Or.inl ⟨by rfl, ?_⟩) ?_ ?_
                          rotate_left
                          · intro w'
                            go_simp
                            with_reducible rfl
                          rotate_left
                          · simp only [Act.put, List.setIfInBounds_toArray, List.set_cons_zero, List.set_cons_succ, i64_w, i32_w]
                            rfl
                          refine take_ (i := 27) (N := some 46) (v := ?_) (a' := ?_) #[true, true, true, true, true, true, true, true, true, true, true, true, true, true, true, true, true, true, true, true, true, true, true, true, true, true, true, true, false, false, false, false, false, false, false, false, false, false, false, false, false, false, false, false, false, false, false, false, false, false, false, false, false, false] rfl rfl (take_ofW HT_.out HW_.out (by kernel_rfl)) (fun _ _ _ h => h) (Or.inl ⟨by rfl, ?_⟩) hHeld ?_ ?_
                          rotate_left
                          · rintro w' ⟨s0, s1, s2, s3, s4, s5, s6, s7, s8, s9, s10, s11⟩
                            go_simp
                            with_reducible rfl
                          rotate_left
                          · simp only [Act.put, List.setIfInBounds_toArray, List.set_cons_zero, List.set_cons_succ, i64_w, i32_w]
                            rfl
                          refine take_ (i := 28) (N := some 47) (v := ?_) (a' := ?_) #[true, true, true, true, true, true, true, true, true, true, true, true, true, true, true, true, true, true, true, true, true, true, true, true, true, true, true, true, true, false, false, false, false, false, false, false, false, false, false, false, false, false, false, false, false, false, false, false, false, false, false, false, false, false] rfl rfl (take_ofW HT_.out HW_.out (by kernel_rfl)) (fun _ _ _ h => h) (Or.inl ⟨by rfl, ?_⟩) hHeld ?_ ?_
                          rotate_left
                          · rintro w' ⟨s0, s1, s2, s3, s4, s5, s6, s7, s8, s9, s10, s11⟩
                            go_simp
                            with_reducible rfl
                          rotate_left
                          · simp only [Act.put, List.setIfInBounds_toArray, List.set_cons_zero, List.set_cons_succ, i64_w, i32_w]
                            rfl
                          refine pure_ (i := 29) (N := some 48) (v := ?_) (a' := ?_) #[true, true, true, true, true, true, true, true, true, true, true, true, true, true, true, true, true, true, true, true, true, true, true, true, true, true, true, true, true, true, false, false, false, false, false, false, false, false, false, false, false, false, false, false, false, false, false, false, false, false, false, false, false, false] rfl rfl (any_of HT_.out (by kernel_rfl)) (fun _ _ _ h => h) (Or.inl ⟨by rfl, ?_⟩) ?_ ?_
                          rotate_left
                          · intro w'
                            go_simp
                            with_reducible rfl
                          rotate_left
                          · simp only [Act.put, List.setIfInBounds_toArray, List.set_cons_zero, List.set_cons_succ, i64_w, i32_w]
                            rfl
                          refine pure_ (i := 30) (N := some 49) (v := ?_) (a' := ?_) #[true, true, true, true, true, true, true, true, true, true, true, true, true, true, true, true, true, true, true, true, true, true, true, true, true, true, true, true, true, true, true, false, false, false, false, false, false, false, false, false, false, false, false, false, false, false, false, false, false, false, false, false, false, false] rfl rfl (any_of HT_.out (by kernel_rfl)) (fun _ _ _ h => h) (Or.inl ⟨by rfl, ?_⟩) ?_ ?_
                          rotate_left
                          · intro w'
                            go_simp
                            with_reducible rfl
                          rotate_left
                          · simp only [Act.put, List.setIfInBounds_toArray, List.set_cons_zero, List.set_cons_succ, i64_w, i32_w]
                            rfl
                          refine pure_ (i := 31) (N := some 50) (v := ?_) (a' := ?_) #[true, true, true, true, true, true, true, true, true, true, true, true, true, true, true, true, true, true, true, true, true, true, true, true, true, true, true, true, true, true, true, true, false, false, false, false, false, false, false, false, false, false, false, false, false, false, false, false, false, false, false, false, false, false] rfl rfl (any_of HT_.out (by kernel_rfl)) (fun _ _ _ h => h) (Or.inl ⟨by rfl, ?_⟩) ?_ ?_
                          rotate_left
                          · intro w'
                            go_simp
                            with_reducible rfl
                          rotate_left
                          · simp only [Act.put, List.setIfInBounds_toArray, List.set_cons_zero, List.set_cons_succ, i64_w, i32_w]
                            rfl
                          refine pure_ (i := 32) (N := some 51) (v := ?_) (a' := ?_) #[true, true, true, true, true, true, true, true, true, true, true, true, true, true, true, true, true, true, true, true, true, true, true, true, true, true, true, true, true, true, true, true, true, false, false, false, false, false, false, false, false, false, false, false, false, false, false, false, false, false, false, false, false, false] rfl rfl (any_of HT_.out (by kernel_rfl)) (fun _ _ _ h => h) (Or.inl ⟨by rfl, ?_⟩) ?_ ?_
                          rotate_left
                          · intro w'
                            go_simp
                            with_reducible rfl
                          rotate_left
                          · simp only [Act.put, List.setIfInBounds_toArray, List.set_cons_zero, List.set_cons_succ, i64_w, i32_w]
                            rfl
                          refine one_ (i := 33) (N := some 52) #[true, true, true, true, true, true, true, true, true, true, true, true, true, true, true, true, true, true, true, true, true, true, true, true, true, true, true, true, true, true, true, true, true, true, false, false, false, false, false, false, false, false, false, false, false, false, false, false, false, false, false, false, false, false] rfl rfl (one_of HT_.out (by kernel_rfl)) (by decide) (fun K hK => ?_)
                          refine goes_ Try.func49 (by kernel_rfl) rfl #[.slice (some ad178) t171.length co32, .int .i64 8, .string (⟨#[105, 48, 49]⟩ : ByteArray), .int .i64 9] (by rfl) rfl rfl (by (try simp only [List.map_toArray, List.map_cons, List.map_nil]); first | done | rfl | (simp only [List.length_drop, List.length_take]; rfl)) ?_
                          with_reducible refine (table_Free.calls k _ _ t171 8 (⟨#[105, 48, 49]⟩ : ByteArray) 9 false _ ?side1 ?side2 A14.out).mono ?_
                          (case side1 => repeat (first | exact (Kd.R_reads' HO173.out).2.2 | (with_reducible refine Kd.C_alloc ?_ _) | (with_reducible refine Kd.C_drewN ?_ _) | (with_reducible refine Kd.C_drew ?_)))
                          (case side2 => exact (Kd.R_reads' HO173.out).2.1)
                          rintro e w37 ⟨rfl, hb⟩
                          have HS8_ := (hb.cell (World.block_lt_of_cell? _ _ (hHeld.2.2.2.2.2.2.2.2.1))).trans (hHeld.2.2.2.2.2.2.2.2.1)
                          have HS9_ := (hb.cell (World.block_lt_of_cell? _ _ (hHeld.2.2.2.2.2.2.2.2.2.1))).trans (hHeld.2.2.2.2.2.2.2.2.2.1)
                          have HS10_ := (hb.cell (World.block_lt_of_cell? _ _ (hHeld.2.2.2.2.2.2.2.2.2.2.1))).trans (hHeld.2.2.2.2.2.2.2.2.2.2.1)
                          have HS11_ := (hb.cell (World.block_lt_of_cell? _ _ (hHeld.2.2.2.2.2.2.2.2.2.2.2))).trans (hHeld.2.2.2.2.2.2.2.2.2.2.2)
                          refine ⟨_, rfl, ?_⟩
                          have n0_ := Aside0.mk (Kd.R_below (by (with_reducible repeat (first | apply Kd.R_alloc | apply Kd.R_drewN | apply Kd.R_drew)); exact HO169.out) hb)
                          have n1_ := Aside0.mk (Kd.R_below (by (with_reducible repeat (first | apply Kd.R_alloc | apply Kd.R_drewN | apply Kd.R_drew)); exact HO173.out) hb)
                          have n2_ := Aside0.mk (blk_below (g := gb165) (o := .cells #[.int .i64 7, .int .i64 1, .int .i64 10, .string (⟨#[105, 48, 49]⟩ : ByteArray)] 43 (0, 0)) (by (with_reducible repeat (first | refine blk_drewN ?_ _ | refine blk_drew ?_ | refine blk_alloc ?_ _)); exact BK165.out) hb)
                          have n3_ := Aside0.mk (blk_below (g := gb166) (o := .cells #[.int .i64 8, .int .i64 3, .int .i64 10, .string (⟨#[105, 48, 49]⟩ : ByteArray)] 43 (0, 0)) (by (with_reducible repeat (first | refine blk_drewN ?_ _ | refine blk_drew ?_ | refine blk_alloc ?_ _)); exact BK166.out) hb)
                          have n4_ := Aside0.mk (below_step (by repeat (first | (with_reducible first | exact HB.out | apply below_alloc | apply pw_below_drewN | apply below_drew1 | refine below_set ?_ GE165.out | refine below_set ?_ GE166.out) | exact HB.out)) hb)
                          clear HO169
                          clear HO173
                          clear BK165
                          clear BK166
                          clear HB
                          have HO169 := n0_
                          have HO173 := n1_
                          have BK165 := n2_
                          have BK166 := n3_
                          have HB := n4_
                          clear n0_ n1_ n2_ n3_ n4_
                          (try clear hb)
                          (try clear hb2)
                          (try clear hk)
                          (try clear hi)
                          refine hK.out _ _ ⟨(blk_cell BK165.out 0).trans rfl, (blk_cell BK165.out 1).trans rfl, (blk_cell BK165.out 2).trans rfl, (blk_cell BK165.out 3).trans rfl, (blk_cell BK166.out 0).trans rfl, (blk_cell BK166.out 1).trans rfl, (blk_cell BK166.out 2).trans rfl, (blk_cell BK166.out 3).trans rfl, HS8_, HS9_, HS10_, HS11_⟩ (fun hHeld => ?_)
                          clear hK K
                          refine norm_ (a' := ?_) ?_ ?_
                          rotate_left
                          · show Act.put _ (some 52) _ = _
                            simp only [Act.put, List.setIfInBounds_toArray, List.set_cons_zero, List.set_cons_succ, i64_w, i32_w]
                            rfl
                          refine pure_ (i := 34) (N := some 53) (v := ?_) (a' := ?_) #[true, true, true, true, true, true, true, true, true, true, true, true, true, true, true, true, true, true, true, true, true, true, true, true, true, true, true, true, true, true, true, true, true, true, true, false, false, false, false, false, false, false, false, false, false, false, false, false, false, false, false, false, false, false] rfl rfl (any_of HT_.out (by kernel_rfl)) (fun _ _ _ h => h) (Or.inl ⟨by rfl, ?_⟩) ?_ ?_
                          rotate_left
                          · intro w'
                            go_simp
                            with_reducible rfl
                          rotate_left
                          · simp only [Act.put, List.setIfInBounds_toArray, List.set_cons_zero, List.set_cons_succ, i64_w, i32_w]
                            rfl
                          refine pure_ (i := 35) (N := some 54) (v := ?_) (a' := ?_) #[true, true, true, true, true, true, true, true, true, true, true, true, true, true, true, true, true, true, true, true, true, true, true, true, true, true, true, true, true, true, true, true, true, true, true, true, false, false, false, false, false, false, false, false, false, false, false, false, false, false, false, false, false, false] rfl rfl (any_of HT_.out (by kernel_rfl)) (fun _ _ _ h => h) (Or.inl ⟨by rfl, ?_⟩) ?_ ?_
                          rotate_left
                          · intro w'
                            go_simp
                            with_reducible rfl
                          rotate_left
                          · simp only [Act.put, List.setIfInBounds_toArray, List.set_cons_zero, List.set_cons_succ, i64_w, i32_w]
                            rfl
                          refine pure_ (i := 36) (N := some 55) (v := ?_) (a' := ?_) #[true, true, true, true, true, true, true, true, true, true, true, true, true, true, true, true, true, true, true, true, true, true, true, true, true, true, true, true, true, true, true, true, true, true, true, true, true, false, false, false, false, false, false, false, false, false, false, false, false, false, false, false, false, false] rfl rfl (any_of HT_.out (by kernel_rfl)) (fun _ _ _ h => h) (Or.inl ⟨by rfl, ?_⟩) ?_ ?_
                          rotate_left
                          · intro w'
                            go_simp
                            with_reducible rfl
                          rotate_left
                          · simp only [Act.put, List.setIfInBounds_toArray, List.set_cons_zero, List.set_cons_succ, i64_w, i32_w]
                            rfl
                          refine pure_ (i := 37) (N := some 56) (v := ?_) (a' := ?_) #[true, true, true, true, true, true, true, true, true, true, true, true, true, true, true, true, true, true, true, true, true, true, true, true, true, true, true, true, true, true, true, true, true, true, true, true, true, true, false, false, false, false, false, false, false, false, false, false, false, false, false, false, false, false] rfl rfl (any_of HT_.out (by kernel_rfl)) (fun _ _ _ h => h) (Or.inl ⟨by rfl, ?_⟩) ?_ ?_
                          rotate_left
                          · intro w'
                            go_simp
                            with_reducible rfl
                          rotate_left
                          · simp only [Act.put, List.setIfInBounds_toArray, List.set_cons_zero, List.set_cons_succ, i64_w, i32_w]
                            rfl
                          refine one_ (i := 38) (N := some 57) #[true, true, true, true, true, true, true, true, true, true, true, true, true, true, true, true, true, true, true, true, true, true, true, true, true, true, true, true, true, true, true, true, true, true, true, true, true, true, true, false, false, false, false, false, false, false, false, false, false, false, false, false, false, false] rfl rfl (one_of HT_.out (by kernel_rfl)) (by decide) (fun K hK => ?_)
                          refine goes_ Try.func49 (by kernel_rfl) rfl #[.slice (some ad178) t171.length co32, .int .i64 8, .string (⟨#[105, 48, 50]⟩ : ByteArray), .int .i64 10] (by rfl) rfl rfl (by (try simp only [List.map_toArray, List.map_cons, List.map_nil]); first | done | rfl | (simp only [List.length_drop, List.length_take]; rfl)) ?_
                          with_reducible refine (table_Free.calls k _ _ t171 8 (⟨#[105, 48, 50]⟩ : ByteArray) 10 true _ ?side1 ?side2 A16.out).mono ?_
                          (case side1 => repeat (first | exact (Kd.R_reads' HO173.out).2.2 | (with_reducible refine Kd.C_alloc ?_ _) | (with_reducible refine Kd.C_drewN ?_ _) | (with_reducible refine Kd.C_drew ?_)))
                          (case side2 => exact (Kd.R_reads' HO173.out).2.1)
                          rintro e w38 ⟨rfl, hb⟩
                          have HS8_ := (hb.cell (World.block_lt_of_cell? _ _ (hHeld.2.2.2.2.2.2.2.2.1))).trans (hHeld.2.2.2.2.2.2.2.2.1)
                          have HS9_ := (hb.cell (World.block_lt_of_cell? _ _ (hHeld.2.2.2.2.2.2.2.2.2.1))).trans (hHeld.2.2.2.2.2.2.2.2.2.1)
                          have HS10_ := (hb.cell (World.block_lt_of_cell? _ _ (hHeld.2.2.2.2.2.2.2.2.2.2.1))).trans (hHeld.2.2.2.2.2.2.2.2.2.2.1)
                          have HS11_ := (hb.cell (World.block_lt_of_cell? _ _ (hHeld.2.2.2.2.2.2.2.2.2.2.2))).trans (hHeld.2.2.2.2.2.2.2.2.2.2.2)
                          refine ⟨_, rfl, ?_⟩
                          have n0_ := Aside0.mk (Kd.R_below (by (with_reducible repeat (first | apply Kd.R_alloc | apply Kd.R_drewN | apply Kd.R_drew)); exact HO169.out) hb)
                          have n1_ := Aside0.mk (Kd.R_below (by (with_reducible repeat (first | apply Kd.R_alloc | apply Kd.R_drewN | apply Kd.R_drew)); exact HO173.out) hb)
                          have n2_ := Aside0.mk (blk_below (g := gb165) (o := .cells #[.int .i64 7, .int .i64 1, .int .i64 10, .string (⟨#[105, 48, 49]⟩ : ByteArray)] 43 (0, 0)) (by (with_reducible repeat (first | refine blk_drewN ?_ _ | refine blk_drew ?_ | refine blk_alloc ?_ _)); exact BK165.out) hb)
                          have n3_ := Aside0.mk (blk_below (g := gb166) (o := .cells #[.int .i64 8, .int .i64 3, .int .i64 10, .string (⟨#[105, 48, 49]⟩ : ByteArray)] 43 (0, 0)) (by (with_reducible repeat (first | refine blk_drewN ?_ _ | refine blk_drew ?_ | refine blk_alloc ?_ _)); exact BK166.out) hb)
                          have n4_ := Aside0.mk (below_step (by repeat (first | (with_reducible first | exact HB.out | apply below_alloc | apply pw_below_drewN | apply below_drew1 | refine below_set ?_ GE165.out | refine below_set ?_ GE166.out) | exact HB.out)) hb)
                          clear HO169
                          clear HO173
                          clear BK165
                          clear BK166
                          clear HB
                          have HO169 := n0_
                          have HO173 := n1_
                          have BK165 := n2_
                          have BK166 := n3_
                          have HB := n4_
                          clear n0_ n1_ n2_ n3_ n4_
                          (try clear hb)
                          (try clear hb2)
                          (try clear hk)
                          (try clear hi)
                          refine hK.out _ _ ⟨(blk_cell BK165.out 0).trans rfl, (blk_cell BK165.out 1).trans rfl, (blk_cell BK165.out 2).trans rfl, (blk_cell BK165.out 3).trans rfl, (blk_cell BK166.out 0).trans rfl, (blk_cell BK166.out 1).trans rfl, (blk_cell BK166.out 2).trans rfl, (blk_cell BK166.out 3).trans rfl, HS8_, HS9_, HS10_, HS11_⟩ (fun hHeld => ?_)
                          clear hK K
                          refine norm_ (a' := ?_) ?_ ?_
                          rotate_left
                          · show Act.put _ (some 57) _ = _
                            simp only [Act.put, List.setIfInBounds_toArray, List.set_cons_zero, List.set_cons_succ, i64_w, i32_w]
                            rfl
                          refine pure_ (i := 39) (N := some 58) (v := ?_) (a' := ?_) #[true, true, true, true, true, true, true, true, true, true, true, true, true, true, true, true, true, true, true, true, true, true, true, true, true, true, true, true, true, true, true, true, true, true, true, true, true, true, true, true, false, false, false, false, false, false, false, false, false, false, false, false, false, false] rfl rfl (any_of HT_.out (by kernel_rfl)) (fun _ _ _ h => h) (Or.inl ⟨by rfl, ?_⟩) ?_ ?_
                          rotate_left
                          · intro w'
                            go_simp
                            with_reducible rfl
                          rotate_left
                          · simp only [Act.put, List.setIfInBounds_toArray, List.set_cons_zero, List.set_cons_succ, i64_w, i32_w]
                            rfl
                          refine pure_ (i := 40) (N := some 59) (v := ?_) (a' := ?_) #[true, true, true, true, true, true, true, true, true, true, true, true, true, true, true, true, true, true, true, true, true, true, true, true, true, true, true, true, true, true, true, true, true, true, true, true, true, true, true, true, true, false, false, false, false, false, false, false, false, false, false, false, false, false] rfl rfl (any_of HT_.out (by kernel_rfl)) (fun _ _ _ h => h) (Or.inl ⟨by rfl, ?_⟩) ?_ ?_
                          rotate_left
                          · intro w'
                            go_simp
                            with_reducible rfl
                          rotate_left
                          · simp only [Act.put, List.setIfInBounds_toArray, List.set_cons_zero, List.set_cons_succ, i64_w, i32_w]
                            rfl
                          refine pure_ (i := 41) (N := some 60) (v := ?_) (a' := ?_) #[true, true, true, true, true, true, true, true, true, true, true, true, true, true, true, true, true, true, true, true, true, true, true, true, true, true, true, true, true, true, true, true, true, true, true, true, true, true, true, true, true, true, false, false, false, false, false, false, false, false, false, false, false, false] rfl rfl (any_of HT_.out (by kernel_rfl)) (fun _ _ _ h => h) (Or.inl ⟨by rfl, ?_⟩) ?_ ?_
                          rotate_left
                          · intro w'
                            go_simp
                            with_reducible rfl
                          rotate_left
                          · simp only [Act.put, List.setIfInBounds_toArray, List.set_cons_zero, List.set_cons_succ, i64_w, i32_w]
                            rfl
                          refine one_ (i := 42) (N := some 61) #[true, true, true, true, true, true, true, true, true, true, true, true, true, true, true, true, true, true, true, true, true, true, true, true, true, true, true, true, true, true, true, true, true, true, true, true, true, true, true, true, true, true, true, false, false, false, false, false, false, false, false, false, false, false] rfl rfl (one_of HT_.out (by kernel_rfl)) (by decide) (fun K hK => ?_)
                          refine goes_ Try.func49 (by kernel_rfl) rfl #[.slice (some ad178) t171.length co32, .int .i64 7, .string (⟨#[105, 48, 49]⟩ : ByteArray), .int .i64 9] (by rfl) rfl rfl (by (try simp only [List.map_toArray, List.map_cons, List.map_nil]); first | done | rfl | (simp only [List.length_drop, List.length_take]; rfl)) ?_
                          with_reducible refine (table_Free.calls k _ _ t171 7 (⟨#[105, 48, 49]⟩ : ByteArray) 9 true _ ?side1 ?side2 A18.out).mono ?_
                          (case side1 => repeat (first | exact (Kd.R_reads' HO173.out).2.2 | (with_reducible refine Kd.C_alloc ?_ _) | (with_reducible refine Kd.C_drewN ?_ _) | (with_reducible refine Kd.C_drew ?_)))
                          (case side2 => exact (Kd.R_reads' HO173.out).2.1)
                          rintro e w39 ⟨rfl, hb⟩
                          have HS8_ := (hb.cell (World.block_lt_of_cell? _ _ (hHeld.2.2.2.2.2.2.2.2.1))).trans (hHeld.2.2.2.2.2.2.2.2.1)
                          have HS9_ := (hb.cell (World.block_lt_of_cell? _ _ (hHeld.2.2.2.2.2.2.2.2.2.1))).trans (hHeld.2.2.2.2.2.2.2.2.2.1)
                          have HS10_ := (hb.cell (World.block_lt_of_cell? _ _ (hHeld.2.2.2.2.2.2.2.2.2.2.1))).trans (hHeld.2.2.2.2.2.2.2.2.2.2.1)
                          have HS11_ := (hb.cell (World.block_lt_of_cell? _ _ (hHeld.2.2.2.2.2.2.2.2.2.2.2))).trans (hHeld.2.2.2.2.2.2.2.2.2.2.2)
                          refine ⟨_, rfl, ?_⟩
                          have n0_ := Aside0.mk (Kd.R_below (by (with_reducible repeat (first | apply Kd.R_alloc | apply Kd.R_drewN | apply Kd.R_drew)); exact HO169.out) hb)
                          have n1_ := Aside0.mk (Kd.R_below (by (with_reducible repeat (first | apply Kd.R_alloc | apply Kd.R_drewN | apply Kd.R_drew)); exact HO173.out) hb)
                          have n2_ := Aside0.mk (blk_below (g := gb165) (o := .cells #[.int .i64 7, .int .i64 1, .int .i64 10, .string (⟨#[105, 48, 49]⟩ : ByteArray)] 43 (0, 0)) (by (with_reducible repeat (first | refine blk_drewN ?_ _ | refine blk_drew ?_ | refine blk_alloc ?_ _)); exact BK165.out) hb)
                          have n3_ := Aside0.mk (blk_below (g := gb166) (o := .cells #[.int .i64 8, .int .i64 3, .int .i64 10, .string (⟨#[105, 48, 49]⟩ : ByteArray)] 43 (0, 0)) (by (with_reducible repeat (first | refine blk_drewN ?_ _ | refine blk_drew ?_ | refine blk_alloc ?_ _)); exact BK166.out) hb)
                          have n4_ := Aside0.mk (below_step (by repeat (first | (with_reducible first | exact HB.out | apply below_alloc | apply pw_below_drewN | apply below_drew1 | refine below_set ?_ GE165.out | refine below_set ?_ GE166.out) | exact HB.out)) hb)
                          clear HO169
                          clear HO173
                          clear BK165
                          clear BK166
                          clear HB
                          have HO169 := n0_
                          have HO173 := n1_
                          have BK165 := n2_
                          have BK166 := n3_
                          have HB := n4_
                          clear n0_ n1_ n2_ n3_ n4_
                          (try clear hb)
                          (try clear hb2)
                          (try clear hk)
                          (try clear hi)
                          refine hK.out _ _ ⟨(blk_cell BK165.out 0).trans rfl, (blk_cell BK165.out 1).trans rfl, (blk_cell BK165.out 2).trans rfl, (blk_cell BK165.out 3).trans rfl, (blk_cell BK166.out 0).trans rfl, (blk_cell BK166.out 1).trans rfl, (blk_cell BK166.out 2).trans rfl, (blk_cell BK166.out 3).trans rfl, HS8_, HS9_, HS10_, HS11_⟩ (fun hHeld => ?_)
                          clear hK K
                          refine norm_ (a' := ?_) ?_ ?_
                          rotate_left
                          · show Act.put _ (some 61) _ = _
                            simp only [Act.put, List.setIfInBounds_toArray, List.set_cons_zero, List.set_cons_succ, i64_w, i32_w]
                            rfl
                          refine pure_ (i := 43) (N := some 62) (v := ?_) (a' := ?_) #[true, true, true, true, true, true, true, true, true, true, true, true, true, true, true, true, true, true, true, true, true, true, true, true, true, true, true, true, true, true, true, true, true, true, true, true, true, true, true, true, true, true, true, true, false, false, false, false, false, false, false, false, false, false] rfl rfl (any_of HT_.out (by kernel_rfl)) (fun _ _ _ h => h) (Or.inl ⟨by rfl, ?_⟩) ?_ ?_
                          rotate_left
                          · intro w'
                            go_simp
                            with_reducible rfl
                          rotate_left
                          · simp only [Act.put, List.setIfInBounds_toArray, List.set_cons_zero, List.set_cons_succ, i64_w, i32_w]
                            rfl
                          refine pure_ (i := 44) (N := some 63) (v := ?_) (a' := ?_) #[true, true, true, true, true, true, true, true, true, true, true, true, true, true, true, true, true, true, true, true, true, true, true, true, true, true, true, true, true, true, true, true, true, true, true, true, true, true, true, true, true, true, true, true, true, false, false, false, false, false, false, false, false, false] rfl rfl (any_of HT_.out (by kernel_rfl)) (fun _ _ _ h => h) (Or.inl ⟨by rfl, ?_⟩) ?_ ?_
                          rotate_left
                          · intro w'
                            go_simp
                            with_reducible rfl
                          rotate_left
                          · simp only [Act.put, List.setIfInBounds_toArray, List.set_cons_zero, List.set_cons_succ, i64_w, i32_w]
                            rfl
                          refine pure_ (i := 45) (N := some 64) (v := ?_) (a' := ?_) #[true, true, true, true, true, true, true, true, true, true, true, true, true, true, true, true, true, true, true, true, true, true, true, true, true, true, true, true, true, true, true, true, true, true, true, true, true, true, true, true, true, true, true, true, true, true, false, false, false, false, false, false, false, false] rfl rfl (any_of HT_.out (by kernel_rfl)) (fun _ _ _ h => h) (Or.inl ⟨by rfl, ?_⟩) ?_ ?_
                          rotate_left
                          · intro w'
                            go_simp
                            with_reducible rfl
                          rotate_left
                          · simp only [Act.put, List.setIfInBounds_toArray, List.set_cons_zero, List.set_cons_succ, i64_w, i32_w]
                            rfl
                          refine one_ (i := 46) (N := some 65) #[true, true, true, true, true, true, true, true, true, true, true, true, true, true, true, true, true, true, true, true, true, true, true, true, true, true, true, true, true, true, true, true, true, true, true, true, true, true, true, true, true, true, true, true, true, true, true, false, false, false, false, false, false, false] rfl rfl (one_of HT_.out (by kernel_rfl)) (by decide) (fun K hK => ?_)
                          refine goes_ Try.func49 (by kernel_rfl) rfl #[.slice (some ad178) t171.length co32, .int .i64 7, .string (⟨#[105, 48, 50]⟩ : ByteArray), .int .i64 9] (by rfl) rfl rfl (by (try simp only [List.map_toArray, List.map_cons, List.map_nil]); first | done | rfl | (simp only [List.length_drop, List.length_take]; rfl)) ?_
                          with_reducible refine (table_Free.calls k _ _ t171 7 (⟨#[105, 48, 50]⟩ : ByteArray) 9 false _ ?side1 ?side2 A20.out).mono ?_
                          (case side1 => repeat (first | exact (Kd.R_reads' HO173.out).2.2 | (with_reducible refine Kd.C_alloc ?_ _) | (with_reducible refine Kd.C_drewN ?_ _) | (with_reducible refine Kd.C_drew ?_)))
                          (case side2 => exact (Kd.R_reads' HO173.out).2.1)
                          rintro e w40 ⟨rfl, hb⟩
                          have HS8_ := (hb.cell (World.block_lt_of_cell? _ _ (hHeld.2.2.2.2.2.2.2.2.1))).trans (hHeld.2.2.2.2.2.2.2.2.1)
                          have HS9_ := (hb.cell (World.block_lt_of_cell? _ _ (hHeld.2.2.2.2.2.2.2.2.2.1))).trans (hHeld.2.2.2.2.2.2.2.2.2.1)
                          have HS10_ := (hb.cell (World.block_lt_of_cell? _ _ (hHeld.2.2.2.2.2.2.2.2.2.2.1))).trans (hHeld.2.2.2.2.2.2.2.2.2.2.1)
                          have HS11_ := (hb.cell (World.block_lt_of_cell? _ _ (hHeld.2.2.2.2.2.2.2.2.2.2.2))).trans (hHeld.2.2.2.2.2.2.2.2.2.2.2)
                          refine ⟨_, rfl, ?_⟩
                          have n0_ := Aside0.mk (Kd.R_below (by (with_reducible repeat (first | apply Kd.R_alloc | apply Kd.R_drewN | apply Kd.R_drew)); exact HO169.out) hb)
                          have n1_ := Aside0.mk (Kd.R_below (by (with_reducible repeat (first | apply Kd.R_alloc | apply Kd.R_drewN | apply Kd.R_drew)); exact HO173.out) hb)
                          have n2_ := Aside0.mk (blk_below (g := gb165) (o := .cells #[.int .i64 7, .int .i64 1, .int .i64 10, .string (⟨#[105, 48, 49]⟩ : ByteArray)] 43 (0, 0)) (by (with_reducible repeat (first | refine blk_drewN ?_ _ | refine blk_drew ?_ | refine blk_alloc ?_ _)); exact BK165.out) hb)
                          have n3_ := Aside0.mk (blk_below (g := gb166) (o := .cells #[.int .i64 8, .int .i64 3, .int .i64 10, .string (⟨#[105, 48, 49]⟩ : ByteArray)] 43 (0, 0)) (by (with_reducible repeat (first | refine blk_drewN ?_ _ | refine blk_drew ?_ | refine blk_alloc ?_ _)); exact BK166.out) hb)
                          have n4_ := Aside0.mk (below_step (by repeat (first | (with_reducible first | exact HB.out | apply below_alloc | apply pw_below_drewN | apply below_drew1 | refine below_set ?_ GE165.out | refine below_set ?_ GE166.out) | exact HB.out)) hb)
                          clear HO169
                          clear HO173
                          clear BK165
                          clear BK166
                          clear HB
                          have HO169 := n0_
                          have HO173 := n1_
                          have BK165 := n2_
                          have BK166 := n3_
                          have HB := n4_
                          clear n0_ n1_ n2_ n3_ n4_
                          (try clear hb)
                          (try clear hb2)
                          (try clear hk)
                          (try clear hi)
                          refine hK.out _ _ ⟨(blk_cell BK165.out 0).trans rfl, (blk_cell BK165.out 1).trans rfl, (blk_cell BK165.out 2).trans rfl, (blk_cell BK165.out 3).trans rfl, (blk_cell BK166.out 0).trans rfl, (blk_cell BK166.out 1).trans rfl, (blk_cell BK166.out 2).trans rfl, (blk_cell BK166.out 3).trans rfl, HS8_, HS9_, HS10_, HS11_⟩ (fun hHeld => ?_)
                          clear hK K
                          refine norm_ (a' := ?_) ?_ ?_
                          rotate_left
                          · show Act.put _ (some 65) _ = _
                            simp only [Act.put, List.setIfInBounds_toArray, List.set_cons_zero, List.set_cons_succ, i64_w, i32_w]
                            rfl
                          refine pure_ (i := 47) (N := some 66) (v := ?_) (a' := ?_) #[true, true, true, true, true, true, true, true, true, true, true, true, true, true, true, true, true, true, true, true, true, true, true, true, true, true, true, true, true, true, true, true, true, true, true, true, true, true, true, true, true, true, true, true, true, true, true, true, false, false, false, false, false, false] rfl rfl (any_of HT_.out (by kernel_rfl)) (fun _ _ _ h => h) (Or.inl ⟨by rfl, ?_⟩) ?_ ?_
                          rotate_left
                          · intro w'
                            go_simp
                            with_reducible rfl
                          rotate_left
                          · simp only [Act.put, List.setIfInBounds_toArray, List.set_cons_zero, List.set_cons_succ, i64_w, i32_w]
                            rfl
                          refine pure_ (i := 48) (N := some 67) (v := ?_) (a' := ?_) #[true, true, true, true, true, true, true, true, true, true, true, true, true, true, true, true, true, true, true, true, true, true, true, true, true, true, true, true, true, true, true, true, true, true, true, true, true, true, true, true, true, true, true, true, true, true, true, true, true, false, false, false, false, false] rfl rfl (any_of HT_.out (by kernel_rfl)) (fun _ _ _ h => h) (Or.inl ⟨by rfl, ?_⟩) ?_ ?_
                          rotate_left
                          · intro w'
                            go_simp
                            with_reducible rfl
                          rotate_left
                          · simp only [Act.put, List.setIfInBounds_toArray, List.set_cons_zero, List.set_cons_succ, i64_w, i32_w]
                            rfl
                          refine pure_ (i := 49) (N := some 68) (v := ?_) (a' := ?_) #[true, true, true, true, true, true, true, true, true, true, true, true, true, true, true, true, true, true, true, true, true, true, true, true, true, true, true, true, true, true, true, true, true, true, true, true, true, true, true, true, true, true, true, true, true, true, true, true, true, true, false, false, false, false] rfl rfl (any_of HT_.out (by kernel_rfl)) (fun _ _ _ h => h) (Or.inl ⟨by rfl, ?_⟩) ?_ ?_
                          rotate_left
                          · intro w'
                            go_simp
                            with_reducible rfl
                          rotate_left
                          · simp only [Act.put, List.setIfInBounds_toArray, List.set_cons_zero, List.set_cons_succ, i64_w, i32_w]
                            rfl
                          refine pure_ (i := 50) (N := some 69) (v := ?_) (a' := ?_) #[true, true, true, true, true, true, true, true, true, true, true, true, true, true, true, true, true, true, true, true, true, true, true, true, true, true, true, true, true, true, true, true, true, true, true, true, true, true, true, true, true, true, true, true, true, true, true, true, true, true, true, false, false, false] rfl rfl (any_of HT_.out (by kernel_rfl)) (fun _ _ _ h => h) (Or.inl ⟨by rfl, ?_⟩) ?_ ?_
                          rotate_left
                          · intro w'
                            go_simp
                            with_reducible rfl
                          rotate_left
                          · simp only [Act.put, List.setIfInBounds_toArray, List.set_cons_zero, List.set_cons_succ, i64_w, i32_w]
                            rfl
                          refine one_ (i := 51) (N := some 70) #[true, true, true, true, true, true, true, true, true, true, true, true, true, true, true, true, true, true, true, true, true, true, true, true, true, true, true, true, true, true, true, true, true, true, true, true, true, true, true, true, true, true, true, true, true, true, true, true, true, true, true, true, false, false] rfl rfl (one_of HT_.out (by kernel_rfl)) (by decide) (fun K hK => ?_)
                          refine goes_ Try.func37 (by kernel_rfl) rfl #[.slice (some ad178) t171.length co32] (by rfl) rfl rfl (by (try simp only [List.map_toArray, List.map_cons, List.map_nil]); first | done | rfl | (simp only [List.length_drop, List.length_take]; rfl)) ?_
                          with_reducible refine (table_Right.calls k _ _ t171 t183 _ ?side1 ?side2 A22.out).mono ?_
                          (case side1 => repeat (first | exact (Kd.R_reads' HO173.out).2.2 | (with_reducible refine Kd.C_alloc ?_ _) | (with_reducible refine Kd.C_drewN ?_ _) | (with_reducible refine Kd.C_drew ?_)))
                          (case side2 => exact (Kd.R_reads' HO173.out).2.1)
                          rintro e w41 ⟨rfl, hb⟩
                          have HS8_ := (hb.cell (World.block_lt_of_cell? _ _ (hHeld.2.2.2.2.2.2.2.2.1))).trans (hHeld.2.2.2.2.2.2.2.2.1)
                          have HS9_ := (hb.cell (World.block_lt_of_cell? _ _ (hHeld.2.2.2.2.2.2.2.2.2.1))).trans (hHeld.2.2.2.2.2.2.2.2.2.1)
                          have HS10_ := (hb.cell (World.block_lt_of_cell? _ _ (hHeld.2.2.2.2.2.2.2.2.2.2.1))).trans (hHeld.2.2.2.2.2.2.2.2.2.2.1)
                          have HS11_ := (hb.cell (World.block_lt_of_cell? _ _ (hHeld.2.2.2.2.2.2.2.2.2.2.2))).trans (hHeld.2.2.2.2.2.2.2.2.2.2.2)
                          refine ⟨_, rfl, ?_⟩
                          have n0_ := Aside0.mk (Kd.R_below (by (with_reducible repeat (first | apply Kd.R_alloc | apply Kd.R_drewN | apply Kd.R_drew)); exact HO169.out) hb)
                          have n1_ := Aside0.mk (Kd.R_below (by (with_reducible repeat (first | apply Kd.R_alloc | apply Kd.R_drewN | apply Kd.R_drew)); exact HO173.out) hb)
                          have n2_ := Aside0.mk (blk_below (g := gb165) (o := .cells #[.int .i64 7, .int .i64 1, .int .i64 10, .string (⟨#[105, 48, 49]⟩ : ByteArray)] 43 (0, 0)) (by (with_reducible repeat (first | refine blk_drewN ?_ _ | refine blk_drew ?_ | refine blk_alloc ?_ _)); exact BK165.out) hb)
                          have n3_ := Aside0.mk (blk_below (g := gb166) (o := .cells #[.int .i64 8, .int .i64 3, .int .i64 10, .string (⟨#[105, 48, 49]⟩ : ByteArray)] 43 (0, 0)) (by (with_reducible repeat (first | refine blk_drewN ?_ _ | refine blk_drew ?_ | refine blk_alloc ?_ _)); exact BK166.out) hb)
                          have n4_ := Aside0.mk (below_step (by repeat (first | (with_reducible first | exact HB.out | apply below_alloc | apply pw_below_drewN | apply below_drew1 | refine below_set ?_ GE165.out | refine below_set ?_ GE166.out) | exact HB.out)) hb)
                          clear HO169
                          clear HO173
                          clear BK165
                          clear BK166
                          clear HB
                          have HO169 := n0_
                          have HO173 := n1_
                          have BK165 := n2_
                          have BK166 := n3_
                          have HB := n4_
                          clear n0_ n1_ n2_ n3_ n4_
                          (try clear hb)
                          (try clear hb2)
                          (try clear hk)
                          (try clear hi)
                          refine hK.out _ _ ⟨(blk_cell BK165.out 0).trans rfl, (blk_cell BK165.out 1).trans rfl, (blk_cell BK165.out 2).trans rfl, (blk_cell BK165.out 3).trans rfl, (blk_cell BK166.out 0).trans rfl, (blk_cell BK166.out 1).trans rfl, (blk_cell BK166.out 2).trans rfl, (blk_cell BK166.out 3).trans rfl, HS8_, HS9_, HS10_, HS11_⟩ (fun hHeld => ?_)
                          clear hK K
                          refine norm_ (a' := ?_) ?_ ?_
                          rotate_left
                          · show Act.put _ (some 70) _ = _
                            simp only [Act.put, List.setIfInBounds_toArray, List.set_cons_zero, List.set_cons_succ, i64_w, i32_w]
                            rfl
                          refine pure_ (i := 52) (N := some 71) (v := ?_) (a' := ?_) #[true, true, true, true, true, true, true, true, true, true, true, true, true, true, true, true, true, true, true, true, true, true, true, true, true, true, true, true, true, true, true, true, true, true, true, true, true, true, true, true, true, true, true, true, true, true, true, true, true, true, true, true, true, false] rfl rfl (any_of HT_.out (by kernel_rfl)) (fun _ _ _ h => h) (Or.inl ⟨by rfl, ?_⟩) ?_ ?_
                          rotate_left
                          · intro w'
                            go_simp
                            with_reducible rfl
                          rotate_left
                          · simp only [Act.put, List.setIfInBounds_toArray, List.set_cons_zero, List.set_cons_succ, i64_w, i32_w]
                            rfl
                          refine pure_ (i := 53) (N := some 0) (v := ?_) (a' := ?_) #[true, true, true, true, true, true, true, true, true, true, true, true, true, true, true, true, true, true, true, true, true, true, true, true, true, true, true, true, true, true, true, true, true, true, true, true, true, true, true, true, true, true, true, true, true, true, true, true, true, true, true, true, true, true] rfl rfl (any_of HT_.out (by kernel_rfl)) (fun _ _ _ h => h) (Or.inl ⟨by rfl, ?_⟩) ?_ ?_
                          rotate_left
                          · intro w'
                            go_simp
                            with_reducible rfl
                          rotate_left
                          · simp only [Act.put, List.setIfInBounds_toArray, List.set_cons_zero, List.set_cons_succ, i64_w, i32_w]
                            rfl
                          refine done_ (done_of HT_.out (by kernel_rfl)) ?_
                          try go_wp2
                          go_ret
                          exact ⟨by first | rfl | (simp [errW_none, errW_some] <;> rfl) | (simp [*, errW_none, errW_some] <;> rfl), by repeat (first | (with_reducible first | exact HB.out | apply below_alloc | apply pw_below_drewN | apply below_drew1 | refine below_set ?_ GE165.out | refine below_set ?_ GE166.out) | exact HB.out)⟩
                      · replace c19 := Bool.eq_false_iff.mpr c19
                        subst c19
                        have H1 : (none) = some r := by rw [if_neg (show ¬ (false = true) by decide)] at H; exact H
                        clear H
                        have H := H1
                        clear H1
                        exact absurd H (by simp)
                    · replace c17 := Bool.eq_false_iff.mpr c17
                      subst c17
                      have H1 : (none) = some r := by rw [if_neg (show ¬ (false = true) by decide)] at H; exact H
                      clear H
                      have H := H1
                      clear H1
                      exact absurd H (by simp)
                · rw [if_neg c13] at H
                  have c13b0 : (((rd_T43 t171 0).f0) == 7 && (((rd_T43 t171 0).f1) == 1 && (((rd_T43 t171 0).f2) == 10 && ((((rd_T43 t171 0).f3).toList) == ([105, 48, 49] : List UInt8))))) = false := by simpa using c13
                  (try (have c13b1 : decide (((rd_T43 t171 0).f0) = 7 && (((rd_T43 t171 0).f1) == 1 && (((rd_T43 t171 0).f2) == 10 && ((((rd_T43 t171 0).f3).toList) == ([105, 48, 49] : List UInt8))))) = false := by simpa using c13))
                  (try (have c13b2 : (((rd_T43 t171 0).f0) == 7 && (((rd_T43 t171 0).f1) == 1 && (((rd_T43 t171 0).f2) == 10 && ((((rd_T43 t171 0).f3).toList) == ([105, 48, 49] : List UInt8))))) = false := by simpa using c13))
                  (try (have c13b3 : ¬ (((rd_T43 t171 0).f0) = 7 && (((rd_T43 t171 0).f1) == 1 && (((rd_T43 t171 0).f2) == 10 && ((((rd_T43 t171 0).f3).toList) == ([105, 48, 49] : List UInt8))))) := by simpa using c13))
                  clear c13
                  exact absurd H (by simp)
              · rw [if_neg c12] at H
                exact absurd H (by simp)
            · rw [if_neg c11] at H
              have c11b0 : ((t171.length : Int) == 2) = false := beq_eq_false_iff_ne.mpr c11
              have c11b1 : ((t171.length : Int) != 2) = true := bne_iff_ne.mpr c11
              exact absurd H (by simp)
          · rw [if_neg c10] at H
            have c10b0 : (t174 == 0) = false := beq_eq_false_iff_ne.mpr c10
            have c10b1 : (t174 != 0) = true := bne_iff_ne.mpr c10
            exact absurd H (by simp)
        · rw [if_neg c9] at H
          have c9b0 : (t170 == 0) = false := beq_eq_false_iff_ne.mpr c9
          have c9b1 : (t170 != 0) = true := bne_iff_ne.mpr c9
          exact absurd H (by simp)
      · replace c8 := Bool.eq_false_iff.mpr c8
        subst c8
        have H1 : (none) = some r := by rw [if_neg (show ¬ (false = true) by decide)] at H; exact H
        clear H
        have H := H1
        clear H1
        exact absurd H (by simp)
  · replace c4 := Bool.eq_false_iff.mpr c4
    subst c4
    have H1 : (none) = some r := by rw [if_neg (show ¬ (false = true) by decide)] at H; exact H
    clear H
    have H := H1
    clear H1
    exact absurd H (by simp)

/-! ### boarderref01_Right: function 17 -/
def boarderref01_Right.f (a0 : Int) : Option (Bool) := if a0 ≥ 0 then (some (decide (a0 < 4294967296))) else (some false)
set_option maxHeartbeats 8000000 in
set_option maxRecDepth 100000 in
theorem boarderref01_Right.calls (a0 : Int) (r : Bool) (w : World) (h : boarderref01_Right.f a0 = some r) :
    Calls Try.prog 17 #[.int .i64 a0] w fun e w' => e = .returned (.bool r) ∧ Drawn0 w w' := by
  have H : (if a0 ≥ 0 then (some (decide (a0 < 4294967296))) else (some false)) = some r := h
  clear h
  by_cases c2 : a0 ≥ 0
  · rw [if_pos c2] at H
    have c2b0 : decide (0 ≤ a0) = true := decide_eq_true c2
    clear c2
    obtain rfl := Option.some.inj H
    go_enter Try.func17, Try.ntmps17
    go_wp2
    go_ret
    exact ⟨by first | rfl | (simp; done) | (simp [*]; done), by repeat (first | exact Drawn0.refl _ | apply Drawn0.step)⟩
  · rw [if_neg c2] at H
    have c2b0 : decide (0 ≤ a0) = false := decide_eq_false c2
    clear c2
    obtain rfl := Option.some.inj H
    go_enter Try.func17, Try.ntmps17
    go_wp2
    go_ret
    exact ⟨by first | rfl | (simp; done) | (simp [*]; done), by repeat (first | exact Drawn0.refl _ | apply Drawn0.step)⟩

/-! ### boarderref07_Right: function 61 -/
def boarderref07_Right.f (a0 : ByteArray) : Option (Bool) := if (a0.size : Int) < 3 then (some false) else (if 0 < (a0.size : Int) then (if (bt a0 0) = 105 then (if (a0.size : Int) ≤ 256 then (some true) else (if (bt a0 0) = 104 then (some (decide ((a0.size : Int) ≤ 18))) else (some false))) else (if (bt a0 0) = 104 then (some (decide ((a0.size : Int) ≤ 18))) else (some false))) else (none))
set_option maxHeartbeats 8000000 in
set_option maxRecDepth 100000 in
theorem boarderref07_Right.calls (a0 : ByteArray) (r : Bool) (w : World) (h : boarderref07_Right.f a0 = some r) :
    Calls Try.prog 61 #[.string a0] w fun e w' => e = .returned (.bool r) ∧ Drawn0 w w' := by
  have H : (if (a0.size : Int) < 3 then (some false) else (if 0 < (a0.size : Int) then (if (bt a0 0) = 105 then (if (a0.size : Int) ≤ 256 then (some true) else (if (bt a0 0) = 104 then (some (decide ((a0.size : Int) ≤ 18))) else (some false))) else (if (bt a0 0) = 104 then (some (decide ((a0.size : Int) ≤ 18))) else (some false))) else (none))) = some r := h
  clear h
  by_cases c2 : (a0.size : Int) < 3
  · rw [if_pos c2] at H
    have c2b0 : decide ((a0.size : Int) < 3) = true := decide_eq_true c2
    have c2b1 : decide (a0.size < 3) = true := decide_eq_true (by omega)
    clear c2
    obtain rfl := Option.some.inj H
    go_enter Try.func61, Try.ntmps61
    go_wp2
    go_ret
    exact ⟨by first | rfl | (simp; done) | (simp [*]; done), by repeat (first | exact Drawn0.refl _ | apply Drawn0.step)⟩
  · rw [if_neg c2] at H
    have c2b0 : decide ((a0.size : Int) < 3) = false := decide_eq_false c2
    have c2b1 : decide (a0.size < 3) = false := decide_eq_false (by omega)
    clear c2
    by_cases c3 : 0 < (a0.size : Int)
    · rw [if_pos c3] at H
      have c3b0 : decide (0 < (a0.size : Int)) = true := decide_eq_true c3
      have c3b1 : decide (0 < a0.size) = true := decide_eq_true (by omega)
      clear c3
      by_cases c5 : (bt a0 0) = 105
      · rw [if_pos c5] at H
        have c5b0 : ((bt a0 0) == 105) = true := beq_iff_eq.mpr c5
        have c5b1 : ((bt a0 0) != 105) = false := bne_eq_false_iff_eq.mpr c5
        clear c5
        by_cases c6 : (a0.size : Int) ≤ 256
        · rw [if_pos c6] at H
          have c6b0 : decide ((a0.size : Int) ≤ 256) = true := decide_eq_true c6
          have c6b1 : decide (a0.size ≤ 256) = true := decide_eq_true (by omega)
          clear c6
          obtain rfl := Option.some.inj H
          have p4 : 0 ≤ (0 : Int) := (by omega)
          have q4 : 0 < a0.size := (by have : (0 : Int) < (a0.size : Int) := of_decide_eq_true (by first | (with_reducible assumption) | assumption); omega)
          have hx4 : ∀ h : 0 < a0.size, ((a0[0]'h).toNat : Int) = bt a0 0 := bt_at a0 0
          clear p4
          have qi4 : (0 < (a0.size : Int)) = True := eq_true (of_decide_eq_true (by first | (with_reducible assumption) | assumption))
          replace q4 := eq_true q4
          go_enter Try.func61, Try.ntmps61
          go_wp2
          go_ret
          exact ⟨by first | rfl | (simp; done) | (simp [*]; done), by repeat (first | exact Drawn0.refl _ | apply Drawn0.step)⟩
        · rw [if_neg c6] at H
          have c6b0 : decide ((a0.size : Int) ≤ 256) = false := decide_eq_false c6
          have c6b1 : decide (a0.size ≤ 256) = false := decide_eq_false (by omega)
          clear c6
          by_cases c8 : (bt a0 0) = 104
          · rw [if_pos c8] at H
            have c8b0 : ((bt a0 0) == 104) = true := beq_iff_eq.mpr c8
            have c8b1 : ((bt a0 0) != 104) = false := bne_eq_false_iff_eq.mpr c8
            clear c8
            obtain rfl := Option.some.inj H
            have p4 : 0 ≤ (0 : Int) := (by omega)
            have q4 : 0 < a0.size := (by have : (0 : Int) < (a0.size : Int) := of_decide_eq_true (by first | (with_reducible assumption) | assumption); omega)
            have hx4 : ∀ h : 0 < a0.size, ((a0[0]'h).toNat : Int) = bt a0 0 := bt_at a0 0
            clear p4
            have qi4 : (0 < (a0.size : Int)) = True := eq_true (of_decide_eq_true (by first | (with_reducible assumption) | assumption))
            replace q4 := eq_true q4
            have p7 : 0 ≤ (0 : Int) := (by omega)
            have q7 : 0 < a0.size := (by have : (0 : Int) < (a0.size : Int) := of_decide_eq_true (by first | (with_reducible assumption) | assumption); omega)
            have hx7 : ∀ h : 0 < a0.size, ((a0[0]'h).toNat : Int) = bt a0 0 := bt_at a0 0
            clear p7
            have qi7 : (0 < (a0.size : Int)) = True := eq_true (of_decide_eq_true (by first | (with_reducible assumption) | assumption))
            replace q7 := eq_true q7
            go_enter Try.func61, Try.ntmps61
            go_wp2
            go_ret
            exact ⟨by first | rfl | (simp; done) | (simp [*]; done), by repeat (first | exact Drawn0.refl _ | apply Drawn0.step)⟩
          · rw [if_neg c8] at H
            have c8b0 : ((bt a0 0) == 104) = false := beq_eq_false_iff_ne.mpr c8
            have c8b1 : ((bt a0 0) != 104) = true := bne_iff_ne.mpr c8
            obtain rfl := Option.some.inj H
            have p4 : 0 ≤ (0 : Int) := (by omega)
            have q4 : 0 < a0.size := (by have : (0 : Int) < (a0.size : Int) := of_decide_eq_true (by first | (with_reducible assumption) | assumption); omega)
            have hx4 : ∀ h : 0 < a0.size, ((a0[0]'h).toNat : Int) = bt a0 0 := bt_at a0 0
            clear p4
            have qi4 : (0 < (a0.size : Int)) = True := eq_true (of_decide_eq_true (by first | (with_reducible assumption) | assumption))
            replace q4 := eq_true q4
            have p7 : 0 ≤ (0 : Int) := (by omega)
            have q7 : 0 < a0.size := (by have : (0 : Int) < (a0.size : Int) := of_decide_eq_true (by first | (with_reducible assumption) | assumption); omega)
            have hx7 : ∀ h : 0 < a0.size, ((a0[0]'h).toNat : Int) = bt a0 0 := bt_at a0 0
            clear p7
            have qi7 : (0 < (a0.size : Int)) = True := eq_true (of_decide_eq_true (by first | (with_reducible assumption) | assumption))
            replace q7 := eq_true q7
            go_enter Try.func61, Try.ntmps61
            go_wp2
            go_ret
            exact ⟨by first | rfl | (simp; done) | (simp [*]; done), by repeat (first | exact Drawn0.refl _ | apply Drawn0.step)⟩
      · rw [if_neg c5] at H
        have c5b0 : ((bt a0 0) == 105) = false := beq_eq_false_iff_ne.mpr c5
        have c5b1 : ((bt a0 0) != 105) = true := bne_iff_ne.mpr c5
        by_cases c10 : (bt a0 0) = 104
        · rw [if_pos c10] at H
          have c10b0 : ((bt a0 0) == 104) = true := beq_iff_eq.mpr c10
          have c10b1 : ((bt a0 0) != 104) = false := bne_eq_false_iff_eq.mpr c10
          clear c10
          obtain rfl := Option.some.inj H
          have p4 : 0 ≤ (0 : Int) := (by omega)
          have q4 : 0 < a0.size := (by have : (0 : Int) < (a0.size : Int) := of_decide_eq_true (by first | (with_reducible assumption) | assumption); omega)
          have hx4 : ∀ h : 0 < a0.size, ((a0[0]'h).toNat : Int) = bt a0 0 := bt_at a0 0
          clear p4
          have qi4 : (0 < (a0.size : Int)) = True := eq_true (of_decide_eq_true (by first | (with_reducible assumption) | assumption))
          replace q4 := eq_true q4
          have p9 : 0 ≤ (0 : Int) := (by omega)
          have q9 : 0 < a0.size := (by have : (0 : Int) < (a0.size : Int) := of_decide_eq_true (by first | (with_reducible assumption) | assumption); omega)
          have hx9 : ∀ h : 0 < a0.size, ((a0[0]'h).toNat : Int) = bt a0 0 := bt_at a0 0
          clear p9
          have qi9 : (0 < (a0.size : Int)) = True := eq_true (of_decide_eq_true (by first | (with_reducible assumption) | assumption))
          replace q9 := eq_true q9
          go_enter Try.func61, Try.ntmps61
          go_wp2
          go_ret
          exact ⟨by first | rfl | (simp; done) | (simp [*]; done), by repeat (first | exact Drawn0.refl _ | apply Drawn0.step)⟩
        · rw [if_neg c10] at H
          have c10b0 : ((bt a0 0) == 104) = false := beq_eq_false_iff_ne.mpr c10
          have c10b1 : ((bt a0 0) != 104) = true := bne_iff_ne.mpr c10
          obtain rfl := Option.some.inj H
          have p4 : 0 ≤ (0 : Int) := (by omega)
          have q4 : 0 < a0.size := (by have : (0 : Int) < (a0.size : Int) := of_decide_eq_true (by first | (with_reducible assumption) | assumption); omega)
          have hx4 : ∀ h : 0 < a0.size, ((a0[0]'h).toNat : Int) = bt a0 0 := bt_at a0 0
          clear p4
          have qi4 : (0 < (a0.size : Int)) = True := eq_true (of_decide_eq_true (by first | (with_reducible assumption) | assumption))
          replace q4 := eq_true q4
          have p9 : 0 ≤ (0 : Int) := (by omega)
          have q9 : 0 < a0.size := (by have : (0 : Int) < (a0.size : Int) := of_decide_eq_true (by first | (with_reducible assumption) | assumption); omega)
          have hx9 : ∀ h : 0 < a0.size, ((a0[0]'h).toNat : Int) = bt a0 0 := bt_at a0 0
          clear p9
          have qi9 : (0 < (a0.size : Int)) = True := eq_true (of_decide_eq_true (by first | (with_reducible assumption) | assumption))
          replace q9 := eq_true q9
          go_enter Try.func61, Try.ntmps61
          go_wp2
          go_ret
          exact ⟨by first | rfl | (simp; done) | (simp [*]; done), by repeat (first | exact Drawn0.refl _ | apply Drawn0.step)⟩
    · rw [if_neg c3] at H
      exact absurd H (by simp)

/-! ### boarderref09_Right: function 39 -/
def boarderref09_Right.f (a0_0 : Int) (a0_1 : Int) (a0_2 : Int) (a0_3 : ByteArray) : Option (Bool) := (boarderref01_Right.f a0_0).bind fun t185 => (if t185 = true then ((boarderref07_Right.f a0_3).bind fun t186 => (if t186 = true then (if a0_1 = 1 then (if a0_2 ≥ 0 then (some (decide (a0_2 ≤ 1125899906842624))) else (some false)) else (if a0_1 = 2 then (if a0_2 ≥ 0 then (some (decide (a0_2 ≤ 1125899906842624))) else (some false)) else (if a0_1 = 3 then (if a0_2 ≥ 0 then (some (decide (a0_2 ≤ 1125899906842624))) else (some false)) else (some false)))) else (some false))) else (some false))
set_option maxHeartbeats 8000000 in
set_option maxRecDepth 100000 in
theorem boarderref09_Right.calls (a0_0 : Int) (a0_1 : Int) (a0_2 : Int) (a0_3 : ByteArray) (r : Bool) (w : World) (h : boarderref09_Right.f a0_0 a0_1 a0_2 a0_3 = some r) :
    Calls Try.prog 39 #[.agg #[.int .i64 a0_0, .int .i64 a0_1, .int .i64 a0_2, .string a0_3]] w fun e w' => e = .returned (.bool r) ∧ Below w.heap.size w w' := by
  have hu43 := Try.underlying43
  have HB := Aside0.mk (Below.refl w.heap.size w)
  have H : ((boarderref01_Right.f a0_0).bind fun t185 => (if t185 = true then ((boarderref07_Right.f a0_3).bind fun t186 => (if t186 = true then (if a0_1 = 1 then (if a0_2 ≥ 0 then (some (decide (a0_2 ≤ 1125899906842624))) else (some false)) else (if a0_1 = 2 then (if a0_2 ≥ 0 then (some (decide (a0_2 ≤ 1125899906842624))) else (some false)) else (if a0_1 = 3 then (if a0_2 ≥ 0 then (some (decide (a0_2 ≤ 1125899906842624))) else (some false)) else (some false)))) else (some false))) else (some false))) = some r := h
  clear h
  replace H := Option.bind_eq_some_iff.mp H
  obtain ⟨t185, A20, H⟩ := H
  replace H : (if t185 = true then ((boarderref07_Right.f a0_3).bind fun t186 => (if t186 = true then (if a0_1 = 1 then (if a0_2 ≥ 0 then (some (decide (a0_2 ≤ 1125899906842624))) else (some false)) else (if a0_1 = 2 then (if a0_2 ≥ 0 then (some (decide (a0_2 ≤ 1125899906842624))) else (some false)) else (if a0_1 = 3 then (if a0_2 ≥ 0 then (some (decide (a0_2 ≤ 1125899906842624))) else (some false)) else (some false)))) else (some false))) else (some false)) = some r := H
  have A2 := Aside0.mk A20
  clear A20
  by_cases c3 : t185 = true
  · subst c3
    have H1 : ((boarderref07_Right.f a0_3).bind fun t186 => (if t186 = true then (if a0_1 = 1 then (if a0_2 ≥ 0 then (some (decide (a0_2 ≤ 1125899906842624))) else (some false)) else (if a0_1 = 2 then (if a0_2 ≥ 0 then (some (decide (a0_2 ≤ 1125899906842624))) else (some false)) else (if a0_1 = 3 then (if a0_2 ≥ 0 then (some (decide (a0_2 ≤ 1125899906842624))) else (some false)) else (some false)))) else (some false))) = some r := by rw [if_pos rfl] at H; exact H
    clear H
    have H := H1
    clear H1
    replace H := Option.bind_eq_some_iff.mp H
    obtain ⟨t186, A40, H⟩ := H
    replace H : (if t186 = true then (if a0_1 = 1 then (if a0_2 ≥ 0 then (some (decide (a0_2 ≤ 1125899906842624))) else (some false)) else (if a0_1 = 2 then (if a0_2 ≥ 0 then (some (decide (a0_2 ≤ 1125899906842624))) else (some false)) else (if a0_1 = 3 then (if a0_2 ≥ 0 then (some (decide (a0_2 ≤ 1125899906842624))) else (some false)) else (some false)))) else (some false)) = some r := H
    have A4 := Aside0.mk A40
    clear A40
    by_cases c5 : t186 = true
    · subst c5
      have H1 : (if a0_1 = 1 then (if a0_2 ≥ 0 then (some (decide (a0_2 ≤ 1125899906842624))) else (some false)) else (if a0_1 = 2 then (if a0_2 ≥ 0 then (some (decide (a0_2 ≤ 1125899906842624))) else (some false)) else (if a0_1 = 3 then (if a0_2 ≥ 0 then (some (decide (a0_2 ≤ 1125899906842624))) else (some false)) else (some false)))) = some r := by rw [if_pos rfl] at H; exact H
      clear H
      have H := H1
      clear H1
      by_cases c6 : a0_1 = 1
      · rw [if_pos c6] at H
        have c6b0 : (a0_1 == 1) = true := beq_iff_eq.mpr c6
        have c6b1 : (a0_1 != 1) = false := bne_eq_false_iff_eq.mpr c6
        clear c6
        by_cases c7 : a0_2 ≥ 0
        · rw [if_pos c7] at H
          have c7b0 : decide (0 ≤ a0_2) = true := decide_eq_true c7
          clear c7
          obtain rfl := Option.some.inj H
          go_enter Try.func39, Try.ntmps39
          go_wp2_with (first | ((with_reducible refine gate_dst (N := 1) rfl ?_); refine box_event ?hg (N := 1) ?hd (cs := #[.int .i64 a0_0, .int .i64 a0_1, .int .i64 a0_2, .string a0_3]) (t := 43) ?hr ?_; (case hd => rfl); (case hg => rfl); (case hr => first | (go_simp; done) | (go_simp; rfl)); intro gb184 hg w8 hbox hb; have n0_ := Aside0.mk (below_step (by repeat (first | (with_reducible first | exact HB.out | apply below_alloc | apply pw_below_drewN | apply below_drew1) | exact HB.out)) hb); have n1_ := Aside0.mk (hbox); have n2_ := Aside0.mk ((by rw [hg]; exact (below_size (by repeat (first | (with_reducible first | exact HB.out | apply below_alloc | apply pw_below_drewN | apply below_drew1) | exact HB.out))) : w.heap.size ≤ gb184)); have n3_ := Aside0.mk ((by rw [hg]; exact (below_size (by repeat (first | (with_reducible first | exact HB.out | apply below_alloc | apply pw_below_drewN | apply below_drew1) | exact HB.out))) : w.heap.size ≤ gb184)); clear HB; have HB := n0_; have BK184 := n1_; have GW184 := n2_; have GE184 := n3_; clear n0_ n1_ n2_ n3_; clear hb hbox hg; have hcz9_0 : w8.cell? ⟨gb184, 0, none⟩ = some (.int .i64 a0_0) := (blk_cell BK184.out 0).trans rfl; have hcz9_1 : w8.cell? ⟨gb184, 1, none⟩ = some (.int .i64 a0_1) := (blk_cell BK184.out 1).trans rfl; have hcz9_2 : w8.cell? ⟨gb184, 2, none⟩ = some (.int .i64 a0_2) := (blk_cell BK184.out 2).trans rfl; have hcz9_3 : w8.cell? ⟨gb184, 3, none⟩ = some (.string a0_3) := (blk_cell BK184.out 3).trans rfl; have hfz9_0 := blk_frozen BK184.out 0; have hfz9_1 := blk_frozen BK184.out 1; have hfz9_2 := blk_frozen BK184.out 2; have hfz9_3 := blk_frozen BK184.out 3) | ((with_reducible refine gate_callee (f := 17) rfl ?_); refine goesL_ (some 5) rfl rfl Try.func17 (by kernel_rfl) rfl #[.int .i64 a0_0] rfl (by (try simp only [List.map_toArray, List.map_cons, List.map_nil]); first | done | rfl | (simp only [List.length_drop, List.length_take]; rfl)) ?_; (with_reducible refine (boarderref01_Right.calls a0_0 true _ A2.out).mono ?_); rintro e w' ⟨rfl, ⟨nd, rfl⟩⟩; refine ⟨_, rfl, ?_⟩) | (go_at_call 61; (with_reducible refine (boarderref07_Right.calls a0_3 true _ A4.out).mono ?_); rintro e w' ⟨rfl, ⟨nd, rfl⟩⟩))
          go_ret
          exact ⟨by first | rfl | (simp [errW_none, errW_some] <;> rfl) | (simp [*, errW_none, errW_some] <;> rfl), by repeat (first | (with_reducible first | exact HB.out | apply below_alloc | apply pw_below_drewN | apply below_drew1 | refine below_set ?_ GE184.out) | exact HB.out)⟩
        · rw [if_neg c7] at H
          have c7b0 : decide (0 ≤ a0_2) = false := decide_eq_false c7
          clear c7
          obtain rfl := Option.some.inj H
          go_enter Try.func39, Try.ntmps39
          go_wp2_with (first | ((with_reducible refine gate_dst (N := 1) rfl ?_); refine box_event ?hg (N := 1) ?hd (cs := #[.int .i64 a0_0, .int .i64 a0_1, .int .i64 a0_2, .string a0_3]) (t := 43) ?hr ?_; (case hd => rfl); (case hg => rfl); (case hr => first | (go_simp; done) | (go_simp; rfl)); intro gb184 hg w10 hbox hb; have n0_ := Aside0.mk (below_step (by repeat (first | (with_reducible first | exact HB.out | apply below_alloc | apply pw_below_drewN | apply below_drew1) | exact HB.out)) hb); have n1_ := Aside0.mk (hbox); have n2_ := Aside0.mk ((by rw [hg]; exact (below_size (by repeat (first | (with_reducible first | exact HB.out | apply below_alloc | apply pw_below_drewN | apply below_drew1) | exact HB.out))) : w.heap.size ≤ gb184)); have n3_ := Aside0.mk ((by rw [hg]; exact (below_size (by repeat (first | (with_reducible first | exact HB.out | apply below_alloc | apply pw_below_drewN | apply below_drew1) | exact HB.out))) : w.heap.size ≤ gb184)); clear HB; have HB := n0_; have BK184 := n1_; have GW184 := n2_; have GE184 := n3_; clear n0_ n1_ n2_ n3_; clear hb hbox hg; have hcz11_0 : w10.cell? ⟨gb184, 0, none⟩ = some (.int .i64 a0_0) := (blk_cell BK184.out 0).trans rfl; have hcz11_1 : w10.cell? ⟨gb184, 1, none⟩ = some (.int .i64 a0_1) := (blk_cell BK184.out 1).trans rfl; have hcz11_2 : w10.cell? ⟨gb184, 2, none⟩ = some (.int .i64 a0_2) := (blk_cell BK184.out 2).trans rfl; have hcz11_3 : w10.cell? ⟨gb184, 3, none⟩ = some (.string a0_3) := (blk_cell BK184.out 3).trans rfl; have hfz11_0 := blk_frozen BK184.out 0; have hfz11_1 := blk_frozen BK184.out 1; have hfz11_2 := blk_frozen BK184.out 2; have hfz11_3 := blk_frozen BK184.out 3) | ((with_reducible refine gate_callee (f := 17) rfl ?_); refine goesL_ (some 5) rfl rfl Try.func17 (by kernel_rfl) rfl #[.int .i64 a0_0] rfl (by (try simp only [List.map_toArray, List.map_cons, List.map_nil]); first | done | rfl | (simp only [List.length_drop, List.length_take]; rfl)) ?_; (with_reducible refine (boarderref01_Right.calls a0_0 true _ A2.out).mono ?_); rintro e w' ⟨rfl, ⟨nd, rfl⟩⟩; refine ⟨_, rfl, ?_⟩) | (go_at_call 61; (with_reducible refine (boarderref07_Right.calls a0_3 true _ A4.out).mono ?_); rintro e w' ⟨rfl, ⟨nd, rfl⟩⟩))
          go_ret
          exact ⟨by first | rfl | (simp [errW_none, errW_some] <;> rfl) | (simp [*, errW_none, errW_some] <;> rfl), by repeat (first | (with_reducible first | exact HB.out | apply below_alloc | apply pw_below_drewN | apply below_drew1 | refine below_set ?_ GE184.out) | exact HB.out)⟩
      · rw [if_neg c6] at H
        have c6b0 : (a0_1 == 1) = false := beq_eq_false_iff_ne.mpr c6
        have c6b1 : (a0_1 != 1) = true := bne_iff_ne.mpr c6
        by_cases c12 : a0_1 = 2
        · rw [if_pos c12] at H
          have c12b0 : (a0_1 == 2) = true := beq_iff_eq.mpr c12
          have c12b1 : (a0_1 != 2) = false := bne_eq_false_iff_eq.mpr c12
          clear c12
          by_cases c13 : a0_2 ≥ 0
          · rw [if_pos c13] at H
            have c13b0 : decide (0 ≤ a0_2) = true := decide_eq_true c13
            clear c13
            obtain rfl := Option.some.inj H
            go_enter Try.func39, Try.ntmps39
            go_wp2_with (first | ((with_reducible refine gate_dst (N := 1) rfl ?_); refine box_event ?hg (N := 1) ?hd (cs := #[.int .i64 a0_0, .int .i64 a0_1, .int .i64 a0_2, .string a0_3]) (t := 43) ?hr ?_; (case hd => rfl); (case hg => rfl); (case hr => first | (go_simp; done) | (go_simp; rfl)); intro gb184 hg w14 hbox hb; have n0_ := Aside0.mk (below_step (by repeat (first | (with_reducible first | exact HB.out | apply below_alloc | apply pw_below_drewN | apply below_drew1) | exact HB.out)) hb); have n1_ := Aside0.mk (hbox); have n2_ := Aside0.mk ((by rw [hg]; exact (below_size (by repeat (first | (with_reducible first | exact HB.out | apply below_alloc | apply pw_below_drewN | apply below_drew1) | exact HB.out))) : w.heap.size ≤ gb184)); have n3_ := Aside0.mk ((by rw [hg]; exact (below_size (by repeat (first | (with_reducible first | exact HB.out | apply below_alloc | apply pw_below_drewN | apply below_drew1) | exact HB.out))) : w.heap.size ≤ gb184)); clear HB; have HB := n0_; have BK184 := n1_; have GW184 := n2_; have GE184 := n3_; clear n0_ n1_ n2_ n3_; clear hb hbox hg; have hcz15_0 : w14.cell? ⟨gb184, 0, none⟩ = some (.int .i64 a0_0) := (blk_cell BK184.out 0).trans rfl; have hcz15_1 : w14.cell? ⟨gb184, 1, none⟩ = some (.int .i64 a0_1) := (blk_cell BK184.out 1).trans rfl; have hcz15_2 : w14.cell? ⟨gb184, 2, none⟩ = some (.int .i64 a0_2) := (blk_cell BK184.out 2).trans rfl; have hcz15_3 : w14.cell? ⟨gb184, 3, none⟩ = some (.string a0_3) := (blk_cell BK184.out 3).trans rfl; have hfz15_0 := blk_frozen BK184.out 0; have hfz15_1 := blk_frozen BK184.out 1; have hfz15_2 := blk_frozen BK184.out 2; have hfz15_3 := blk_frozen BK184.out 3) | ((with_reducible refine gate_callee (f := 17) rfl ?_); refine goesL_ (some 5) rfl rfl Try.func17 (by kernel_rfl) rfl #[.int .i64 a0_0] rfl (by (try simp only [List.map_toArray, List.map_cons, List.map_nil]); first | done | rfl | (simp only [List.length_drop, List.length_take]; rfl)) ?_; (with_reducible refine (boarderref01_Right.calls a0_0 true _ A2.out).mono ?_); rintro e w' ⟨rfl, ⟨nd, rfl⟩⟩; refine ⟨_, rfl, ?_⟩) | (go_at_call 61; (with_reducible refine (boarderref07_Right.calls a0_3 true _ A4.out).mono ?_); rintro e w' ⟨rfl, ⟨nd, rfl⟩⟩))
            go_ret
            exact ⟨by first | rfl | (simp [errW_none, errW_some] <;> rfl) | (simp [*, errW_none, errW_some] <;> rfl), by repeat (first | (with_reducible first | exact HB.out | apply below_alloc | apply pw_below_drewN | apply below_drew1 | refine below_set ?_ GE184.out) | exact HB.out)⟩
          · rw [if_neg c13] at H
            have c13b0 : decide (0 ≤ a0_2) = false := decide_eq_false c13
            clear c13
            obtain rfl := Option.some.inj H
            go_enter Try.func39, Try.ntmps39
            go_wp2_with (first | ((with_reducible refine gate_dst (N := 1) rfl ?_); refine box_event ?hg (N := 1) ?hd (cs := #[.int .i64 a0_0, .int .i64 a0_1, .int .i64 a0_2, .string a0_3]) (t := 43) ?hr ?_; (case hd => rfl); (case hg => rfl); (case hr => first | (go_simp; done) | (go_simp; rfl)); intro gb184 hg w16 hbox hb; have n0_ := Aside0.mk (below_step (by repeat (first | (with_reducible first | exact HB.out | apply below_alloc | apply pw_below_drewN | apply below_drew1) | exact HB.out)) hb); have n1_ := Aside0.mk (hbox); have n2_ := Aside0.mk ((by rw [hg]; exact (below_size (by repeat (first | (with_reducible first | exact HB.out | apply below_alloc | apply pw_below_drewN | apply below_drew1) | exact HB.out))) : w.heap.size ≤ gb184)); have n3_ := Aside0.mk ((by rw [hg]; exact (below_size (by repeat (first | (with_reducible first | exact HB.out | apply below_alloc | apply pw_below_drewN | apply below_drew1) | exact HB.out))) : w.heap.size ≤ gb184)); clear HB; have HB := n0_; have BK184 := n1_; have GW184 := n2_; have GE184 := n3_; clear n0_ n1_ n2_ n3_; clear hb hbox hg; have hcz17_0 : w16.cell? ⟨gb184, 0, none⟩ = some (.int .i64 a0_0) := (blk_cell BK184.out 0).trans rfl; have hcz17_1 : w16.cell? ⟨gb184, 1, none⟩ = some (.int .i64 a0_1) := (blk_cell BK184.out 1).trans rfl; have hcz17_2 : w16.cell? ⟨gb184, 2, none⟩ = some (.int .i64 a0_2) := (blk_cell BK184.out 2).trans rfl; have hcz17_3 : w16.cell? ⟨gb184, 3, none⟩ = some (.string a0_3) := (blk_cell BK184.out 3).trans rfl; have hfz17_0 := blk_frozen BK184.out 0; have hfz17_1 := blk_frozen BK184.out 1; have hfz17_2 := blk_frozen BK184.out 2; have hfz17_3 := blk_frozen BK184.out 3) | ((with_reducible refine gate_callee (f := 17) rfl ?_); refine goesL_ (some 5) rfl rfl Try.func17 (by kernel_rfl) rfl #[.int .i64 a0_0] rfl (by (try simp only [List.map_toArray, List.map_cons, List.map_nil]); first | done | rfl | (simp only [List.length_drop, List.length_take]; rfl)) ?_; (with_reducible refine (boarderref01_Right.calls a0_0 true _ A2.out).mono ?_); rintro e w' ⟨rfl, ⟨nd, rfl⟩⟩; refine ⟨_, rfl, ?_⟩) | (go_at_call 61; (with_reducible refine (boarderref07_Right.calls a0_3 true _ A4.out).mono ?_); rintro e w' ⟨rfl, ⟨nd, rfl⟩⟩))
            go_ret
            exact ⟨by first | rfl | (simp [errW_none, errW_some] <;> rfl) | (simp [*, errW_none, errW_some] <;> rfl), by repeat (first | (with_reducible first | exact HB.out | apply below_alloc | apply pw_below_drewN | apply below_drew1 | refine below_set ?_ GE184.out) | exact HB.out)⟩
        · rw [if_neg c12] at H
          have c12b0 : (a0_1 == 2) = false := beq_eq_false_iff_ne.mpr c12
          have c12b1 : (a0_1 != 2) = true := bne_iff_ne.mpr c12
          by_cases c18 : a0_1 = 3
          · rw [if_pos c18] at H
            have c18b0 : (a0_1 == 3) = true := beq_iff_eq.mpr c18
            have c18b1 : (a0_1 != 3) = false := bne_eq_false_iff_eq.mpr c18
            clear c18
            by_cases c19 : a0_2 ≥ 0
            · rw [if_pos c19] at H
              have c19b0 : decide (0 ≤ a0_2) = true := decide_eq_true c19
              clear c19
              obtain rfl := Option.some.inj H
              go_enter Try.func39, Try.ntmps39
              go_wp2_with (first | ((with_reducible refine gate_dst (N := 1) rfl ?_); refine box_event ?hg (N := 1) ?hd (cs := #[.int .i64 a0_0, .int .i64 a0_1, .int .i64 a0_2, .string a0_3]) (t := 43) ?hr ?_; (case hd => rfl); (case hg => rfl); (case hr => first | (go_simp; done) | (go_simp; rfl)); intro gb184 hg w20 hbox hb; have n0_ := Aside0.mk (below_step (by repeat (first | (with_reducible first | exact HB.out | apply below_alloc | apply pw_below_drewN | apply below_drew1) | exact HB.out)) hb); have n1_ := Aside0.mk (hbox); have n2_ := Aside0.mk ((by rw [hg]; exact (below_size (by repeat (first | (with_reducible first | exact HB.out | apply below_alloc | apply pw_below_drewN | apply below_drew1) | exact HB.out))) : w.heap.size ≤ gb184)); have n3_ := Aside0.mk ((by rw [hg]; exact (below_size (by repeat (first | (with_reducible first | exact HB.out | apply below_alloc | apply pw_below_drewN | apply below_drew1) | exact HB.out))) : w.heap.size ≤ gb184)); clear HB; have HB := n0_; have BK184 := n1_; have GW184 := n2_; have GE184 := n3_; clear n0_ n1_ n2_ n3_; clear hb hbox hg; have hcz21_0 : w20.cell? ⟨gb184, 0, none⟩ = some (.int .i64 a0_0) := (blk_cell BK184.out 0).trans rfl; have hcz21_1 : w20.cell? ⟨gb184, 1, none⟩ = some (.int .i64 a0_1) := (blk_cell BK184.out 1).trans rfl; have hcz21_2 : w20.cell? ⟨gb184, 2, none⟩ = some (.int .i64 a0_2) := (blk_cell BK184.out 2).trans rfl; have hcz21_3 : w20.cell? ⟨gb184, 3, none⟩ = some (.string a0_3) := (blk_cell BK184.out 3).trans rfl; have hfz21_0 := blk_frozen BK184.out 0; have hfz21_1 := blk_frozen BK184.out 1; have hfz21_2 := blk_frozen BK184.out 2; have hfz21_3 := blk_frozen BK184.out 3) | ((with_reducible refine gate_callee (f := 17) rfl ?_); refine goesL_ (some 5) rfl rfl Try.func17 (by kernel_rfl) rfl #[.int .i64 a0_0] rfl (by (try simp only [List.map_toArray, List.map_cons, List.map_nil]); first | done | rfl | (simp only [List.length_drop, List.length_take]; rfl)) ?_; (with_reducible refine (boarderref01_Right.calls a0_0 true _ A2.out).mono ?_); rintro e w' ⟨rfl, ⟨nd, rfl⟩⟩; refine ⟨_, rfl, ?_⟩) | (go_at_call 61; (with_reducible refine (boarderref07_Right.calls a0_3 true _ A4.out).mono ?_); rintro e w' ⟨rfl, ⟨nd, rfl⟩⟩))
              go_ret
              exact ⟨by first | rfl | (simp [errW_none, errW_some] <;> rfl) | (simp [*, errW_none, errW_some] <;> rfl), by repeat (first | (with_reducible first | exact HB.out | apply below_alloc | apply pw_below_drewN | apply below_drew1 | refine below_set ?_ GE184.out) | exact HB.out)⟩
            · rw [if_neg c19] at H
              have c19b0 : decide (0 ≤ a0_2) = false := decide_eq_false c19
              clear c19
              obtain rfl := Option.some.inj H
              go_enter Try.func39, Try.ntmps39
              go_wp2_with (first | ((with_reducible refine gate_dst (N := 1) rfl ?_); refine box_event ?hg (N := 1) ?hd (cs := #[.int .i64 a0_0, .int .i64 a0_1, .int .i64 a0_2, .string a0_3]) (t := 43) ?hr ?_; (case hd => rfl); (case hg => rfl); (case hr => first | (go_simp; done) | (go_simp; rfl)); intro gb184 hg w22 hbox hb; have n0_ := Aside0.mk (below_step (by repeat (first | (with_reducible first | exact HB.out | apply below_alloc | apply pw_below_drewN | apply below_drew1) | exact HB.out)) hb); have n1_ := Aside0.mk (hbox); have n2_ := Aside0.mk ((by rw [hg]; exact (below_size (by repeat (first | (with_reducible first | exact HB.out | apply below_alloc | apply pw_below_drewN | apply below_drew1) | exact HB.out))) : w.heap.size ≤ gb184)); have n3_ := Aside0.mk ((by rw [hg]; exact (below_size (by repeat (first | (with_reducible first | exact HB.out | apply below_alloc | apply pw_below_drewN | apply below_drew1) | exact HB.out))) : w.heap.size ≤ gb184)); clear HB; have HB := n0_; have BK184 := n1_; have GW184 := n2_; have GE184 := n3_; clear n0_ n1_ n2_ n3_; clear hb hbox hg; have hcz23_0 : w22.cell? ⟨gb184, 0, none⟩ = some (.int .i64 a0_0) := (blk_cell BK184.out 0).trans rfl; have hcz23_1 : w22.cell? ⟨gb184, 1, none⟩ = some (.int .i64 a0_1) := (blk_cell BK184.out 1).trans rfl; have hcz23_2 : w22.cell? ⟨gb184, 2, none⟩ = some (.int .i64 a0_2) := (blk_cell BK184.out 2).trans rfl; have hcz23_3 : w22.cell? ⟨gb184, 3, none⟩ = some (.string a0_3) := (blk_cell BK184.out 3).trans rfl; have hfz23_0 := blk_frozen BK184.out 0; have hfz23_1 := blk_frozen BK184.out 1; have hfz23_2 := blk_frozen BK184.out 2; have hfz23_3 := blk_frozen BK184.out 3) | ((with_reducible refine gate_callee (f := 17) rfl ?_); refine goesL_ (some 5) rfl rfl Try.func17 (by kernel_rfl) rfl #[.int .i64 a0_0] rfl (by (try simp only [List.map_toArray, List.map_cons, List.map_nil]); first | done | rfl | (simp only [List.length_drop, List.length_take]; rfl)) ?_; (with_reducible refine (boarderref01_Right.calls a0_0 true _ A2.out).mono ?_); rintro e w' ⟨rfl, ⟨nd, rfl⟩⟩; refine ⟨_, rfl, ?_⟩) | (go_at_call 61; (with_reducible refine (boarderref07_Right.calls a0_3 true _ A4.out).mono ?_); rintro e w' ⟨rfl, ⟨nd, rfl⟩⟩))
              go_ret
              exact ⟨by first | rfl | (simp [errW_none, errW_some] <;> rfl) | (simp [*, errW_none, errW_some] <;> rfl), by repeat (first | (with_reducible first | exact HB.out | apply below_alloc | apply pw_below_drewN | apply below_drew1 | refine below_set ?_ GE184.out) | exact HB.out)⟩
          · rw [if_neg c18] at H
            have c18b0 : (a0_1 == 3) = false := beq_eq_false_iff_ne.mpr c18
            have c18b1 : (a0_1 != 3) = true := bne_iff_ne.mpr c18
            obtain rfl := Option.some.inj H
            go_enter Try.func39, Try.ntmps39
            go_wp2_with (first | ((with_reducible refine gate_dst (N := 1) rfl ?_); refine box_event ?hg (N := 1) ?hd (cs := #[.int .i64 a0_0, .int .i64 a0_1, .int .i64 a0_2, .string a0_3]) (t := 43) ?hr ?_; (case hd => rfl); (case hg => rfl); (case hr => first | (go_simp; done) | (go_simp; rfl)); intro gb184 hg w24 hbox hb; have n0_ := Aside0.mk (below_step (by repeat (first | (with_reducible first | exact HB.out | apply below_alloc | apply pw_below_drewN | apply below_drew1) | exact HB.out)) hb); have n1_ := Aside0.mk (hbox); have n2_ := Aside0.mk ((by rw [hg]; exact (below_size (by repeat (first | (with_reducible first | exact HB.out | apply below_alloc | apply pw_below_drewN | apply below_drew1) | exact HB.out))) : w.heap.size ≤ gb184)); have n3_ := Aside0.mk ((by rw [hg]; exact (below_size (by repeat (first | (with_reducible first | exact HB.out | apply below_alloc | apply pw_below_drewN | apply below_drew1) | exact HB.out))) : w.heap.size ≤ gb184)); clear HB; have HB := n0_; have BK184 := n1_; have GW184 := n2_; have GE184 := n3_; clear n0_ n1_ n2_ n3_; clear hb hbox hg; have hcz25_0 : w24.cell? ⟨gb184, 0, none⟩ = some (.int .i64 a0_0) := (blk_cell BK184.out 0).trans rfl; have hcz25_1 : w24.cell? ⟨gb184, 1, none⟩ = some (.int .i64 a0_1) := (blk_cell BK184.out 1).trans rfl; have hcz25_2 : w24.cell? ⟨gb184, 2, none⟩ = some (.int .i64 a0_2) := (blk_cell BK184.out 2).trans rfl; have hcz25_3 : w24.cell? ⟨gb184, 3, none⟩ = some (.string a0_3) := (blk_cell BK184.out 3).trans rfl; have hfz25_0 := blk_frozen BK184.out 0; have hfz25_1 := blk_frozen BK184.out 1; have hfz25_2 := blk_frozen BK184.out 2; have hfz25_3 := blk_frozen BK184.out 3) | ((with_reducible refine gate_callee (f := 17) rfl ?_); refine goesL_ (some 5) rfl rfl Try.func17 (by kernel_rfl) rfl #[.int .i64 a0_0] rfl (by (try simp only [List.map_toArray, List.map_cons, List.map_nil]); first | done | rfl | (simp only [List.length_drop, List.length_take]; rfl)) ?_; (with_reducible refine (boarderref01_Right.calls a0_0 true _ A2.out).mono ?_); rintro e w' ⟨rfl, ⟨nd, rfl⟩⟩; refine ⟨_, rfl, ?_⟩) | (go_at_call 61; (with_reducible refine (boarderref07_Right.calls a0_3 true _ A4.out).mono ?_); rintro e w' ⟨rfl, ⟨nd, rfl⟩⟩))
            go_ret
            exact ⟨by first | rfl | (simp [errW_none, errW_some] <;> rfl) | (simp [*, errW_none, errW_some] <;> rfl), by repeat (first | (with_reducible first | exact HB.out | apply below_alloc | apply pw_below_drewN | apply below_drew1 | refine below_set ?_ GE184.out) | exact HB.out)⟩
    · replace c5 := Bool.eq_false_iff.mpr c5
      subst c5
      have H1 : (some false) = some r := by rw [if_neg (show ¬ (false = true) by decide)] at H; exact H
      clear H
      have H := H1
      clear H1
      obtain rfl := Option.some.inj H
      go_enter Try.func39, Try.ntmps39
      go_wp2_with (first | ((with_reducible refine gate_dst (N := 1) rfl ?_); refine box_event ?hg (N := 1) ?hd (cs := #[.int .i64 a0_0, .int .i64 a0_1, .int .i64 a0_2, .string a0_3]) (t := 43) ?hr ?_; (case hd => rfl); (case hg => rfl); (case hr => first | (go_simp; done) | (go_simp; rfl)); intro gb184 hg w26 hbox hb; have n0_ := Aside0.mk (below_step (by repeat (first | (with_reducible first | exact HB.out | apply below_alloc | apply pw_below_drewN | apply below_drew1) | exact HB.out)) hb); have n1_ := Aside0.mk (hbox); have n2_ := Aside0.mk ((by rw [hg]; exact (below_size (by repeat (first | (with_reducible first | exact HB.out | apply below_alloc | apply pw_below_drewN | apply below_drew1) | exact HB.out))) : w.heap.size ≤ gb184)); have n3_ := Aside0.mk ((by rw [hg]; exact (below_size (by repeat (first | (with_reducible first | exact HB.out | apply below_alloc | apply pw_below_drewN | apply below_drew1) | exact HB.out))) : w.heap.size ≤ gb184)); clear HB; have HB := n0_; have BK184 := n1_; have GW184 := n2_; have GE184 := n3_; clear n0_ n1_ n2_ n3_; clear hb hbox hg; have hcz27_0 : w26.cell? ⟨gb184, 0, none⟩ = some (.int .i64 a0_0) := (blk_cell BK184.out 0).trans rfl; have hcz27_1 : w26.cell? ⟨gb184, 1, none⟩ = some (.int .i64 a0_1) := (blk_cell BK184.out 1).trans rfl; have hcz27_2 : w26.cell? ⟨gb184, 2, none⟩ = some (.int .i64 a0_2) := (blk_cell BK184.out 2).trans rfl; have hcz27_3 : w26.cell? ⟨gb184, 3, none⟩ = some (.string a0_3) := (blk_cell BK184.out 3).trans rfl; have hfz27_0 := blk_frozen BK184.out 0; have hfz27_1 := blk_frozen BK184.out 1; have hfz27_2 := blk_frozen BK184.out 2; have hfz27_3 := blk_frozen BK184.out 3) | ((with_reducible refine gate_callee (f := 17) rfl ?_); refine goesL_ (some 5) rfl rfl Try.func17 (by kernel_rfl) rfl #[.int .i64 a0_0] rfl (by (try simp only [List.map_toArray, List.map_cons, List.map_nil]); first | done | rfl | (simp only [List.length_drop, List.length_take]; rfl)) ?_; (with_reducible refine (boarderref01_Right.calls a0_0 true _ A2.out).mono ?_); rintro e w' ⟨rfl, ⟨nd, rfl⟩⟩; refine ⟨_, rfl, ?_⟩) | (go_at_call 61; (with_reducible refine (boarderref07_Right.calls a0_3 false _ A4.out).mono ?_); rintro e w' ⟨rfl, ⟨nd, rfl⟩⟩))
      go_ret
      exact ⟨by first | rfl | (simp [errW_none, errW_some] <;> rfl) | (simp [*, errW_none, errW_some] <;> rfl), by repeat (first | (with_reducible first | exact HB.out | apply below_alloc | apply pw_below_drewN | apply below_drew1 | refine below_set ?_ GE184.out) | exact HB.out)⟩
  · replace c3 := Bool.eq_false_iff.mpr c3
    subst c3
    have H1 : (some false) = some r := by rw [if_neg (show ¬ (false = true) by decide)] at H; exact H
    clear H
    have H := H1
    clear H1
    obtain rfl := Option.some.inj H
    go_enter Try.func39, Try.ntmps39
    go_wp2_with (first | ((with_reducible refine gate_dst (N := 1) rfl ?_); refine box_event ?hg (N := 1) ?hd (cs := #[.int .i64 a0_0, .int .i64 a0_1, .int .i64 a0_2, .string a0_3]) (t := 43) ?hr ?_; (case hd => rfl); (case hg => rfl); (case hr => first | (go_simp; done) | (go_simp; rfl)); intro gb184 hg w28 hbox hb; have n0_ := Aside0.mk (below_step (by repeat (first | (with_reducible first | exact HB.out | apply below_alloc | apply pw_below_drewN | apply below_drew1) | exact HB.out)) hb); have n1_ := Aside0.mk (hbox); have n2_ := Aside0.mk ((by rw [hg]; exact (below_size (by repeat (first | (with_reducible first | exact HB.out | apply below_alloc | apply pw_below_drewN | apply below_drew1) | exact HB.out))) : w.heap.size ≤ gb184)); have n3_ := Aside0.mk ((by rw [hg]; exact (below_size (by repeat (first | (with_reducible first | exact HB.out | apply below_alloc | apply pw_below_drewN | apply below_drew1) | exact HB.out))) : w.heap.size ≤ gb184)); clear HB; have HB := n0_; have BK184 := n1_; have GW184 := n2_; have GE184 := n3_; clear n0_ n1_ n2_ n3_; clear hb hbox hg; have hcz29_0 : w28.cell? ⟨gb184, 0, none⟩ = some (.int .i64 a0_0) := (blk_cell BK184.out 0).trans rfl; have hcz29_1 : w28.cell? ⟨gb184, 1, none⟩ = some (.int .i64 a0_1) := (blk_cell BK184.out 1).trans rfl; have hcz29_2 : w28.cell? ⟨gb184, 2, none⟩ = some (.int .i64 a0_2) := (blk_cell BK184.out 2).trans rfl; have hcz29_3 : w28.cell? ⟨gb184, 3, none⟩ = some (.string a0_3) := (blk_cell BK184.out 3).trans rfl; have hfz29_0 := blk_frozen BK184.out 0; have hfz29_1 := blk_frozen BK184.out 1; have hfz29_2 := blk_frozen BK184.out 2; have hfz29_3 := blk_frozen BK184.out 3) | ((with_reducible refine gate_callee (f := 17) rfl ?_); refine goesL_ (some 5) rfl rfl Try.func17 (by kernel_rfl) rfl #[.int .i64 a0_0] rfl (by (try simp only [List.map_toArray, List.map_cons, List.map_nil]); first | done | rfl | (simp only [List.length_drop, List.length_take]; rfl)) ?_; (with_reducible refine (boarderref01_Right.calls a0_0 false _ A2.out).mono ?_); rintro e w' ⟨rfl, ⟨nd, rfl⟩⟩; refine ⟨_, rfl, ?_⟩))
    go_ret
    exact ⟨by first | rfl | (simp [errW_none, errW_some] <;> rfl) | (simp [*, errW_none, errW_some] <;> rfl), by repeat (first | (with_reducible first | exact HB.out | apply below_alloc | apply pw_below_drewN | apply below_drew1 | refine below_set ?_ GE184.out) | exact HB.out)⟩

end Go.Proofs.Ytlabpabnddfllaa.PTable
