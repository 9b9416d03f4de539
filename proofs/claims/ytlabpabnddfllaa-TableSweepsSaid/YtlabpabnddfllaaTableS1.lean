/- What the printed functions of this group come to, in plain words; each under its theorem's own conditions. -/
import Derived.Test.YtlabpabnddfllaaPTablex4
import Derived.Test.YtlabpabnddfllaaAdr
import Derived.Test.YtlabpabnddfllaaTableTab
import Derived.Test.YtlabpabnddfllaaTableS0
set_option linter.unusedVariables false
set_option linter.unusedSimpArgs false
namespace Go.Proofs.Ytlabpabnddfllaa.PTable
open Go.RowKit Go.Proofs.YtlabpabnddfllaaW.PrintWords Go.Proofs.YtlabpabnddfllaaW.PrintLast Go.Proofs.YtlabpabnddfllaaW.PrintMore

/-! ### boarderlaw12.knows -/
/-- The leases of the document's examples. -/
def kD : Le := ⟨8, 3, 10, (⟨#[105, 48, 49]⟩ : ByteArray)⟩
def kB : Le := ⟨7, 1, 10, (⟨#[105, 48, 49]⟩ : ByteArray)⟩
theorem kD_lease : leaseB kD = true := by decide +kernel
theorem kB_lease : leaseB kB = true := by decide +kernel
theorem kD_tab : Tab [kD] := ⟨by simp, fun l h => by rw [List.mem_singleton.1 h]; exact kD_lease, List.pairwise_singleton _ _⟩
theorem kBD_tab : Tab [kB, kD] := by
  refine ⟨by simp, fun l h => ?_, ?_⟩
  · rcases List.mem_cons.1 h with rfl | h
    · exact kB_lease
    · rw [List.mem_singleton.1 h]; exact kD_lease
  · unfold Asc
    rw [List.pairwise_cons]
    exact ⟨fun a h => by rw [List.mem_singleton.1 h]; decide, List.pairwise_singleton _ _⟩
theorem tab_small {t : List Le} (h : Tab t) : Small t := by
  refine ⟨by have := h.1; omega, fun l hl => ?_⟩
  have hk := (leaseB_of (h.2.1 l hl)).2.2.2.2.2.2
  unfold keyB at hk
  simp only [Bool.and_eq_true, Bool.or_eq_true, decide_eq_true_iff] at hk
  simp only [maxLen]; omega
theorem boarderlaw12_knows_s (k : Nat) (hk : 100 ≤ k) : boarderlaw12_knows.f k = some true := by
  have z3 : (⟨#[105, 48, 49]⟩ : ByteArray).size ≤ maxLen := by decide
  have s1 : table_Set.f k ([] : List Le) 8 3 10 (⟨#[105, 48, 49]⟩ : ByteArray) = some ([kD], 0) := by
    have e := table_Set_s [] ⟨by simp, fun l h => by simp at h⟩ kD z3 k (by simp; omega)
    have h : setAns [] kD = ([kD], 0) := by
      unfold setAns
      rw [if_pos kD_lease, goodL_of tab_nil, show setL [] kD = [kD] from rfl, if_pos (by simp)]
    rw [h] at e; exact e
  have s2 : table_Set.f k [kD] 7 1 10 (⟨#[105, 48, 49]⟩ : ByteArray) = some ([kB, kD], 0) := by
    have e := table_Set_s [kD] (tab_small kD_tab) kB z3 k (by simp; omega)
    have h : setAns [kD] kB = ([kB, kD], 0) := by
      unfold setAns
      rw [if_pos kB_lease, goodL_of kD_tab, show setL [kD] kB = [kB, kD] from rfl, if_pos (by simp)]
    rw [h] at e; exact e
  have h9 : table_Holds.f 7 1 10 (⟨#[105, 48, 49]⟩ : ByteArray) 9 = some true := table_Holds_s kB 9
  have h10 : table_Holds.f 7 1 10 (⟨#[105, 48, 49]⟩ : ByteArray) 10 = some false := table_Holds_s kB 10
  have r9 : table_Rests.f 8 3 10 (⟨#[105, 48, 49]⟩ : ByteArray) 9 = some true := table_Rests_s kD 9
  have fr : ∀ a key now, table_Free.f k [kB, kD] a key now = some (freeB [kB, kD] a key now) := fun a key now => by
    have e := table_Free_s [kB, kD] (tab_small kBD_tab) a key now k (by simp; omega)
    rw [goodL_of kBD_tab] at e; exact e
  have g8 : getL [kB, kD] 8 = some kD := rfl
  have g7 : getL [kB, kD] 7 = some kB := rfl
  have f1 : freeB [kB, kD] 8 (⟨#[105, 48, 49]⟩ : ByteArray) 9 = false := by unfold freeB; rw [g8]; rfl
  have f2 : freeB [kB, kD] 8 (⟨#[105, 48, 50]⟩ : ByteArray) 10 = true := by unfold freeB; rw [g8]; rfl
  have f3 : freeB [kB, kD] 7 (⟨#[105, 48, 49]⟩ : ByteArray) 9 = true := by
    unfold freeB; rw [g7]
    show (!restsB kB 9 && (!holdsB kB 9 || decide ((⟨#[105, 48, 49]⟩ : ByteArray).toList = (⟨#[105, 48, 49]⟩ : ByteArray).toList))) = true
    rw [decide_eq_true rfl]; rfl
  have f4 : freeB [kB, kD] 7 (⟨#[105, 48, 50]⟩ : ByteArray) 9 = false := by
    unfold freeB; rw [g7]
    show (!restsB kB 9 && (!holdsB kB 9 || decide ((⟨#[105, 48, 49]⟩ : ByteArray).toList = (⟨#[105, 48, 50]⟩ : ByteArray).toList))) = false
    rw [ByteArray.toList_mk, ByteArray.toList_mk]; rfl
  have rt : table_Right.f k [kB, kD] = some true := by
    rw [table_Right_s [kB, kD] (tab_small kBD_tab) k (by simp; omega), decide_eq_true kBD_tab]
  have l0 : (rd_T43 [kB, kD] 0) = kB := rfl
  have tl : kB.f3.toList = [105, 48, 49] := ByteArray.toList_mk _
  unfold boarderlaw12_knows.f
  rw [s1]
  simp only [Option.bind_some]
  rw [s2]
  simp only [Option.bind_some]
  rw [h9, h10, r9]
  simp only [Option.bind_some]
  rw [l0, tl, fr, fr, fr, fr, f1, f2, f3, f4, rt]
  rfl

/-! ### boarderref01.Right -/
theorem boarderref01_Right_s (a : Int) : boarderref01_Right.f a = some (decide (0 ≤ a ∧ a ≤ 4294967295)) := by
  unfold boarderref01_Right.f
  by_cases h : a ≥ 0
  · rw [if_pos h]; congr 1; exact decide_eq_decide.2 ⟨fun h2 => ⟨h, by omega⟩, fun h2 => by omega⟩
  · rw [if_neg h, decide_eq_false (by omega)]

/-! ### boarderref07.Right -/
theorem boarderref07_Right_s (s : ByteArray) : boarderref07_Right.f s = some (keyB s) := by
  unfold boarderref07_Right.f keyB
  by_cases h0 : (s.size : Int) < 3
  · rw [if_pos h0, decide_eq_false (show ¬ 3 ≤ s.size by omega)]; rfl
  · rw [if_neg h0, if_pos (by omega), decide_eq_true (show 3 ≤ s.size by omega), Bool.true_and]
    by_cases h1 : bt s 0 = 105
    · rw [if_pos h1]
      by_cases h2 : (s.size : Int) ≤ 256
      · rw [if_pos h2, decide_eq_true (show bt s 0 = 105 ∧ s.size ≤ 256 from ⟨h1, by omega⟩)]; rfl
      · rw [if_neg h2, if_neg (by omega), decide_eq_false (by omega), decide_eq_false (by omega)]; rfl
    · rw [if_neg h1, decide_eq_false (show ¬ (bt s 0 = 105 ∧ s.size ≤ 256) from fun h => h1 h.1), Bool.false_or]
      by_cases h3 : bt s 0 = 104
      · rw [if_pos h3]
        congr 1
        exact decide_eq_decide.2 ⟨fun h => ⟨h3, by omega⟩, fun h => by omega⟩
      · rw [if_neg h3, decide_eq_false (fun h => h3 h.1)]

/-! ### boarderref09.Right -/
theorem boarderref09_Right_s (l : Le) : boarderref09_Right.f l.f0 l.f1 l.f2 l.f3 = some (leaseB l) := by
  unfold boarderref09_Right.f leaseB
  rw [boarderref01_Right_s, boarderref07_Right_s]
  simp only [Option.bind_some]
  by_cases h0 : 0 ≤ l.f0 ∧ l.f0 ≤ 4294967295
  · rw [decide_eq_true h0, if_pos rfl]
    cases hk : keyB l.f3 with
    | false => rw [if_neg (by simp), Bool.and_false]
    | true =>
      rw [if_pos rfl, Bool.and_true]
      have fin : (if l.f2 ≥ 0 then (some (decide (l.f2 ≤ 1125899906842624))) else (some false)) = some (decide (0 ≤ l.f2 ∧ l.f2 ≤ 1125899906842624)) := by
        by_cases h3 : l.f2 ≥ 0
        · rw [if_pos h3]; congr 1; exact decide_eq_decide.2 ⟨fun h => ⟨h3, h⟩, fun h => h.2⟩
        · rw [if_neg h3, decide_eq_false (fun h => h3 h.1)]
      rw [fin]
      by_cases c1 : l.f1 = 1
      · rw [if_pos c1]; congr 1; exact decide_eq_decide.2 ⟨fun h => ⟨h0.1, h0.2, by omega, by omega, h.1, h.2⟩, fun h => ⟨h.2.2.2.2.1, h.2.2.2.2.2⟩⟩
      · rw [if_neg c1]
        by_cases c2 : l.f1 = 2
        · rw [if_pos c2]; congr 1; exact decide_eq_decide.2 ⟨fun h => ⟨h0.1, h0.2, by omega, by omega, h.1, h.2⟩, fun h => ⟨h.2.2.2.2.1, h.2.2.2.2.2⟩⟩
        · rw [if_neg c2]
          by_cases c3 : l.f1 = 3
          · rw [if_pos c3]; congr 1; exact decide_eq_decide.2 ⟨fun h => ⟨h0.1, h0.2, by omega, by omega, h.1, h.2⟩, fun h => ⟨h.2.2.2.2.1, h.2.2.2.2.2⟩⟩
          · rw [if_neg c3, decide_eq_false (by omega)]
  · rw [decide_eq_false h0, if_neg (by simp), decide_eq_false (fun h => h0 ⟨h.1, h.2.1⟩)]; rfl

end Go.Proofs.Ytlabpabnddfllaa.PTable
