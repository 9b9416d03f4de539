/- The law TableSweeps holds of the printed functions; no condition beyond the law's own. -/
import Derived.Test.YtlabpabnddfllaaTableRTableSweeps
import Derived.Test.YtlabpabnddfllaaPTablex5
import Derived.Test.YtlabpabnddfllaaPTablex6
import Derived.Test.YtlabpabnddfllaaPTablex9
import Derived.Test.YtlabpabnddfllaaTableTab
import Derived.Test.YtlabpabnddfllaaTableS1
set_option linter.unusedVariables false
set_option linter.unusedSimpArgs false
namespace Go.Proofs.Ytlabpabnddfllaa.PTable
open Go.RowKit Go.Proofs.YtlabpabnddfllaaW.PrintWords Go.Proofs.YtlabpabnddfllaaW.PrintLast Go.Proofs.YtlabpabnddfllaaW.PrintMore

/-! ### boarderref12.Right -/
open Classical in
theorem boarderref12_Right_l (t : List Le) (ht : t.length ≤ maxLen) (d : Nat) : ∀ (i : Nat) (k : Nat), i + d = t.length → d < k →
    boarderref12_Right.l0 k t i = some (decide (∀ j, i ≤ j → j < t.length → leaseB (atL t j) = true ∧ (j + 1 < t.length → (atL t j).f0 < (atL t (j + 1)).f0))) := by
  simp only [maxLen] at ht
  induction d with
  | zero =>
    intro i k hi hk
    obtain ⟨k, rfl⟩ : ∃ m, k = m + 1 := ⟨k - 1, by omega⟩
    rw [boarderref12_Right.l0, if_neg (by omega), decide_eq_true (fun j a b => by omega)]
  | succ d ih =>
    intro i k hi hkk
    obtain ⟨k, rfl⟩ : ∃ m, k = m + 1 := ⟨k - 1, by omega⟩
    have hw : wrap64 ((i : Int) + 1) = ((i + 1 : Nat) : Int) := by unfold wrap64; omega
    have ihh := ih (i + 1) k (by omega) (by omega)
    rw [boarderref12_Right.l0, if_pos (by omega), if_pos (by omega), show rd_T43 t (i : Int) = atL t i from rfl, boarderref09_Right_s, hw]
    simp only [Option.bind_some]
    by_cases h : leaseB (atL t i) = true
    · rw [if_pos h]
      by_cases h0 : ((i + 1 : Nat) : Int) < (t.length : Int)
      · rw [if_pos h0, if_pos (by omega), show rd_T43 t ((i + 1 : Nat) : Int) = atL t (i + 1) from rfl]
        by_cases h1 : (atL t (i + 1)).f0 ≤ (atL t i).f0
        · rw [if_pos h1, decide_eq_false]
          intro h2
          have := (h2 i (by omega) (by omega)).2 (by omega)
          omega
        · rw [if_neg h1, ihh]
          congr 1
          refine decide_eq_decide.2 ⟨fun h2 j a b => ?_, fun h2 j a b => h2 j (by omega) b⟩
          rcases Nat.eq_or_lt_of_le a with c | c
          · subst c; exact ⟨h, fun _ => by omega⟩
          · exact h2 j (by omega) b
      · rw [if_neg h0, ihh]
        congr 1
        refine decide_eq_decide.2 ⟨fun h2 j a b => ?_, fun h2 j a b => h2 j (by omega) b⟩
        rcases Nat.eq_or_lt_of_le a with c | c
        · subst c; exact ⟨h, fun _ => by omega⟩
        · exact h2 j (by omega) b
    · rw [if_neg h, decide_eq_false]
      intro h2
      exact h (h2 i (by omega) (by omega)).1
theorem boarderref12_Right_s (t : List Le) (ht : t.length ≤ maxLen) (k : Nat) (hk : t.length < k) : boarderref12_Right.f k t = some (decide (Tab t)) := by
  unfold boarderref12_Right.f
  by_cases c : (t.length : Int) > 64
  · rw [if_pos c, decide_eq_false (fun h => by have := h.1; omega)]
  · have e := boarderref12_Right_l t ht t.length 0 k (by omega) hk
    rw [if_neg c, show boarderref12_Right.l0 k t 0 = boarderref12_Right.l0 k t ((0 : Nat) : Int) from rfl, e]
    congr 1
    refine decide_eq_decide.2 ?_
    rw [tab_iff2]
    exact ⟨fun h => ⟨by omega, fun j b => h j (by omega) b⟩, fun h j _ b => h.2 j b⟩

/-! ### boarderref10.SameLeases -/
theorem boarderref10_SameLeases_l (t : List Le) (ht : t.length ≤ maxLen) (d : Nat) : ∀ (i : Nat) (k : Nat), i + d = t.length → d < k → boarderref10_SameLeases.l0 k t t i = some true := by
  simp only [maxLen] at ht
  induction d with
  | zero =>
    intro i k hi hk
    obtain ⟨k, rfl⟩ : ∃ m, k = m + 1 := ⟨k - 1, by omega⟩
    rw [boarderref10_SameLeases.l0, if_neg (by omega)]
  | succ d ih =>
    intro i k hi hkk
    obtain ⟨k, rfl⟩ : ∃ m, k = m + 1 := ⟨k - 1, by omega⟩
    have hw : wrap64 ((i : Int) + 1) = ((i + 1 : Nat) : Int) := by unfold wrap64; omega
    rw [boarderref10_SameLeases.l0, if_pos (by omega), if_pos (by omega), if_pos (by omega), if_neg (by simp), hw]
    exact ih (i + 1) k (by omega) (by omega)
theorem boarderref10_SameLeases_s (t : List Le) (ht : t.length ≤ maxLen) (k : Nat) (hk : t.length < k) : boarderref10_SameLeases.f k t t = some true := by
  unfold boarderref10_SameLeases.f
  rw [if_pos rfl]
  exact boarderref10_SameLeases_l t ht t.length 0 k (by omega) hk

/-! ### table.Sweep -/
theorem table_Sweep_l (t : List Le) (ht : t.length ≤ 500) (now : Int) (d : Nat) : ∀ (i : Nat) (out : List Le) (k : Nat), i + d = t.length → d < k → out.length + d ≤ 1000 → table_Sweep.l0 k now out t (t.length : Int) i = some (out ++ sweepL (t.drop i) now) := by
  induction d with
  | zero =>
    intro i out k hi hk ho
    obtain ⟨k, rfl⟩ : ∃ m, k = m + 1 := ⟨k - 1, by omega⟩
    rw [table_Sweep.l0, if_neg (by omega), List.drop_eq_nil_of_le (by omega)]; simp [sweepL]
  | succ d ih =>
    intro i out k hi hk ho
    obtain ⟨k, rfl⟩ : ∃ m, k = m + 1 := ⟨k - 1, by omega⟩
    have hw : wrap64 ((i : Int) + 1) = ((i + 1 : Nat) : Int) := by unfold wrap64; omega
    have hx : (⟨(atL t i).f0, (atL t i).f1, (atL t i).f2, (atL t i).f3⟩ : Le) = atL t i := rfl
    rw [table_Sweep.l0, if_pos (by omega), if_pos (by omega), if_pos (by omega), show rd_T43 t (i : Int) = atL t i from rfl, table_Holds_s, table_Rests_s, hw, hx, List.drop_eq_getElem_cons (i := i) (by omega), ← atL_get (by omega)]
    simp only [Option.bind_some]
    unfold sweepL
    rw [List.filter_cons]
    cases h1 : holdsB (atL t i) now with
    | true =>
      rw [if_pos rfl, if_pos (by omega), ih (i + 1) _ k (by omega) (by omega) (by simp; omega)]
      simp [sweepL]
    | false =>
      rw [if_neg (by simp)]
      cases h2 : restsB (atL t i) now with
      | true =>
        rw [if_pos rfl, if_pos (by omega), ih (i + 1) _ k (by omega) (by omega) (by simp; omega)]
        simp [sweepL]
      | false =>
        rw [if_neg (by simp), ih (i + 1) _ k (by omega) (by omega) (by omega)]
        simp [sweepL]
theorem table_Sweep_s (t : List Le) (h : Small t) (now : Int) (k : Nat) (hk : t.length < k) : table_Sweep.f k t now = some (sweepL (goodL t) now) := by
  have hgl : (goodL t).length ≤ t.length := by unfold goodL; split <;> simp
  have := h.1
  unfold table_Sweep.f
  rw [table_good_s t h k hk]
  simp only [Option.bind_some]
  have e := table_Sweep_l (goodL t) (by omega) now (goodL t).length 0 [] k (by omega) (by omega) (by simp; omega)
  rw [List.drop_zero, List.nil_append] at e
  exact e

end Go.Proofs.Ytlabpabnddfllaa.PTable

namespace Go.Proofs.Ytlabpabnddfllaa.Pure
open Go.RowKit Go.Proofs.YtlabpabnddfllaaW.PrintWords Go.Proofs.YtlabpabnddfllaaW.PrintLast Go.Proofs.YtlabpabnddfllaaW.PrintMore Go.Proofs.Ytlabpabnddfllaa.PTable

theorem getL_sweep {t : List Le} (h : Asc t) (a : Int) (now : Int) : getL (sweepL t now) a = match getL t a with | some l => if (holdsB l now || restsB l now) = true then some l else none | none => none := by
  cases hq : getL t a with
  | none =>
    refine getL_none fun l hl e => ?_
    have hmem := (List.mem_filter.1 hl).1
    have := getL_some h hmem
    rw [e, hq] at this; cases this
  | some l =>
    obtain ⟨h1, h2⟩ := getL_mem hq
    by_cases c : (holdsB l now || restsB l now) = true
    · show getL (sweepL t now) a = if (holdsB l now || restsB l now) = true then some l else none
      rw [if_pos c, ← h2]
      exact getL_some (asc_filter h _) (List.mem_filter.2 ⟨h1, c⟩)
    · show getL (sweepL t now) a = if (holdsB l now || restsB l now) = true then some l else none
      rw [if_neg c]
      refine getL_none fun x hx e => ?_
      obtain ⟨g1, g2⟩ := List.mem_filter.1 hx
      have g3 := getL_some h g1
      rw [e, hq] at g3
      exact c (by rw [Option.some.inj g3]; exact g2)
theorem freeB_sweep {t : List Le} (h : Asc t) (a : Int) (key : ByteArray) (now : Int) : freeB (sweepL t now) a key now = freeB t a key now := by
  unfold freeB
  rw [getL_sweep h]
  cases hq : getL t a with
  | none => rfl
  | some l =>
    by_cases c : (holdsB l now || restsB l now) = true
    · simp only [c, if_true]
    · simp only [c, if_false]
      rw [Bool.or_eq_true, not_or, Bool.not_eq_true, Bool.not_eq_true] at c
      rw [c.1, c.2]; rfl
theorem TableSweeps : boarderlaw12_TableSweeps.Pure := by
  intro t a key now ht ha hkey hnow
  have hm : t.length ≤ maxLen := ht.1
  refine ⟨2 * t.length + 2000, ?_⟩
  have hj : ∀ b, (b = false → Tab t) → boarderlaw12_TableSweeps.j0 (2 * t.length + 2000) t a key now b = some true := by
    intro b hb
    rw [show 2 * t.length + 2000 = (2 * t.length + 1999) + 1 from rfl, boarderlaw12_TableSweeps.j0]
    have hk := boarderlaw12_knows_s (2 * t.length + 1999) (by omega)
    cases b with
    | true => rw [if_pos rfl, hk]; rfl
    | false =>
      have h0 := hb rfl
      have hs := tab_small h0
      have hT : Tab (sweepL t now) := tab_filter h0 _
      have hS := tab_small hT
      have hlen := hT.1
      have hle : (sweepL t now).length ≤ t.length := List.length_filter_le _ _
      have e1 := table_Sweep_s t hs now (2 * t.length + 1999) (by omega)
      rw [goodL_of h0] at e1
      have e2 := table_Right_s _ hS (2 * t.length + 1999) (by omega)
      have e3 := boarderref10_SameLeases_s (sweepL t now) (by simp only [maxLen]; omega) (2 * t.length + 1999) (by omega)
      have e4 := table_Free_s (sweepL t now) hS a key now (2 * t.length + 1999) (by omega)
      have e5 := table_Free_s t hs a key now (2 * t.length + 1999) (by omega)
      have e6 := table_Sweep_s (sweepL t now) hS now (2 * t.length + 1999) (by omega)
      have e7 : sweepL (sweepL t now) now = sweepL t now := by
        unfold sweepL
        rw [List.filter_filter]
        congr 1
        funext l; rw [Bool.and_self]
      rw [goodL_of hT, freeB_sweep h0.2.2] at e4
      rw [goodL_of h0] at e5
      rw [goodL_of hT, e7] at e6
      rw [if_neg (by simp), e1]
      simp only [Option.bind_some]
      rw [e2, e4, e5, e6]
      simp only [Option.bind_some]
      rw [e3, hk, decide_eq_true hT]
      simp
  unfold boarderlaw12_TableSweeps.f
  rw [boarderlaw12_Great_s t hm _ (by omega)]
  simp only [Option.bind_some]
  cases hg : greatB t with
  | true => rw [if_pos rfl]; exact hj true (fun h => by cases h)
  | false =>
    rw [if_neg (by simp)]
    by_cases c : (key.size : Int) > 1000
    · rw [if_pos c]; exact hj true (fun h => by cases h)
    · rw [if_neg c, boarderref12_Right_s t hm _ (by omega)]
      exact hj _ (fun h => by simpa using h)

end Go.Proofs.Ytlabpabnddfllaa.Pure
