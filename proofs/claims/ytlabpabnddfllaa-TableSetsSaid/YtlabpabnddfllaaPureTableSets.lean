/- The law TableSets holds of the printed functions; no condition beyond the law's own. -/
import Derived.Test.YtlabpabnddfllaaTableRTableSets
import Derived.Test.YtlabpabnddfllaaPTablex14
import Derived.Test.YtlabpabnddfllaaPTablex5
import Derived.Test.YtlabpabnddfllaaPTablex6
import Derived.Test.YtlabpabnddfllaaPTablex7
import Derived.Test.YtlabpabnddfllaaTableTab
import Derived.Test.YtlabpabnddfllaaTableS1
set_option linter.unusedVariables false
set_option linter.unusedSimpArgs false
namespace Go.Proofs.Ytlabpabnddfllaa.PTable
open Go.RowKit Go.Proofs.YtlabpabnddfllaaW.PrintWords Go.Proofs.YtlabpabnddfllaaW.PrintLast Go.Proofs.YtlabpabnddfllaaW.PrintMore

/-! ### boarderref12.Right -/
open Classical in
theorem boarderref12_Right_l (t : List Le) (ht : t.length ≤ maxLen) (d : Nat) : ∀ (i : Nat) (k : Nat), i + d = t.length → d < k →
    boarderref12_Right.l0 k t i = some (decide (∀ j, i ≤ j → j < t.length → leaseB (atL t j) = true ∧ (j + 1 < t.length → (atL t j).f0 < (atL t (j + 1)).f0))) := by
  simp only [maxLen] at ht
  induction d with
  | zero =>
    intro i k hi hk
    obtain ⟨k, rfl⟩ : ∃ m, k = m + 1 := ⟨k - 1, by omega⟩
    rw [boarderref12_Right.l0, if_neg (by omega), decide_eq_true (fun j a b => by omega)]
  | succ d ih =>
    intro i k hi hkk
    obtain ⟨k, rfl⟩ : ∃ m, k = m + 1 := ⟨k - 1, by omega⟩
    have hw : wrap64 ((i : Int) + 1) = ((i + 1 : Nat) : Int) := by unfold wrap64; omega
    have ihh := ih (i + 1) k (by omega) (by omega)
    rw [boarderref12_Right.l0, if_pos (by omega), if_pos (by omega), show rd_T43 t (i : Int) = atL t i from rfl, boarderref09_Right_s, hw]
    simp only [Option.bind_some]
    by_cases h : leaseB (atL t i) = true
    · rw [if_pos h]
      by_cases h0 : ((i + 1 : Nat) : Int) < (t.length : Int)
      · rw [if_pos h0, if_pos (by omega), show rd_T43 t ((i + 1 : Nat) : Int) = atL t (i + 1) from rfl]
        by_cases h1 : (atL t (i + 1)).f0 ≤ (atL t i).f0
        · rw [if_pos h1, decide_eq_false]
          intro h2
          have := (h2 i (by omega) (by omega)).2 (by omega)
          omega
        · rw [if_neg h1, ihh]
          congr 1
          refine decide_eq_decide.2 ⟨fun h2 j a b => ?_, fun h2 j a b => h2 j (by omega) b⟩
          rcases Nat.eq_or_lt_of_le a with c | c
          · subst c; exact ⟨h, fun _ => by omega⟩
          · exact h2 j (by omega) b
      · rw [if_neg h0, ihh]
        congr 1
        refine decide_eq_decide.2 ⟨fun h2 j a b => ?_, fun h2 j a b => h2 j (by omega) b⟩
        rcases Nat.eq_or_lt_of_le a with c | c
        · subst c; exact ⟨h, fun _ => by omega⟩
        · exact h2 j (by omega) b
    · rw [if_neg h, decide_eq_false]
      intro h2
      exact h (h2 i (by omega) (by omega)).1
theorem boarderref12_Right_s (t : List Le) (ht : t.length ≤ maxLen) (k : Nat) (hk : t.length < k) : boarderref12_Right.f k t = some (decide (Tab t)) := by
  unfold boarderref12_Right.f
  by_cases c : (t.length : Int) > 64
  · rw [if_pos c, decide_eq_false (fun h => by have := h.1; omega)]
  · have e := boarderref12_Right_l t ht t.length 0 k (by omega) hk
    rw [if_neg c, show boarderref12_Right.l0 k t 0 = boarderref12_Right.l0 k t ((0 : Nat) : Int) from rfl, e]
    congr 1
    refine decide_eq_decide.2 ?_
    rw [tab_iff2]
    exact ⟨fun h => ⟨by omega, fun j b => h j (by omega) b⟩, fun h j _ b => h.2 j b⟩

/-! ### boarderref10.SameLeases -/
theorem boarderref10_SameLeases_l (t : List Le) (ht : t.length ≤ maxLen) (d : Nat) : ∀ (i : Nat) (k : Nat), i + d = t.length → d < k → boarderref10_SameLeases.l0 k t t i = some true := by
  simp only [maxLen] at ht
  induction d with
  | zero =>
    intro i k hi hk
    obtain ⟨k, rfl⟩ : ∃ m, k = m + 1 := ⟨k - 1, by omega⟩
    rw [boarderref10_SameLeases.l0, if_neg (by omega)]
  | succ d ih =>
    intro i k hi hkk
    obtain ⟨k, rfl⟩ : ∃ m, k = m + 1 := ⟨k - 1, by omega⟩
    have hw : wrap64 ((i : Int) + 1) = ((i + 1 : Nat) : Int) := by unfold wrap64; omega
    rw [boarderref10_SameLeases.l0, if_pos (by omega), if_pos (by omega), if_pos (by omega), if_neg (by simp), hw]
    exact ih (i + 1) k (by omega) (by omega)
theorem boarderref10_SameLeases_s (t : List Le) (ht : t.length ≤ maxLen) (k : Nat) (hk : t.length < k) : boarderref10_SameLeases.f k t t = some true := by
  unfold boarderref10_SameLeases.f
  rw [if_pos rfl]
  exact boarderref10_SameLeases_l t ht t.length 0 k (by omega) hk

/-! ### boarderref12.Good -/
theorem boarderref12_Good_s (t : List Le) (ht : t.length ≤ maxLen) (k : Nat) (hk : t.length < k) : boarderref12_Good.f k t = some (goodL t) := by
  unfold boarderref12_Good.f goodL
  rw [boarderref12_Right_s t ht k hk]
  simp only [Option.bind_some]
  by_cases c : Tab t
  · rw [decide_eq_true c, if_pos c]; rfl
  · rw [decide_eq_false c, if_neg c]; rfl
theorem goodL_len (t : List Le) : (goodL t).length ≤ t.length := by unfold goodL; split <;> simp

/-! ### boarderref12.Set -/
theorem ref12_len2 (out : List Le) (l y : Le) (b : Bool) : (out ++ (if b = true then [l] else []) ++ (if y.f0 = l.f0 then [] else [y])).length ≤ out.length + 2 := by
  cases b <;> by_cases c : y.f0 = l.f0 <;> simp [c]
theorem boarderref12_Set_l (t : List Le) (ht : t.length ≤ 500) (l : Le) (d : Nat) : ∀ (i : Nat) (out : List Le) (put : Bool) (k : Nat), i + d = t.length → 2 * d < k → out.length + 2 * d ≤ 2000 →
    boarderref12_Set.l0 k t out put i l.f0 l.f1 l.f2 l.f3 = some (if (out ++ refSet l put (t.drop i)).length ≤ 64 then (out ++ refSet l put (t.drop i), 0) else ([], 3)) := by
  have hle : (⟨l.f0, l.f1, l.f2, l.f3⟩ : Le) = l := rfl
  induction d with
  | zero =>
    intro i out put k hi hk ho
    obtain ⟨k, rfl⟩ : ∃ m, k = m + 1 := ⟨k - 1, by omega⟩
    rw [boarderref12_Set.l0, if_neg (by omega), List.drop_eq_nil_of_le (by omega)]
    cases put with
    | true =>
      rw [if_pos rfl, show refSet l true [] = [] from rfl, List.append_nil]
      by_cases c : (out.length : Int) > 64
      · rw [if_pos c, if_neg (by omega)]
      · rw [if_neg c, if_pos (by omega)]
    | false =>
      rw [if_neg (by simp), if_pos (by omega), hle, show refSet l false [] = [l] from rfl]
      simp only [Option.bind_some]
      by_cases c : ((out ++ [l]).length : Int) > 64
      · rw [if_pos c, if_neg (by omega)]
      · rw [if_neg c, if_pos (by omega)]
  | succ d ih =>
    intro i out put k hi hk ho
    obtain ⟨k, rfl⟩ : ∃ m, k = m + 1 + 1 := ⟨k - 2, by omega⟩
    have hw : wrap64 ((i : Int) + 1) = ((i + 1 : Nat) : Int) := by unfold wrap64; omega
    have hx : (⟨(atL t i).f0, (atL t i).f1, (atL t i).f2, (atL t i).f3⟩ : Le) = atL t i := rfl
    have hrd : rd_T43 t (i : Int) = atL t i := rfl
    have hj : ∀ b, boarderref12_Set.j1 (k + 1) t out put i b l.f0 l.f1 l.f2 l.f3 = boarderref12_Set.l0 k t (out ++ (if b = true then [l] else []) ++ (if (atL t i).f0 = l.f0 then [] else [atL t i])) (put || b) ((i + 1 : Nat) : Int) l.f0 l.f1 l.f2 l.f3 := by
      intro b
      rw [boarderref12_Set.j1, hle, hrd, hx, hw]
      cases b with
      | true =>
        rw [if_pos rfl, if_pos (by omega)]
        simp only [Option.bind_some]
        rw [if_pos (by omega), if_pos (by omega), Bool.or_true]
        by_cases c : (atL t i).f0 = l.f0
        · rw [if_pos c, if_pos c]; simp
        · rw [if_neg c, if_neg c, if_pos (by simp; omega)]; simp
      | false =>
        rw [if_neg (by simp), if_pos (by omega), if_pos (by omega), Bool.or_false]
        by_cases c : (atL t i).f0 = l.f0
        · rw [if_pos c, if_pos c]; simp
        · rw [if_neg c, if_neg c, if_pos (by omega)]; simp
    have hlen : ∀ b : Bool, (out ++ (if b = true then [l] else []) ++ (if (atL t i).f0 = l.f0 then [] else [atL t i])).length ≤ out.length + 2 := by
      intro b
      exact ref12_len2 out l (atL t i) b
    rw [boarderref12_Set.l0, if_pos (by omega), List.drop_eq_getElem_cons (i := i) (by omega), ← atL_get (by omega), refSet]
    cases put with
    | true =>
      rw [if_pos rfl, hj, ih (i + 1) _ _ k (by omega) (by omega) (by have := hlen false; omega)]
      simp
    | false =>
      rw [if_neg (by simp), if_pos (by omega), hrd, hj, ih (i + 1) _ _ k (by omega) (by omega) (by have := hlen (decide ((atL t i).f0 ≥ l.f0)); omega)]
      by_cases c : l.f0 ≤ (atL t i).f0
      · rw [decide_eq_true (show (atL t i).f0 ≥ l.f0 from c)]
        generalize atL t i = y at c ⊢
        simp [c]
      · rw [decide_eq_false (show ¬ (atL t i).f0 ≥ l.f0 from c)]
        generalize atL t i = y at c ⊢
        simp [c]
theorem boarderref12_Set_s (t : List Le) (ht : t.length ≤ 500) (l : Le) (k : Nat) (hk : 2 * t.length + 1 < k) : boarderref12_Set.f k t l.f0 l.f1 l.f2 l.f3 = some (setAns t l) := by
  unfold boarderref12_Set.f setAns
  rw [boarderref12_Good_s t (by simp only [maxLen]; omega) k (by omega), boarderref09_Right_s]
  simp only [Option.bind_some]
  have hgl := goodL_len t
  by_cases h : leaseB l = true
  · have e := boarderref12_Set_l (goodL t) (by omega) l (goodL t).length 0 [] false k (by omega) (by omega) (by simp; omega)
    rw [if_pos h, if_pos h, show boarderref12_Set.l0 k (goodL t) [] false 0 l.f0 l.f1 l.f2 l.f3 = boarderref12_Set.l0 k (goodL t) [] false ((0 : Nat) : Int) l.f0 l.f1 l.f2 l.f3 from rfl, e, List.drop_zero, List.nil_append, refSet_eq l (goodL t) (goodL_tab t).2.2]
  · rw [if_neg h, if_neg h]

end Go.Proofs.Ytlabpabnddfllaa.PTable

namespace Go.Proofs.Ytlabpabnddfllaa.Pure
open Go.RowKit Go.Proofs.YtlabpabnddfllaaW.PrintWords Go.Proofs.YtlabpabnddfllaaW.PrintLast Go.Proofs.YtlabpabnddfllaaW.PrintMore Go.Proofs.Ytlabpabnddfllaa.PTable

theorem TableSets : boarderlaw12_TableSets.Pure := by
  intro t a1 a2 a3 a4 ht hl
  have hm : t.length ≤ maxLen := ht.1
  have hl3 : (⟨a1, a2, a3, a4⟩ : Le).f3.size ≤ maxLen := hl.2.2.2
  refine ⟨2 * t.length + 2000, ?_⟩
  have hj : ∀ b, (b = false → greatB t = false) → boarderlaw12_TableSets.j0 (2 * t.length + 2000) t b a1 a2 a3 a4 = some true := by
    intro b hb
    rw [show 2 * t.length + 2000 = (2 * t.length + 1999) + 1 from rfl, boarderlaw12_TableSets.j0]
    have hk := boarderlaw12_knows_s (2 * t.length + 1999) (by omega)
    cases b with
    | true => rw [if_pos rfl, hk]; rfl
    | false =>
      have hs := small_of (hb rfl)
      have e1 := table_Set_s t hs ⟨a1, a2, a3, a4⟩ hl3 (2 * t.length + 1999) (by omega)
      have e2 := boarderref12_Set_s t hs.1 ⟨a1, a2, a3, a4⟩ (2 * t.length + 1999) (by omega)
      have hT := setAns_tab t ⟨a1, a2, a3, a4⟩
      have hS := tab_small hT
      have hlen : (setAns t ⟨a1, a2, a3, a4⟩).1.length ≤ 64 := hT.1
      have e3 := boarderref10_SameLeases_s (setAns t ⟨a1, a2, a3, a4⟩).1 (by simp only [maxLen]; omega) (2 * t.length + 1999) (by omega)
      have e4 := table_Right_s (setAns t ⟨a1, a2, a3, a4⟩).1 hS (2 * t.length + 1999) (by omega)
      rw [if_neg (by simp), e1]
      simp only [Option.bind_some]
      rw [e2]
      simp only [Option.bind_some]
      rw [e3, e4, hk, decide_eq_true hT]
      simp
  unfold boarderlaw12_TableSets.f
  rw [boarderlaw12_Great_s t hm _ (by omega)]
  simp only [Option.bind_some]
  cases hg : greatB t with
  | true => rw [if_pos rfl]; exact hj true (fun h => by cases h)
  | false => rw [if_neg (by simp)]; exact hj _ (fun _ => hg)

end Go.Proofs.Ytlabpabnddfllaa.Pure
