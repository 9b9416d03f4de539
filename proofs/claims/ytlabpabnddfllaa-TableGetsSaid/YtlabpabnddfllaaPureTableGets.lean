/- The law TableGets holds of the printed functions; no condition beyond the law's own. -/
import Derived.Test.YtlabpabnddfllaaTableRTableGets
import Derived.Test.YtlabpabnddfllaaPTablex11
import Derived.Test.YtlabpabnddfllaaPTablex5
import Derived.Test.YtlabpabnddfllaaPTablex6
import Derived.Test.YtlabpabnddfllaaPTablex7
import Derived.Test.YtlabpabnddfllaaPTablex8
import Derived.Test.YtlabpabnddfllaaTableTab
import Derived.Test.YtlabpabnddfllaaTableS1
set_option linter.unusedVariables false
set_option linter.unusedSimpArgs false
namespace Go.Proofs.Ytlabpabnddfllaa.PTable
open Go.RowKit Go.Proofs.YtlabpabnddfllaaW.PrintWords Go.Proofs.YtlabpabnddfllaaW.PrintLast Go.Proofs.YtlabpabnddfllaaW.PrintMore

/-! ### boarderref12.Right -/
open Classical in
theorem boarderref12_Right_l (t : List Le) (ht : t.length ≤ maxLen) (d : Nat) : ∀ (i : Nat) (k : Nat), i + d = t.length → d < k →
    boarderref12_Right.l0 k t i = some (decide (∀ j, i ≤ j → j < t.length → leaseB (atL t j) = true ∧ (j + 1 < t.length → (atL t j).f0 < (atL t (j + 1)).f0))) := by
  simp only [maxLen] at ht
  induction d with
  | zero =>
    intro i k hi hk
    obtain ⟨k, rfl⟩ : ∃ m, k = m + 1 := ⟨k - 1, by omega⟩
    rw [boarderref12_Right.l0, if_neg (by omega), decide_eq_true (fun j a b => by omega)]
  | succ d ih =>
    intro i k hi hkk
    obtain ⟨k, rfl⟩ : ∃ m, k = m + 1 := ⟨k - 1, by omega⟩
    have hw : wrap64 ((i : Int) + 1) = ((i + 1 : Nat) : Int) := by unfold wrap64; omega
    have ihh := ih (i + 1) k (by omega) (by omega)
    rw [boarderref12_Right.l0, if_pos (by omega), if_pos (by omega), show rd_T43 t (i : Int) = atL t i from rfl, boarderref09_Right_s, hw]
    simp only [Option.bind_some]
    by_cases h : leaseB (atL t i) = true
    · rw [if_pos h]
      by_cases h0 : ((i + 1 : Nat) : Int) < (t.length : Int)
      · rw [if_pos h0, if_pos (by omega), show rd_T43 t ((i + 1 : Nat) : Int) = atL t (i + 1) from rfl]
        by_cases h1 : (atL t (i + 1)).f0 ≤ (atL t i).f0
        · rw [if_pos h1, decide_eq_false]
          intro h2
          have := (h2 i (by omega) (by omega)).2 (by omega)
          omega
        · rw [if_neg h1, ihh]
          congr 1
          refine decide_eq_decide.2 ⟨fun h2 j a b => ?_, fun h2 j a b => h2 j (by omega) b⟩
          rcases Nat.eq_or_lt_of_le a with c | c
          · subst c; exact ⟨h, fun _ => by omega⟩
          · exact h2 j (by omega) b
      · rw [if_neg h0, ihh]
        congr 1
        refine decide_eq_decide.2 ⟨fun h2 j a b => ?_, fun h2 j a b => h2 j (by omega) b⟩
        rcases Nat.eq_or_lt_of_le a with c | c
        · subst c; exact ⟨h, fun _ => by omega⟩
        · exact h2 j (by omega) b
    · rw [if_neg h, decide_eq_false]
      intro h2
      exact h (h2 i (by omega) (by omega)).1
theorem boarderref12_Right_s (t : List Le) (ht : t.length ≤ maxLen) (k : Nat) (hk : t.length < k) : boarderref12_Right.f k t = some (decide (Tab t)) := by
  unfold boarderref12_Right.f
  by_cases c : (t.length : Int) > 64
  · rw [if_pos c, decide_eq_false (fun h => by have := h.1; omega)]
  · have e := boarderref12_Right_l t ht t.length 0 k (by omega) hk
    rw [if_neg c, show boarderref12_Right.l0 k t 0 = boarderref12_Right.l0 k t ((0 : Nat) : Int) from rfl, e]
    congr 1
    refine decide_eq_decide.2 ?_
    rw [tab_iff2]
    exact ⟨fun h => ⟨by omega, fun j b => h j (by omega) b⟩, fun h j _ b => h.2 j b⟩

/-! ### boarderref10.SameLeases -/
theorem boarderref10_SameLeases_l (t : List Le) (ht : t.length ≤ maxLen) (d : Nat) : ∀ (i : Nat) (k : Nat), i + d = t.length → d < k → boarderref10_SameLeases.l0 k t t i = some true := by
  simp only [maxLen] at ht
  induction d with
  | zero =>
    intro i k hi hk
    obtain ⟨k, rfl⟩ : ∃ m, k = m + 1 := ⟨k - 1, by omega⟩
    rw [boarderref10_SameLeases.l0, if_neg (by omega)]
  | succ d ih =>
    intro i k hi hkk
    obtain ⟨k, rfl⟩ : ∃ m, k = m + 1 := ⟨k - 1, by omega⟩
    have hw : wrap64 ((i : Int) + 1) = ((i + 1 : Nat) : Int) := by unfold wrap64; omega
    rw [boarderref10_SameLeases.l0, if_pos (by omega), if_pos (by omega), if_pos (by omega), if_neg (by simp), hw]
    exact ih (i + 1) k (by omega) (by omega)
theorem boarderref10_SameLeases_s (t : List Le) (ht : t.length ≤ maxLen) (k : Nat) (hk : t.length < k) : boarderref10_SameLeases.f k t t = some true := by
  unfold boarderref10_SameLeases.f
  rw [if_pos rfl]
  exact boarderref10_SameLeases_l t ht t.length 0 k (by omega) hk

/-! ### boarderref12.Good -/
theorem boarderref12_Good_s (t : List Le) (ht : t.length ≤ maxLen) (k : Nat) (hk : t.length < k) : boarderref12_Good.f k t = some (goodL t) := by
  unfold boarderref12_Good.f goodL
  rw [boarderref12_Right_s t ht k hk]
  simp only [Option.bind_some]
  by_cases c : Tab t
  · rw [decide_eq_true c, if_pos c]; rfl
  · rw [decide_eq_false c, if_neg c]; rfl
theorem goodL_len (t : List Le) : (goodL t).length ≤ t.length := by unfold goodL; split <;> simp

/-! ### boarderref12.Get -/
theorem boarderref12_Get_l (t : List Le) (ht : t.length ≤ maxLen) (a : Int) (d : Nat) : ∀ (i : Nat) (k : Nat), i + d = t.length → d < k → boarderref12_Get.l0 k t a i = some (ans (getL (t.drop i) a)) := by
  simp only [maxLen] at ht
  induction d with
  | zero =>
    intro i k hi hk
    obtain ⟨k, rfl⟩ : ∃ m, k = m + 1 := ⟨k - 1, by omega⟩
    rw [boarderref12_Get.l0, if_neg (by omega), List.drop_eq_nil_of_le (by omega)]; rfl
  | succ d ih =>
    intro i k hi hkk
    obtain ⟨k, rfl⟩ : ∃ m, k = m + 1 := ⟨k - 1, by omega⟩
    have hw : wrap64 ((i : Int) + 1) = ((i + 1 : Nat) : Int) := by unfold wrap64; omega
    rw [boarderref12_Get.l0, if_pos (by omega), if_pos (by omega), show rd_T43 t (i : Int) = atL t i from rfl, hw, List.drop_eq_getElem_cons (i := i) (by omega), ← atL_get (by omega)]
    unfold getL
    rw [List.find?_cons]
    by_cases h : (atL t i).f0 = a
    · rw [if_pos h, decide_eq_true h]; rfl
    · rw [if_neg h, decide_eq_false h, ih (i + 1) k (by omega) (by omega)]; rfl
theorem boarderref12_Get_s (t : List Le) (ht : t.length ≤ maxLen) (a : Int) (k : Nat) (hk : t.length < k) : boarderref12_Get.f k t a = some (ans (getL (goodL t) a)) := by
  unfold boarderref12_Get.f
  rw [boarderref12_Good_s t ht k hk]
  simp only [Option.bind_some]
  have hgl := goodL_len t
  have e := boarderref12_Get_l (goodL t) (by omega) a (goodL t).length 0 k (by omega) (by omega)
  rw [show boarderref12_Get.l0 k (goodL t) a 0 = boarderref12_Get.l0 k (goodL t) a ((0 : Nat) : Int) from rfl, e, List.drop_zero]

/-! ### table.Of -/
def ofL (t : List Le) (k : ByteArray) : List Le := t.filter (fun l => decide (l.f3.toList = k.toList))
theorem table_Of_l (t : List Le) (ht : t.length ≤ 500) (key : ByteArray) (d : Nat) : ∀ (i : Nat) (out : List Le) (k : Nat), i + d = t.length → d < k → out.length + d ≤ 1000 → table_Of.l0 k key out t (t.length : Int) i = some (out ++ ofL (t.drop i) key) := by
  induction d with
  | zero =>
    intro i out k hi hk ho
    obtain ⟨k, rfl⟩ : ∃ m, k = m + 1 := ⟨k - 1, by omega⟩
    rw [table_Of.l0, if_neg (by omega), List.drop_eq_nil_of_le (by omega)]; simp [ofL]
  | succ d ih =>
    intro i out k hi hk ho
    obtain ⟨k, rfl⟩ : ∃ m, k = m + 1 := ⟨k - 1, by omega⟩
    have hw : wrap64 ((i : Int) + 1) = ((i + 1 : Nat) : Int) := by unfold wrap64; omega
    have hx : (⟨(atL t i).f0, (atL t i).f1, (atL t i).f2, (atL t i).f3⟩ : Le) = atL t i := rfl
    rw [table_Of.l0, if_pos (by omega), if_pos (by omega), if_pos (by omega), show rd_T43 t (i : Int) = atL t i from rfl, hw, hx, List.drop_eq_getElem_cons (i := i) (by omega), ← atL_get (by omega)]
    unfold ofL
    rw [List.filter_cons]
    by_cases h : (atL t i).f3.toList = key.toList
    · rw [if_pos h, if_pos (by omega), if_pos (by simpa using h), ih (i + 1) _ k (by omega) (by omega) (by simp; omega)]
      simp [ofL]
    · rw [if_neg h, if_neg (by simpa using h), ih (i + 1) _ k (by omega) (by omega) (by omega)]
      rfl
theorem table_Of_s (t : List Le) (h : Small t) (key : ByteArray) (k : Nat) (hk : t.length < k) : table_Of.f k t key = some (ofL (goodL t) key) := by
  have hgl : (goodL t).length ≤ t.length := by unfold goodL; split <;> simp
  have := h.1
  unfold table_Of.f
  rw [table_good_s t h k hk]
  simp only [Option.bind_some]
  have e := table_Of_l (goodL t) (by omega) key (goodL t).length 0 [] k (by omega) (by omega) (by simp; omega)
  rw [List.drop_zero, List.nil_append] at e
  exact e

/-! ### boarderref12.Of -/
theorem boarderref12_Of_l (t : List Le) (ht : t.length ≤ 500) (key : ByteArray) (d : Nat) : ∀ (i : Nat) (out : List Le) (k : Nat), i + d = t.length → d < k → out.length + d ≤ 1000 → boarderref12_Of.l0 k t key out i = some (out ++ (t.drop i).filter (fun l => decide (l.f3.toList = key.toList))) := by
  induction d with
  | zero =>
    intro i out k hi hk ho
    obtain ⟨k, rfl⟩ : ∃ m, k = m + 1 := ⟨k - 1, by omega⟩
    rw [boarderref12_Of.l0, if_neg (by omega), List.drop_eq_nil_of_le (by omega)]; simp
  | succ d ih =>
    intro i out k hi hk ho
    obtain ⟨k, rfl⟩ : ∃ m, k = m + 1 := ⟨k - 1, by omega⟩
    have hw : wrap64 ((i : Int) + 1) = ((i + 1 : Nat) : Int) := by unfold wrap64; omega
    have hx : (⟨(atL t i).f0, (atL t i).f1, (atL t i).f2, (atL t i).f3⟩ : Le) = atL t i := rfl
    rw [boarderref12_Of.l0, if_pos (by omega), if_pos (by omega), show rd_T43 t (i : Int) = atL t i from rfl, hw, hx, List.drop_eq_getElem_cons (i := i) (by omega), ← atL_get (by omega)]
    rw [List.filter_cons]
    by_cases h : (atL t i).f3.toList = key.toList
    · rw [if_pos h, if_pos (by omega), if_pos (by simpa using h), ih (i + 1) _ k (by omega) (by omega) (by simp; omega)]
      simp
    · rw [if_neg h, if_neg (by simpa using h), ih (i + 1) _ k (by omega) (by omega) (by omega)]
theorem boarderref12_Of_s (t : List Le) (ht : t.length ≤ 500) (key : ByteArray) (k : Nat) (hk : t.length < k) : boarderref12_Of.f k t key = some ((goodL t).filter (fun l => decide (l.f3.toList = key.toList))) := by
  unfold boarderref12_Of.f
  rw [boarderref12_Good_s t (by simp only [maxLen]; omega) k hk]
  simp only [Option.bind_some]
  have hgl := goodL_len t
  have e := boarderref12_Of_l (goodL t) (by omega) key (goodL t).length 0 [] k (by omega) (by omega) (by simp; omega)
  rw [List.drop_zero, List.nil_append] at e
  exact e

end Go.Proofs.Ytlabpabnddfllaa.PTable

namespace Go.Proofs.Ytlabpabnddfllaa.Pure
open Go.RowKit Go.Proofs.YtlabpabnddfllaaW.PrintWords Go.Proofs.YtlabpabnddfllaaW.PrintLast Go.Proofs.YtlabpabnddfllaaW.PrintMore Go.Proofs.Ytlabpabnddfllaa.PTable

theorem TableGets : boarderlaw12_TableGets.Pure := by
  intro t a key ht ha hkey
  have hm : t.length ≤ maxLen := ht.1
  refine ⟨2 * t.length + 2000, ?_⟩
  have hj : ∀ b, (b = false → greatB t = false) → boarderlaw12_TableGets.j0 (2 * t.length + 2000) t a key b = some true := by
    intro b hb
    rw [show 2 * t.length + 2000 = (2 * t.length + 1999) + 1 from rfl, boarderlaw12_TableGets.j0]
    have hk := boarderlaw12_knows_s (2 * t.length + 1999) (by omega)
    cases b with
    | true => rw [if_pos rfl, hk]; rfl
    | false =>
      have hs := small_of (hb rfl)
      have hT : Tab (ofL (goodL t) key) := tab_filter (goodL_tab t) _
      have hlen := hT.1
      have e3 := boarderref10_SameLeases_s (ofL (goodL t) key) (by simp only [maxLen]; omega) (2 * t.length + 1999) (by omega)
      rw [if_neg (by simp), table_Get_s t hs a _ (by omega)]
      simp only [Option.bind_some]
      rw [boarderref12_Get_s t hm a _ (by omega)]
      simp only [Option.bind_some]
      rw [table_Right_s t hs _ (by omega), boarderref12_Right_s t hm _ (by omega)]
      simp only [Option.bind_some]
      rw [table_Of_s t hs key _ (by omega), boarderref12_Of_s t hs.1 key _ (by omega)]
      simp only [Option.bind_some]
      rw [show boarderref10_SameLeases.f (2 * t.length + 1999) (ofL (goodL t) key) ((goodL t).filter (fun l => decide (l.f3.toList = key.toList))) = some true from e3, hk]
      simp
  unfold boarderlaw12_TableGets.f
  rw [boarderlaw12_Great_s t hm _ (by omega)]
  simp only [Option.bind_some]
  cases hg : greatB t with
  | true => rw [if_pos rfl]; exact hj true (fun h => by cases h)
  | false => rw [if_neg (by simp)]; exact hj _ (fun _ => hg)

end Go.Proofs.Ytlabpabnddfllaa.Pure
