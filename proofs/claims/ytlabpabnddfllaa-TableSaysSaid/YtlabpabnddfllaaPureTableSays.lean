/- The law TableSays holds of the printed functions; no condition beyond the law's own. -/
import Derived.Test.YtlabpabnddfllaaTableRTableSays
import Derived.Test.YtlabpabnddfllaaPTablex13
import Derived.Test.YtlabpabnddfllaaPTablex5
import Derived.Test.YtlabpabnddfllaaPTablex6
import Derived.Test.YtlabpabnddfllaaPTablex7
import Derived.Test.YtlabpabnddfllaaPTablex8
import Derived.Test.YtlabpabnddfllaaPTablex9
import Derived.Test.YtlabpabnddfllaaTableTab
import Derived.Test.YtlabpabnddfllaaTableS1
set_option linter.unusedVariables false
set_option linter.unusedSimpArgs false
namespace Go.Proofs.Ytlabpabnddfllaa.PTable
open Go.RowKit Go.Proofs.YtlabpabnddfllaaW.PrintWords Go.Proofs.YtlabpabnddfllaaW.PrintLast Go.Proofs.YtlabpabnddfllaaW.PrintMore

/-! ### boarderref12.Right -/
open Classical in
theorem boarderref12_Right_l (t : List Le) (ht : t.length ≤ maxLen) (d : Nat) : ∀ (i : Nat) (k : Nat), i + d = t.length → d < k →
    boarderref12_Right.l0 k t i = some (decide (∀ j, i ≤ j → j < t.length → leaseB (atL t j) = true ∧ (j + 1 < t.length → (atL t j).f0 < (atL t (j + 1)).f0))) := by
  simp only [maxLen] at ht
  induction d with
  | zero =>
    intro i k hi hk
    obtain ⟨k, rfl⟩ : ∃ m, k = m + 1 := ⟨k - 1, by omega⟩
    rw [boarderref12_Right.l0, if_neg (by omega), decide_eq_true (fun j a b => by omega)]
  | succ d ih =>
    intro i k hi hkk
    obtain ⟨k, rfl⟩ : ∃ m, k = m + 1 := ⟨k - 1, by omega⟩
    have hw : wrap64 ((i : Int) + 1) = ((i + 1 : Nat) : Int) := by unfold wrap64; omega
    have ihh := ih (i + 1) k (by omega) (by omega)
    rw [boarderref12_Right.l0, if_pos (by omega), if_pos (by omega), show rd_T43 t (i : Int) = atL t i from rfl, boarderref09_Right_s, hw]
    simp only [Option.bind_some]
    by_cases h : leaseB (atL t i) = true
    · rw [if_pos h]
      by_cases h0 : ((i + 1 : Nat) : Int) < (t.length : Int)
      · rw [if_pos h0, if_pos (by omega), show rd_T43 t ((i + 1 : Nat) : Int) = atL t (i + 1) from rfl]
        by_cases h1 : (atL t (i + 1)).f0 ≤ (atL t i).f0
        · rw [if_pos h1, decide_eq_false]
          intro h2
          have := (h2 i (by omega) (by omega)).2 (by omega)
          omega
        · rw [if_neg h1, ihh]
          congr 1
          refine decide_eq_decide.2 ⟨fun h2 j a b => ?_, fun h2 j a b => h2 j (by omega) b⟩
          rcases Nat.eq_or_lt_of_le a with c | c
          · subst c; exact ⟨h, fun _ => by omega⟩
          · exact h2 j (by omega) b
      · rw [if_neg h0, ihh]
        congr 1
        refine decide_eq_decide.2 ⟨fun h2 j a b => ?_, fun h2 j a b => h2 j (by omega) b⟩
        rcases Nat.eq_or_lt_of_le a with c | c
        · subst c; exact ⟨h, fun _ => by omega⟩
        · exact h2 j (by omega) b
    · rw [if_neg h, decide_eq_false]
      intro h2
      exact h (h2 i (by omega) (by omega)).1
theorem boarderref12_Right_s (t : List Le) (ht : t.length ≤ maxLen) (k : Nat) (hk : t.length < k) : boarderref12_Right.f k t = some (decide (Tab t)) := by
  unfold boarderref12_Right.f
  by_cases c : (t.length : Int) > 64
  · rw [if_pos c, decide_eq_false (fun h => by have := h.1; omega)]
  · have e := boarderref12_Right_l t ht t.length 0 k (by omega) hk
    rw [if_neg c, show boarderref12_Right.l0 k t 0 = boarderref12_Right.l0 k t ((0 : Nat) : Int) from rfl, e]
    congr 1
    refine decide_eq_decide.2 ?_
    rw [tab_iff2]
    exact ⟨fun h => ⟨by omega, fun j b => h j (by omega) b⟩, fun h j _ b => h.2 j b⟩

/-! ### boarderref10.SameLeases -/
theorem boarderref10_SameLeases_l (t : List Le) (ht : t.length ≤ maxLen) (d : Nat) : ∀ (i : Nat) (k : Nat), i + d = t.length → d < k → boarderref10_SameLeases.l0 k t t i = some true := by
  simp only [maxLen] at ht
  induction d with
  | zero =>
    intro i k hi hk
    obtain ⟨k, rfl⟩ : ∃ m, k = m + 1 := ⟨k - 1, by omega⟩
    rw [boarderref10_SameLeases.l0, if_neg (by omega)]
  | succ d ih =>
    intro i k hi hkk
    obtain ⟨k, rfl⟩ : ∃ m, k = m + 1 := ⟨k - 1, by omega⟩
    have hw : wrap64 ((i : Int) + 1) = ((i + 1 : Nat) : Int) := by unfold wrap64; omega
    rw [boarderref10_SameLeases.l0, if_pos (by omega), if_pos (by omega), if_pos (by omega), if_neg (by simp), hw]
    exact ih (i + 1) k (by omega) (by omega)
theorem boarderref10_SameLeases_s (t : List Le) (ht : t.length ≤ maxLen) (k : Nat) (hk : t.length < k) : boarderref10_SameLeases.f k t t = some true := by
  unfold boarderref10_SameLeases.f
  rw [if_pos rfl]
  exact boarderref10_SameLeases_l t ht t.length 0 k (by omega) hk

/-! ### boarderref12.Good -/
theorem boarderref12_Good_s (t : List Le) (ht : t.length ≤ maxLen) (k : Nat) (hk : t.length < k) : boarderref12_Good.f k t = some (goodL t) := by
  unfold boarderref12_Good.f goodL
  rw [boarderref12_Right_s t ht k hk]
  simp only [Option.bind_some]
  by_cases c : Tab t
  · rw [decide_eq_true c, if_pos c]; rfl
  · rw [decide_eq_false c, if_neg c]; rfl
theorem goodL_len (t : List Le) : (goodL t).length ≤ t.length := by unfold goodL; split <;> simp

/-! ### boarderref12.Get -/
theorem boarderref12_Get_l (t : List Le) (ht : t.length ≤ maxLen) (a : Int) (d : Nat) : ∀ (i : Nat) (k : Nat), i + d = t.length → d < k → boarderref12_Get.l0 k t a i = some (ans (getL (t.drop i) a)) := by
  simp only [maxLen] at ht
  induction d with
  | zero =>
    intro i k hi hk
    obtain ⟨k, rfl⟩ : ∃ m, k = m + 1 := ⟨k - 1, by omega⟩
    rw [boarderref12_Get.l0, if_neg (by omega), List.drop_eq_nil_of_le (by omega)]; rfl
  | succ d ih =>
    intro i k hi hkk
    obtain ⟨k, rfl⟩ : ∃ m, k = m + 1 := ⟨k - 1, by omega⟩
    have hw : wrap64 ((i : Int) + 1) = ((i + 1 : Nat) : Int) := by unfold wrap64; omega
    rw [boarderref12_Get.l0, if_pos (by omega), if_pos (by omega), show rd_T43 t (i : Int) = atL t i from rfl, hw, List.drop_eq_getElem_cons (i := i) (by omega), ← atL_get (by omega)]
    unfold getL
    rw [List.find?_cons]
    by_cases h : (atL t i).f0 = a
    · rw [if_pos h, decide_eq_true h]; rfl
    · rw [if_neg h, decide_eq_false h, ih (i + 1) k (by omega) (by omega)]; rfl
theorem boarderref12_Get_s (t : List Le) (ht : t.length ≤ maxLen) (a : Int) (k : Nat) (hk : t.length < k) : boarderref12_Get.f k t a = some (ans (getL (goodL t) a)) := by
  unfold boarderref12_Get.f
  rw [boarderref12_Good_s t ht k hk]
  simp only [Option.bind_some]
  have hgl := goodL_len t
  have e := boarderref12_Get_l (goodL t) (by omega) a (goodL t).length 0 k (by omega) (by omega)
  rw [show boarderref12_Get.l0 k (goodL t) a 0 = boarderref12_Get.l0 k (goodL t) a ((0 : Nat) : Int) from rfl, e, List.drop_zero]

/-! ### table.Sweep -/
theorem table_Sweep_l (t : List Le) (ht : t.length ≤ 500) (now : Int) (d : Nat) : ∀ (i : Nat) (out : List Le) (k : Nat), i + d = t.length → d < k → out.length + d ≤ 1000 → table_Sweep.l0 k now out t (t.length : Int) i = some (out ++ sweepL (t.drop i) now) := by
  induction d with
  | zero =>
    intro i out k hi hk ho
    obtain ⟨k, rfl⟩ : ∃ m, k = m + 1 := ⟨k - 1, by omega⟩
    rw [table_Sweep.l0, if_neg (by omega), List.drop_eq_nil_of_le (by omega)]; simp [sweepL]
  | succ d ih =>
    intro i out k hi hk ho
    obtain ⟨k, rfl⟩ : ∃ m, k = m + 1 := ⟨k - 1, by omega⟩
    have hw : wrap64 ((i : Int) + 1) = ((i + 1 : Nat) : Int) := by unfold wrap64; omega
    have hx : (⟨(atL t i).f0, (atL t i).f1, (atL t i).f2, (atL t i).f3⟩ : Le) = atL t i := rfl
    rw [table_Sweep.l0, if_pos (by omega), if_pos (by omega), if_pos (by omega), show rd_T43 t (i : Int) = atL t i from rfl, table_Holds_s, table_Rests_s, hw, hx, List.drop_eq_getElem_cons (i := i) (by omega), ← atL_get (by omega)]
    simp only [Option.bind_some]
    unfold sweepL
    rw [List.filter_cons]
    cases h1 : holdsB (atL t i) now with
    | true =>
      rw [if_pos rfl, if_pos (by omega), ih (i + 1) _ k (by omega) (by omega) (by simp; omega)]
      simp [sweepL]
    | false =>
      rw [if_neg (by simp)]
      cases h2 : restsB (atL t i) now with
      | true =>
        rw [if_pos rfl, if_pos (by omega), ih (i + 1) _ k (by omega) (by omega) (by simp; omega)]
        simp [sweepL]
      | false =>
        rw [if_neg (by simp), ih (i + 1) _ k (by omega) (by omega) (by omega)]
        simp [sweepL]
theorem table_Sweep_s (t : List Le) (h : Small t) (now : Int) (k : Nat) (hk : t.length < k) : table_Sweep.f k t now = some (sweepL (goodL t) now) := by
  have hgl : (goodL t).length ≤ t.length := by unfold goodL; split <;> simp
  have := h.1
  unfold table_Sweep.f
  rw [table_good_s t h k hk]
  simp only [Option.bind_some]
  have e := table_Sweep_l (goodL t) (by omega) now (goodL t).length 0 [] k (by omega) (by omega) (by simp; omega)
  rw [List.drop_zero, List.nil_append] at e
  exact e

/-! ### boarderref12.Holds -/
theorem boarderref12_Holds_s (l : Le) (now : Int) : boarderref12_Holds.f l.f0 l.f1 l.f2 l.f3 now = some (holdsB l now) := by
  unfold boarderref12_Holds.f holdsB
  by_cases c : l.f1 = 1
  · rw [if_pos c]; congr 1; exact decide_eq_decide.2 ⟨fun h => ⟨c, by omega⟩, fun h => by omega⟩
  · rw [if_neg c, decide_eq_false (fun h => c h.1)]

/-! ### boarderref12.Rests -/
theorem boarderref12_Rests_s (l : Le) (now : Int) : boarderref12_Rests.f l.f0 l.f1 l.f2 l.f3 now = some (restsB l now) := by
  unfold boarderref12_Rests.f restsB
  by_cases c : l.f1 = 3
  · rw [if_pos c]; congr 1; exact decide_eq_decide.2 ⟨fun h => ⟨c, by omega⟩, fun h => by omega⟩
  · rw [if_neg c, decide_eq_false (fun h => c h.1)]

/-! ### boarderref12.Free -/
theorem boarderref12_Free_s (t : List Le) (ht : t.length ≤ maxLen) (a : Int) (key : ByteArray) (now : Int) (k : Nat) (hk : t.length < k) : boarderref12_Free.f k t a key now = some (freeB (goodL t) a key now) := by
  unfold boarderref12_Free.f freeB
  rw [boarderref12_Get_s t ht a k hk]
  simp only [Option.bind_some]
  cases hq : getL (goodL t) a with
  | none => rfl
  | some l =>
    have hb := leaseB_of ((goodL_tab t).2.1 l (getL_mem hq).1)
    show (if true = true then (if l.f1 = 2 then some true else (if now ≥ l.f2 then some true else (if l.f1 = 1 then some (l.f3.toList == key.toList) else some false))) else some true) = some (!restsB l now && (!holdsB l now || decide (l.f3.toList = key.toList)))
    rw [if_pos rfl]
    unfold restsB holdsB
    by_cases c2 : l.f1 = 2
    · rw [if_pos c2, decide_eq_false (by omega), decide_eq_false (by omega)]; rfl
    · rw [if_neg c2]
      by_cases c3 : now ≥ l.f2
      · rw [if_pos c3, decide_eq_false (by omega), decide_eq_false (by omega)]; rfl
      · rw [if_neg c3]
        by_cases c1 : l.f1 = 1
        · rw [if_pos c1, decide_eq_false (by omega), decide_eq_true (by omega)]
          simp only [Bool.not_false, Bool.true_and, Bool.not_true, Bool.false_or]
          congr 1
          rw [Bool.eq_iff_iff]; simp
        · rw [if_neg c1, decide_eq_true (by omega)]; rfl

/-! ### boarderref12.Sweep -/
theorem ref12_counts (l : Le) (now : Int) (h1 : 1 ≤ l.f1) (h3 : l.f1 ≤ 3) : (holdsB l now || restsB l now) = true ↔ l.f1 ≠ 2 ∧ l.f2 > now := by
  unfold holdsB restsB
  rw [Bool.or_eq_true, decide_eq_true_iff, decide_eq_true_iff]
  omega
theorem boarderref12_Sweep_l (t : List Le) (ht : t.length ≤ 500) (hl : ∀ l ∈ t, leaseB l = true) (now : Int) (d : Nat) : ∀ (i : Nat) (out : List Le) (k : Nat), i + d = t.length → d < k → out.length + d ≤ 1000 → boarderref12_Sweep.l0 k t now out i = some (out ++ sweepL (t.drop i) now) := by
  induction d with
  | zero =>
    intro i out k hi hk ho
    obtain ⟨k, rfl⟩ : ∃ m, k = m + 1 := ⟨k - 1, by omega⟩
    rw [boarderref12_Sweep.l0, if_neg (by omega), List.drop_eq_nil_of_le (by omega)]; simp [sweepL]
  | succ d ih =>
    intro i out k hi hk ho
    obtain ⟨k, rfl⟩ : ∃ m, k = m + 1 := ⟨k - 1, by omega⟩
    have hw : wrap64 ((i : Int) + 1) = ((i + 1 : Nat) : Int) := by unfold wrap64; omega
    have hx : (⟨(atL t i).f0, (atL t i).f1, (atL t i).f2, (atL t i).f3⟩ : Le) = atL t i := rfl
    have hb := leaseB_of (hl _ (atL_mem (t := t) (j := i) (by omega)))
    rw [boarderref12_Sweep.l0, if_pos (by omega), if_pos (by omega), show rd_T43 t (i : Int) = atL t i from rfl, hw, hx, List.drop_eq_getElem_cons (i := i) (by omega), ← atL_get (by omega)]
    unfold sweepL
    rw [List.filter_cons]
    by_cases h1 : (atL t i).f1 = 2
    · rw [if_pos h1, if_neg (by rw [ref12_counts _ _ hb.2.2.1 hb.2.2.2.1]; omega), ih (i + 1) _ k (by omega) (by omega) (by omega)]
      rfl
    · rw [if_neg h1]
      by_cases h2 : (atL t i).f2 > now
      · rw [if_pos h2, if_pos (by omega), if_pos (by rw [ref12_counts _ _ hb.2.2.1 hb.2.2.2.1]; omega), ih (i + 1) _ k (by omega) (by omega) (by simp; omega)]
        simp [sweepL]
      · rw [if_neg h2, if_neg (by rw [ref12_counts _ _ hb.2.2.1 hb.2.2.2.1]; omega), ih (i + 1) _ k (by omega) (by omega) (by omega)]
        rfl
theorem boarderref12_Sweep_s (t : List Le) (ht : t.length ≤ 500) (now : Int) (k : Nat) (hk : t.length < k) : boarderref12_Sweep.f k t now = some (sweepL (goodL t) now) := by
  unfold boarderref12_Sweep.f
  rw [boarderref12_Good_s t (by simp only [maxLen]; omega) k hk]
  simp only [Option.bind_some]
  have hgl := goodL_len t
  have e := boarderref12_Sweep_l (goodL t) (by omega) (goodL_tab t).2.1 now (goodL t).length 0 [] k (by omega) (by omega) (by simp; omega)
  rw [List.drop_zero, List.nil_append] at e
  exact e

end Go.Proofs.Ytlabpabnddfllaa.PTable

namespace Go.Proofs.Ytlabpabnddfllaa.Pure
open Go.RowKit Go.Proofs.YtlabpabnddfllaaW.PrintWords Go.Proofs.YtlabpabnddfllaaW.PrintLast Go.Proofs.YtlabpabnddfllaaW.PrintMore Go.Proofs.Ytlabpabnddfllaa.PTable

theorem TableSays : boarderlaw12_TableSays.Pure := by
  intro t a1 a2 a3 a4 a key now ht hl ha hkey hnow
  have hm : t.length ≤ maxLen := ht.1
  refine ⟨2 * t.length + 2000, ?_⟩
  have hj : ∀ b, (b = false → greatB t = false) → boarderlaw12_TableSays.j0 (2 * t.length + 2000) t a key now b a1 a2 a3 a4 = some true := by
    intro b hb
    rw [show 2 * t.length + 2000 = (2 * t.length + 1999) + 1 from rfl, boarderlaw12_TableSays.j0]
    have hk := boarderlaw12_knows_s (2 * t.length + 1999) (by omega)
    cases b with
    | true => rw [if_pos rfl, hk]; rfl
    | false =>
      have hs := small_of (hb rfl)
      have hT : Tab (sweepL (goodL t) now) := tab_filter (goodL_tab t) _
      have hlen := hT.1
      have e3 := boarderref10_SameLeases_s (sweepL (goodL t) now) (by simp only [maxLen]; omega) (2 * t.length + 1999) (by omega)
      rw [if_neg (by simp), show table_Holds.f a1 a2 a3 a4 now = _ from table_Holds_s ⟨a1, a2, a3, a4⟩ now, show boarderref12_Holds.f a1 a2 a3 a4 now = _ from boarderref12_Holds_s ⟨a1, a2, a3, a4⟩ now, show table_Rests.f a1 a2 a3 a4 now = _ from table_Rests_s ⟨a1, a2, a3, a4⟩ now, show boarderref12_Rests.f a1 a2 a3 a4 now = _ from boarderref12_Rests_s ⟨a1, a2, a3, a4⟩ now, table_Free_s t hs a key now _ (by omega), boarderref12_Free_s t hm a key now _ (by omega)]
      simp only [Option.bind_some]
      rw [table_Sweep_s t hs now _ (by omega), boarderref12_Sweep_s t hs.1 now _ (by omega)]
      simp only [Option.bind_some]
      rw [e3, hk]
      simp
  unfold boarderlaw12_TableSays.f
  rw [boarderlaw12_Great_s t hm _ (by omega)]
  simp only [Option.bind_some]
  cases hg : greatB t with
  | true => rw [if_pos rfl]; exact hj true (fun h => by cases h)
  | false =>
    rw [if_neg (by simp)]
    by_cases c : (key.size : Int) > 1000
    · rw [if_pos c]; exact hj true (fun h => by cases h)
    · rw [if_neg c]; exact hj _ (fun _ => hg)

end Go.Proofs.Ytlabpabnddfllaa.Pure
