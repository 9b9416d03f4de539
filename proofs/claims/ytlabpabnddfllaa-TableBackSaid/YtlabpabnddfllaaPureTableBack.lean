/- The law TableBack holds of the printed functions; no condition beyond the law's own. -/
import Derived.Test.YtlabpabnddfllaaTableRTableBack
import Derived.Test.YtlabpabnddfllaaPTablex5
import Derived.Test.YtlabpabnddfllaaTableTab
import Derived.Test.YtlabpabnddfllaaTableS1
set_option linter.unusedVariables false
set_option linter.unusedSimpArgs false
namespace Go.Proofs.Ytlabpabnddfllaa.PTable
open Go.RowKit Go.Proofs.YtlabpabnddfllaaW.PrintWords Go.Proofs.YtlabpabnddfllaaW.PrintLast Go.Proofs.YtlabpabnddfllaaW.PrintMore

/-! ### boarderref12.Right -/
open Classical in
theorem boarderref12_Right_l (t : List Le) (ht : t.length ≤ maxLen) (d : Nat) : ∀ (i : Nat) (k : Nat), i + d = t.length → d < k →
    boarderref12_Right.l0 k t i = some (decide (∀ j, i ≤ j → j < t.length → leaseB (atL t j) = true ∧ (j + 1 < t.length → (atL t j).f0 < (atL t (j + 1)).f0))) := by
  simp only [maxLen] at ht
  induction d with
  | zero =>
    intro i k hi hk
    obtain ⟨k, rfl⟩ : ∃ m, k = m + 1 := ⟨k - 1, by omega⟩
    rw [boarderref12_Right.l0, if_neg (by omega), decide_eq_true (fun j a b => by omega)]
  | succ d ih =>
    intro i k hi hkk
    obtain ⟨k, rfl⟩ : ∃ m, k = m + 1 := ⟨k - 1, by omega⟩
    have hw : wrap64 ((i : Int) + 1) = ((i + 1 : Nat) : Int) := by unfold wrap64; omega
    have ihh := ih (i + 1) k (by omega) (by omega)
    rw [boarderref12_Right.l0, if_pos (by omega), if_pos (by omega), show rd_T43 t (i : Int) = atL t i from rfl, boarderref09_Right_s, hw]
    simp only [Option.bind_some]
    by_cases h : leaseB (atL t i) = true
    · rw [if_pos h]
      by_cases h0 : ((i + 1 : Nat) : Int) < (t.length : Int)
      · rw [if_pos h0, if_pos (by omega), show rd_T43 t ((i + 1 : Nat) : Int) = atL t (i + 1) from rfl]
        by_cases h1 : (atL t (i + 1)).f0 ≤ (atL t i).f0
        · rw [if_pos h1, decide_eq_false]
          intro h2
          have := (h2 i (by omega) (by omega)).2 (by omega)
          omega
        · rw [if_neg h1, ihh]
          congr 1
          refine decide_eq_decide.2 ⟨fun h2 j a b => ?_, fun h2 j a b => h2 j (by omega) b⟩
          rcases Nat.eq_or_lt_of_le a with c | c
          · subst c; exact ⟨h, fun _ => by omega⟩
          · exact h2 j (by omega) b
      · rw [if_neg h0, ihh]
        congr 1
        refine decide_eq_decide.2 ⟨fun h2 j a b => ?_, fun h2 j a b => h2 j (by omega) b⟩
        rcases Nat.eq_or_lt_of_le a with c | c
        · subst c; exact ⟨h, fun _ => by omega⟩
        · exact h2 j (by omega) b
    · rw [if_neg h, decide_eq_false]
      intro h2
      exact h (h2 i (by omega) (by omega)).1
theorem boarderref12_Right_s (t : List Le) (ht : t.length ≤ maxLen) (k : Nat) (hk : t.length < k) : boarderref12_Right.f k t = some (decide (Tab t)) := by
  unfold boarderref12_Right.f
  by_cases c : (t.length : Int) > 64
  · rw [if_pos c, decide_eq_false (fun h => by have := h.1; omega)]
  · have e := boarderref12_Right_l t ht t.length 0 k (by omega) hk
    rw [if_neg c, show boarderref12_Right.l0 k t 0 = boarderref12_Right.l0 k t ((0 : Nat) : Int) from rfl, e]
    congr 1
    refine decide_eq_decide.2 ?_
    rw [tab_iff2]
    exact ⟨fun h => ⟨by omega, fun j b => h j (by omega) b⟩, fun h j _ b => h.2 j b⟩

end Go.Proofs.Ytlabpabnddfllaa.PTable

namespace Go.Proofs.Ytlabpabnddfllaa.Pure
open Go.RowKit Go.Proofs.YtlabpabnddfllaaW.PrintWords Go.Proofs.YtlabpabnddfllaaW.PrintLast Go.Proofs.YtlabpabnddfllaaW.PrintMore Go.Proofs.Ytlabpabnddfllaa.PTable

theorem getL_setL_ne {t : List Le} (h : Asc t) (l : Le) (a : Int) (ha : a ≠ l.f0) : getL (setL t l) a = getL t a := by
  cases hq : getL t a with
  | none =>
    refine getL_none fun x hx e => ?_
    rcases setL_mem.1 hx with c | ⟨c, _⟩
    · rw [c] at e; exact ha e.symm
    · have := getL_some h c
      rw [e, hq] at this; cases this
  | some y =>
    obtain ⟨h1, h2⟩ := getL_mem hq
    rw [← h2]
    exact getL_some (setL_asc h l) (setL_mem.2 (.inr ⟨h1, by rw [h2]; exact ha⟩))
theorem TableBack : boarderlaw12_TableBack.Pure := by
  intro t a1 a2 a3 a4 other ht hl ho
  have hm : t.length ≤ maxLen := ht.1
  have hl3 : (⟨a1, a2, a3, a4⟩ : Le).f3.size ≤ maxLen := hl.2.2.2
  refine ⟨2 * t.length + 2000, ?_⟩
  have hj : ∀ b, (b = false → Tab t ∧ other ≠ a1) → boarderlaw12_TableBack.j0 (2 * t.length + 2000) t other b a1 a2 a3 a4 = some true := by
    intro b hb
    rw [show 2 * t.length + 2000 = (2 * t.length + 1999) + 1 from rfl, boarderlaw12_TableBack.j0]
    have hk := boarderlaw12_knows_s (2 * t.length + 1999) (by omega)
    cases b with
    | true => rw [if_pos rfl, hk]; rfl
    | false =>
      obtain ⟨h0, hne⟩ := hb rfl
      have hs := tab_small h0
      obtain ⟨l, hl0⟩ : ∃ l : Le, l = ⟨a1, a2, a3, a4⟩ := ⟨_, rfl⟩
      have e1 := table_Set_s t hs l (by rw [hl0]; exact hl3) (2 * t.length + 1999) (by omega)
      have e8 := boarderref09_Right_s l
      have hT := setAns_tab t l
      have hS := tab_small hT
      have hlen : (setAns t l).1.length ≤ 64 := hT.1
      have n1 : a1 = l.f0 := by rw [hl0]
      have n2 : a2 = l.f1 := by rw [hl0]
      have n3 : a3 = l.f2 := by rw [hl0]
      have n4 : a4 = l.f3 := by rw [hl0]
      have g1 := table_Get_s (setAns t l).1 hS l.f0 (2 * t.length + 1999) (by omega)
      have g2 := table_Get_s (setAns t l).1 hS other (2 * t.length + 1999) (by omega)
      have g3 := table_Get_s t hs other (2 * t.length + 1999) (by omega)
      rw [goodL_of hT] at g1 g2
      rw [goodL_of h0] at g3
      rw [n1] at hne
      rw [n1, n2, n3, n4, if_neg (by simp), e1]
      simp only [Option.bind_some]
      rw [g1, g2, g3, e8, hk]
      simp only [Option.bind_some]
      clear e1 e8 g1 g2 g3 hT hS hlen n1 n2 n3 n4
      unfold setAns
      rw [goodL_of h0]
      by_cases c : leaseB l = true
      · rw [if_pos c]
        by_cases f : (setL t l).length ≤ 64
        · have q1 : getL (setL t l) l.f0 = some l := getL_some (setL_asc h0.2.2 l) (setL_mem.2 (.inl rfl))
          have q2 := getL_setL_ne h0.2.2 l other hne
          rw [if_pos f]
          show (if (0 : Int) = 0 then _ else _) = _
          rw [if_pos rfl, q1, q2]
          simp [ans]
        · rw [if_neg f]; simp
      · rw [if_neg c]; simp [c]
  unfold boarderlaw12_TableBack.f
  rw [boarderlaw12_Great_s t hm _ (by omega)]
  simp only [Option.bind_some]
  cases hg : greatB t with
  | true => rw [if_pos rfl]; exact hj true (fun h => by cases h)
  | false =>
    rw [if_neg (by simp)]
    by_cases c : (a4.size : Int) > 1000
    · rw [if_pos c]; exact hj true (fun h => by cases h)
    · rw [if_neg c]
      by_cases d : other = a1
      · rw [if_pos d]; exact hj true (fun h => by cases h)
      · rw [if_neg d, boarderref12_Right_s t hm _ (by omega)]
        exact hj _ (fun h => ⟨by simpa using h, d⟩)

end Go.Proofs.Ytlabpabnddfllaa.Pure
