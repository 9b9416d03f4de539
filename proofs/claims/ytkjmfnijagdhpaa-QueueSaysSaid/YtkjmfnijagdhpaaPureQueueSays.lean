/- The law QueueSays holds of the printed functions; no condition beyond the law's own. -/
import Derived.Test.YtkjmfnijagdhpaaQueueRQueueSays
import Derived.Test.YtkjmfnijagdhpaaPQueuex13
import Derived.Test.YtkjmfnijagdhpaaPQueuex5
import Derived.Test.YtkjmfnijagdhpaaPQueuex6
import Derived.Test.YtkjmfnijagdhpaaPQueuex7
import Derived.Test.YtkjmfnijagdhpaaPQueuex8
import Derived.Test.YtkjmfnijagdhpaaPQueuex9
import Derived.Test.YtkjmfnijagdhpaaQueueTab
import Derived.Test.YtkjmfnijagdhpaaQueueOrd
import Derived.Test.YtkjmfnijagdhpaaQueueS1
set_option linter.unusedVariables false
set_option linter.unusedSimpArgs false
namespace Go.Proofs.Ytkjmfnijagdhpaa.PQueue
open Go.RowKit Go.Proofs.YtkjmfnijagdhpaaW.PrintWords Go.Proofs.YtkjmfnijagdhpaaW.PrintLast Go.Proofs.YtkjmfnijagdhpaaW.PrintMore

/-! ### boarderref01.Right -/
theorem boarderref01_Right_s (a : Int) : boarderref01_Right.f a = some (decide (0 ≤ a ∧ a ≤ 4294967295)) := by
  unfold boarderref01_Right.f
  by_cases h : a ≥ 0
  · rw [if_pos h]; congr 1; exact decide_eq_decide.2 ⟨fun h2 => ⟨h, by omega⟩, fun h2 => by omega⟩
  · rw [if_neg h, decide_eq_false (by omega)]

/-! ### boarderref07.Right -/
theorem boarderref07_Right_s (s : ByteArray) : boarderref07_Right.f s = some (keyB s) := by
  unfold boarderref07_Right.f keyB
  by_cases h0 : (s.size : Int) < 3
  · rw [if_pos h0, decide_eq_false (show ¬ 3 ≤ s.size by omega)]; rfl
  · rw [if_neg h0, if_pos (by omega), decide_eq_true (show 3 ≤ s.size by omega), Bool.true_and]
    by_cases h1 : bt s 0 = 105
    · rw [if_pos h1]
      by_cases h2 : (s.size : Int) ≤ 256
      · rw [if_pos h2, decide_eq_true (show bt s 0 = 105 ∧ s.size ≤ 256 from ⟨h1, by omega⟩)]; rfl
      · rw [if_neg h2, if_neg (by omega), decide_eq_false (by omega), decide_eq_false (by omega)]; rfl
    · rw [if_neg h1, decide_eq_false (show ¬ (bt s 0 = 105 ∧ s.size ≤ 256) from fun h => h1 h.1), Bool.false_or]
      by_cases h3 : bt s 0 = 104
      · rw [if_pos h3]
        congr 1
        exact decide_eq_decide.2 ⟨fun h => ⟨h3, by omega⟩, fun h => by omega⟩
      · rw [if_neg h3, decide_eq_false (fun h => h3 h.1)]

/-! ### boarderref09.Right -/
theorem boarderref09_Right_s (l : Le) : boarderref09_Right.f l.f0 l.f1 l.f2 l.f3 = some (leaseB l) := by
  unfold boarderref09_Right.f leaseB
  rw [boarderref01_Right_s, boarderref07_Right_s]
  simp only [Option.bind_some]
  by_cases h0 : 0 ≤ l.f0 ∧ l.f0 ≤ 4294967295
  · rw [decide_eq_true h0, if_pos rfl]
    cases hk : keyB l.f3 with
    | false => rw [if_neg (by simp), Bool.and_false]
    | true =>
      rw [if_pos rfl, Bool.and_true]
      have fin : (if l.f2 ≥ 0 then (some (decide (l.f2 ≤ 1125899906842624))) else (some false)) = some (decide (0 ≤ l.f2 ∧ l.f2 ≤ 1125899906842624)) := by
        by_cases h3 : l.f2 ≥ 0
        · rw [if_pos h3]; congr 1; exact decide_eq_decide.2 ⟨fun h => ⟨h3, h⟩, fun h => h.2⟩
        · rw [if_neg h3, decide_eq_false (fun h => h3 h.1)]
      rw [fin]
      by_cases c1 : l.f1 = 1
      · rw [if_pos c1]; congr 1; exact decide_eq_decide.2 ⟨fun h => ⟨h0.1, h0.2, by omega, by omega, h.1, h.2⟩, fun h => ⟨h.2.2.2.2.1, h.2.2.2.2.2⟩⟩
      · rw [if_neg c1]
        by_cases c2 : l.f1 = 2
        · rw [if_pos c2]; congr 1; exact decide_eq_decide.2 ⟨fun h => ⟨h0.1, h0.2, by omega, by omega, h.1, h.2⟩, fun h => ⟨h.2.2.2.2.1, h.2.2.2.2.2⟩⟩
        · rw [if_neg c2]
          by_cases c3 : l.f1 = 3
          · rw [if_pos c3]; congr 1; exact decide_eq_decide.2 ⟨fun h => ⟨h0.1, h0.2, by omega, by omega, h.1, h.2⟩, fun h => ⟨h.2.2.2.2.1, h.2.2.2.2.2⟩⟩
          · rw [if_neg c3, decide_eq_false (by omega)]
  · rw [decide_eq_false h0, if_neg (by simp), decide_eq_false (fun h => h0 ⟨h.1, h.2.1⟩)]; rfl

/-! ### boarderref12.Right -/
open Classical in
theorem boarderref12_Right_l (t : List Le) (ht : t.length ≤ maxLen) (d : Nat) : ∀ (i : Nat) (k : Nat), i + d = t.length → d < k →
    boarderref12_Right.l0 k t i = some (decide (∀ j, i ≤ j → j < t.length → leaseB (atL t j) = true ∧ (j + 1 < t.length → (atL t j).f0 < (atL t (j + 1)).f0))) := by
  simp only [maxLen] at ht
  induction d with
  | zero =>
    intro i k hi hk
    obtain ⟨k, rfl⟩ : ∃ m, k = m + 1 := ⟨k - 1, by omega⟩
    rw [boarderref12_Right.l0, if_neg (by omega), decide_eq_true (fun j a b => by omega)]
  | succ d ih =>
    intro i k hi hkk
    obtain ⟨k, rfl⟩ : ∃ m, k = m + 1 := ⟨k - 1, by omega⟩
    have hw : wrap64 ((i : Int) + 1) = ((i + 1 : Nat) : Int) := by unfold wrap64; omega
    have ihh := ih (i + 1) k (by omega) (by omega)
    rw [boarderref12_Right.l0, if_pos (by omega), if_pos (by omega), show rd_T34 t (i : Int) = atL t i from rfl, boarderref09_Right_s, hw]
    simp only [Option.bind_some]
    by_cases h : leaseB (atL t i) = true
    · rw [if_pos h]
      by_cases h0 : ((i + 1 : Nat) : Int) < (t.length : Int)
      · rw [if_pos h0, if_pos (by omega), show rd_T34 t ((i + 1 : Nat) : Int) = atL t (i + 1) from rfl]
        by_cases h1 : (atL t (i + 1)).f0 ≤ (atL t i).f0
        · rw [if_pos h1, decide_eq_false]
          intro h2
          have := (h2 i (by omega) (by omega)).2 (by omega)
          omega
        · rw [if_neg h1, ihh]
          congr 1
          refine decide_eq_decide.2 ⟨fun h2 j a b => ?_, fun h2 j a b => h2 j (by omega) b⟩
          rcases Nat.eq_or_lt_of_le a with c | c
          · subst c; exact ⟨h, fun _ => by omega⟩
          · exact h2 j (by omega) b
      · rw [if_neg h0, ihh]
        congr 1
        refine decide_eq_decide.2 ⟨fun h2 j a b => ?_, fun h2 j a b => h2 j (by omega) b⟩
        rcases Nat.eq_or_lt_of_le a with c | c
        · subst c; exact ⟨h, fun _ => by omega⟩
        · exact h2 j (by omega) b
    · rw [if_neg h, decide_eq_false]
      intro h2
      exact h (h2 i (by omega) (by omega)).1
theorem boarderref12_Right_s (t : List Le) (ht : t.length ≤ maxLen) (k : Nat) (hk : t.length < k) : boarderref12_Right.f k t = some (decide (Tab t)) := by
  unfold boarderref12_Right.f
  by_cases c : (t.length : Int) > 64
  · rw [if_pos c, decide_eq_false (fun h => by have := h.1; omega)]
  · have e := boarderref12_Right_l t ht t.length 0 k (by omega) hk
    rw [if_neg c, show boarderref12_Right.l0 k t 0 = boarderref12_Right.l0 k t ((0 : Nat) : Int) from rfl, e]
    congr 1
    refine decide_eq_decide.2 ?_
    rw [tab_iff2]
    exact ⟨fun h => ⟨by omega, fun j b => h j (by omega) b⟩, fun h j _ b => h.2 j b⟩

/-! ### boarderref12.Good -/
theorem boarderref12_Good_s (t : List Le) (ht : t.length ≤ maxLen) (k : Nat) (hk : t.length < k) : boarderref12_Good.f k t = some (goodL t) := by
  unfold boarderref12_Good.f goodL
  rw [boarderref12_Right_s t ht k hk]
  simp only [Option.bind_some]
  by_cases c : Tab t
  · rw [decide_eq_true c, if_pos c]; rfl
  · rw [decide_eq_false c, if_neg c]; rfl

/-! ### boarderref10.SameLeases -/
theorem boarderref10_SameLeases_l (t : List Le) (ht : t.length ≤ maxLen) (d : Nat) : ∀ (i : Nat) (k : Nat), i + d = t.length → d < k → boarderref10_SameLeases.l0 k t t i = some true := by
  simp only [maxLen] at ht
  induction d with
  | zero =>
    intro i k hi hk
    obtain ⟨k, rfl⟩ : ∃ m, k = m + 1 := ⟨k - 1, by omega⟩
    rw [boarderref10_SameLeases.l0, if_neg (by omega)]
  | succ d ih =>
    intro i k hi hkk
    obtain ⟨k, rfl⟩ : ∃ m, k = m + 1 := ⟨k - 1, by omega⟩
    have hw : wrap64 ((i : Int) + 1) = ((i + 1 : Nat) : Int) := by unfold wrap64; omega
    rw [boarderref10_SameLeases.l0, if_pos (by omega), if_pos (by omega), if_pos (by omega), if_neg (by simp), hw]
    exact ih (i + 1) k (by omega) (by omega)
theorem boarderref10_SameLeases_s (t : List Le) (ht : t.length ≤ maxLen) (k : Nat) (hk : t.length < k) : boarderref10_SameLeases.f k t t = some true := by
  unfold boarderref10_SameLeases.f
  rw [if_pos rfl]
  exact boarderref10_SameLeases_l t ht t.length 0 k (by omega) hk

/-! ### boarderref12.Get -/
theorem boarderref12_Get_l (t : List Le) (ht : t.length ≤ maxLen) (a : Int) (d : Nat) : ∀ (i : Nat) (k : Nat), i + d = t.length → d < k → boarderref12_Get.l0 k t a i = some (ans (getL (t.drop i) a)) := by
  simp only [maxLen] at ht
  induction d with
  | zero =>
    intro i k hi hk
    obtain ⟨k, rfl⟩ : ∃ m, k = m + 1 := ⟨k - 1, by omega⟩
    rw [boarderref12_Get.l0, if_neg (by omega), List.drop_eq_nil_of_le (by omega)]; rfl
  | succ d ih =>
    intro i k hi hkk
    obtain ⟨k, rfl⟩ : ∃ m, k = m + 1 := ⟨k - 1, by omega⟩
    have hw : wrap64 ((i : Int) + 1) = ((i + 1 : Nat) : Int) := by unfold wrap64; omega
    rw [boarderref12_Get.l0, if_pos (by omega), if_pos (by omega), show rd_T34 t (i : Int) = atL t i from rfl, hw, List.drop_eq_getElem_cons (i := i) (by omega), ← atL_get (by omega)]
    unfold getL
    rw [List.find?_cons]
    by_cases h : (atL t i).f0 = a
    · rw [if_pos h, decide_eq_true h]; rfl
    · rw [if_neg h, decide_eq_false h, ih (i + 1) k (by omega) (by omega)]; rfl
theorem boarderref12_Get_s (t : List Le) (ht : t.length ≤ maxLen) (a : Int) (k : Nat) (hk : t.length < k) : boarderref12_Get.f k t a = some (ans (getL (goodL t) a)) := by
  unfold boarderref12_Get.f
  rw [boarderref12_Good_s t ht k hk]
  simp only [Option.bind_some]
  have hgl := goodL_len t
  have e := boarderref12_Get_l (goodL t) (by omega) a (goodL t).length 0 k (by omega) (by omega)
  rw [show boarderref12_Get.l0 k (goodL t) a 0 = boarderref12_Get.l0 k (goodL t) a ((0 : Nat) : Int) from rfl, e, List.drop_zero]

/-! ### boarderref25.first -/
theorem boarderref25_first_l (t : List Le) (ht : t.length ≤ 500) (d : Nat) : ∀ (i best k : Nat), i + d = t.length → best < i → (∀ j, j < i → ¬ bef (atL t j) (atL t best)) → d < k →
    ∃ b, b < t.length ∧ (∀ j, j < t.length → ¬ bef (atL t j) (atL t b)) ∧ boarderref25_first.l0 k t best i = some (b : Int) := by
  induction d with
  | zero =>
    intro i best k hi hb hm hk
    obtain ⟨k, rfl⟩ : ∃ m, k = m + 1 := ⟨k - 1, by omega⟩
    exact ⟨best, by omega, fun j hj => hm j (by omega), by rw [boarderref25_first.l0, if_neg (by omega)]⟩
  | succ d ih =>
    intro i best k hi hb hm hk
    obtain ⟨k, rfl⟩ : ∃ m, k = m + 1 := ⟨k - 1, by omega⟩
    have hw : wrap64 ((i : Int) + 1) = ((i + 1 : Nat) : Int) := by unfold wrap64; omega
    have n1 : bef (atL t i) (atL t best) → ∃ b, b < t.length ∧ (∀ j, j < t.length → ¬ bef (atL t j) (atL t b)) ∧ boarderref25_first.l0 k t (i : Int) ((i + 1 : Nat) : Int) = some (b : Int) := fun c =>
      ih (i + 1) i k (by omega) (by omega) (fun j hj => by
        rcases Nat.lt_or_ge j i with h | h
        · exact fun q => hm j h (bef_trans q c)
        · rw [show j = i from by omega]; exact bef_self _) (by omega)
    have n2 : ¬ bef (atL t i) (atL t best) → ∃ b, b < t.length ∧ (∀ j, j < t.length → ¬ bef (atL t j) (atL t b)) ∧ boarderref25_first.l0 k t (best : Int) ((i + 1 : Nat) : Int) = some (b : Int) := fun c =>
      ih (i + 1) best k (by omega) (by omega) (fun j hj => by
        rcases Nat.lt_or_ge j i with h | h
        · exact hm j h
        · rw [show j = i from by omega]; exact c) (by omega)
    rw [boarderref25_first.l0, if_pos (by omega), if_pos (by omega), if_pos (by omega), if_pos (by omega), hw, show rd_T34 t (best : Int) = atL t best from rfl, show rd_T34 t (i : Int) = atL t i from rfl]
    by_cases c1 : (atL t i).f2 < (atL t best).f2
    · rw [if_pos c1]; exact n1 (.inl c1)
    · rw [if_neg c1]
      by_cases c2 : (atL t i).f2 = (atL t best).f2
      · rw [if_pos c2]
        by_cases c3 : (atL t i).f0 < (atL t best).f0
        · rw [if_pos c3]; exact n1 (.inr ⟨c2, c3⟩)
        · rw [if_neg c3]; exact n2 (fun q => by rcases q with q | q; exact c1 q; exact c3 q.2)
      · rw [if_neg c2]; exact n2 (fun q => by rcases q with q | q; exact c1 q; exact c2 q.1)
theorem boarderref25_first_s (t : List Le) (ht : t.length ≤ 500) (h0 : 0 < t.length) (k : Nat) (hk : t.length < k) : ∃ b, b < t.length ∧ (∀ j, j < t.length → ¬ bef (atL t j) (atL t b)) ∧ boarderref25_first.f k t = some (b : Int) :=
  boarderref25_first_l t ht (t.length - 1) 1 0 k (by omega) (by omega) (fun j hj => by rw [show j = 0 from by omega]; exact bef_self _) (by omega)

/-! ### boarderref25.Sorted -/
theorem boarderref25_Sorted_l (m : Nat) : ∀ (t out : List Le) (k : Nat), t.length = m → m ≤ 500 → out.length + m ≤ 1000 → Dif t → 2 * m + 1 ≤ k →
    ∃ r, boarderref25_Sorted.l0 k t out = some (out ++ r) ∧ Ord r ∧ ∀ x, x ∈ r ↔ x ∈ t := by
  induction m with
  | zero =>
    intro t out k hm h5 ho hp hk
    obtain ⟨k, rfl⟩ : ∃ m, k = m + 1 := ⟨k - 1, by omega⟩
    have e := List.length_eq_zero_iff.1 hm
    subst e
    exact ⟨[], by rw [boarderref25_Sorted.l0, if_neg (by simp), List.append_nil], List.Pairwise.nil, fun x => Iff.rfl⟩
  | succ m ih =>
    intro t out k hm h5 ho hp hk
    obtain ⟨k, rfl⟩ : ∃ q, k = q + 1 := ⟨k - 1, by omega⟩
    obtain ⟨b, hb, hmin, e⟩ := boarderref25_first_s t (by omega) (by omega) k (by omega)
    have hs : t = t.take b ++ atL t b :: t.drop (b + 1) := by
      rw [atL_get hb, ← List.drop_eq_getElem_cons hb, List.take_append_drop]
    have hp' := hp
    unfold Dif at hp'
    rw [hs, List.pairwise_append, List.pairwise_cons] at hp'
    obtain ⟨p1, ⟨p2, p3⟩, p4⟩ := hp'
    have hq : Dif (t.take b ++ t.drop (b + 1)) := List.pairwise_append.2 ⟨p1, p3, fun x hx y hy => p4 x hx y (List.mem_cons_of_mem _ hy)⟩
    have hmem : ∀ x, x ∈ t ↔ x = atL t b ∨ x ∈ t.take b ++ t.drop (b + 1) := fun x => by
      constructor
      · intro h
        rw [hs] at h
        rcases List.mem_append.1 h with h | h
        · exact .inr (List.mem_append_left _ h)
        · rcases List.mem_cons.1 h with h | h
          · exact .inl h
          · exact .inr (List.mem_append_right _ h)
      · rintro (h | h)
        · rw [h]; exact atL_mem hb
        · rcases List.mem_append.1 h with h | h
          · exact List.mem_of_mem_take h
          · exact List.mem_of_mem_drop h
    have hlt : (t.take b).length + (t.drop (b + 1)).length = m := by rw [List.length_take, List.length_drop]; omega
    obtain ⟨r, hr, ha, hx⟩ := ih (t.take b ++ t.drop (b + 1)) (out ++ [atL t b]) k (by rw [List.length_append]; exact hlt) (by omega) (by rw [List.length_append, List.length_singleton]; omega) hq (by omega)
    have hw : wrap64 ((b : Int) + 1) = ((b + 1 : Nat) : Int) := by unfold wrap64; omega
    have hx2 : (⟨(atL t b).f0, (atL t b).f1, (atL t b).f2, (atL t b).f3⟩ : Le) = atL t b := rfl
    refine ⟨atL t b :: r, ?_, ?_, fun x => ?_⟩
    · rw [boarderref25_Sorted.l0, if_pos (by omega), e]
      simp only [Option.bind_some]
      rw [if_pos (by omega), if_pos (by omega), if_pos (by omega), if_pos (by omega), hw, show rd_T34 t (b : Int) = atL t b from rfl, hx2]
      simp only [Option.bind_some, Int.toNat_natCast, List.nil_append]
      rw [if_pos (by rw [List.length_nil]; omega), if_pos (by omega), if_pos (by omega), if_pos (by omega), hr]
      simp
    · refine List.pairwise_cons.2 ⟨fun y hy => ?_, ha⟩
      have h1 := (hx y).1 hy
      have h2 : ¬ bef y (atL t b) := by
        obtain ⟨j, hj, rfl⟩ := mem_atL ((hmem y).2 (.inr h1))
        exact hmin j hj
      have h3 : y.f0 ≠ (atL t b).f0 := by
        rcases List.mem_append.1 h1 with h | h
        · exact p4 y h _ List.mem_cons_self
        · exact (p2 y h).symm
      exact bef_tri h3 h2
    · rw [List.mem_cons, hx, hmem]
theorem boarderref25_Sorted_s (t : List Le) (ht : t.length ≤ 500) (hd : Dif t) (k : Nat) (hk : 2 * t.length + 1 ≤ k) : boarderref25_Sorted.f k t = some (sortL t) := by
  obtain ⟨r, hr, ha, hx⟩ := boarderref25_Sorted_l t.length t [] k rfl (by omega) (by simp; omega) hd hk
  unfold boarderref25_Sorted.f
  rw [hr, List.nil_append, sortL_eq hd ha hx]

/-! ### boarderref25.ByEnd -/
theorem boarderref25_ByEnd_l (t : List Le) (ht : t.length ≤ 500) (hl : ∀ l ∈ t, leaseB l = true) (d : Nat) : ∀ (i : Nat) (out : List Le) (k : Nat), i + d = t.length → out.length + d ≤ 1000 →
    boarderref25_ByEnd.l0 (k + d + 1) t out i = (boarderref25_Sorted.f k (out ++ (t.drop i).filter (fun l => decide (l.f1 ≠ 2)))).bind fun s => some s := by
  induction d with
  | zero =>
    intro i out k hi ho
    rw [boarderref25_ByEnd.l0, if_neg (by omega), List.drop_eq_nil_of_le (by omega)]; simp
  | succ d ih =>
    intro i out k hi ho
    have hw : wrap64 ((i : Int) + 1) = ((i + 1 : Nat) : Int) := by unfold wrap64; omega
    have hx : (⟨(atL t i).f0, (atL t i).f1, (atL t i).f2, (atL t i).f3⟩ : Le) = atL t i := rfl
    have hb := leaseB_of (hl _ (atL_mem (t := t) (j := i) (by omega)))
    rw [show k + (d + 1) + 1 = (k + d + 1) + 1 from by omega, boarderref25_ByEnd.l0, if_pos (by omega), if_pos (by omega), show rd_T34 t (i : Int) = atL t i from rfl, hw, hx, List.drop_eq_getElem_cons (i := i) (by omega), ← atL_get (by omega), List.filter_cons]
    have i1 := ih (i + 1) (out ++ [atL t i]) k (by omega) (by simp; omega)
    have i2 := ih (i + 1) out k (by omega) (by omega)
    by_cases c1 : (atL t i).f1 = 1
    · rw [if_pos c1, if_pos (by omega), if_pos (decide_eq_true (by omega)), i1]; simp
    · rw [if_neg c1]
      by_cases c3 : (atL t i).f1 = 3
      · rw [if_pos c3, if_pos (by omega), if_pos (decide_eq_true (by omega)), i1]; simp
      · rw [if_neg c3, if_neg (by rw [decide_eq_true_iff]; omega), i2]
theorem boarderref25_ByEnd_s (t : List Le) (ht : t.length ≤ 500) (k : Nat) (hk : 2000 ≤ k) : boarderref25_ByEnd.f k t = some (endsL (goodL t)) := by
  have hT := goodL_tab t
  have h64 := hT.1
  have hf := List.length_filter_le (fun l : Le => decide (l.f1 ≠ 2)) (goodL t)
  unfold boarderref25_ByEnd.f
  rw [boarderref12_Good_s t (by simp only [maxLen]; omega) k (by omega)]
  simp only [Option.bind_some]
  obtain ⟨q, rfl⟩ : ∃ q, k = q + (goodL t).length + 1 := ⟨k - (goodL t).length - 1, by omega⟩
  have e := boarderref25_ByEnd_l (goodL t) (by omega) hT.2.1 (goodL t).length 0 [] q (by omega) (by simp; omega)
  rw [List.drop_zero, List.nil_append, boarderref25_Sorted_s _ (by omega) (dif_filter (asc_dif hT.2.2) _) q (by omega)] at e
  exact e

/-! ### boarderref25.Next -/
theorem boarderref25_Next_l (s : List Le) (hs : s.length ≤ 500) (now : Int) (d : Nat) : ∀ (i k : Nat), i + d = s.length → d < k → boarderref25_Next.l0 k now s i = some (nextA ((s.drop i).filter (fun l => decide (now < l.f2)))) := by
  induction d with
  | zero =>
    intro i k hi hk
    obtain ⟨k, rfl⟩ : ∃ m, k = m + 1 := ⟨k - 1, by omega⟩
    rw [boarderref25_Next.l0, if_neg (by omega), List.drop_eq_nil_of_le (by omega)]; rfl
  | succ d ih =>
    intro i k hi hk
    obtain ⟨k, rfl⟩ : ∃ m, k = m + 1 := ⟨k - 1, by omega⟩
    have hw : wrap64 ((i : Int) + 1) = ((i + 1 : Nat) : Int) := by unfold wrap64; omega
    rw [boarderref25_Next.l0, if_pos (by omega), if_pos (by omega), show rd_T34 s (i : Int) = atL s i from rfl, hw, List.drop_eq_getElem_cons (i := i) (by omega), ← atL_get (by omega), List.filter_cons]
    by_cases c : (atL s i).f2 > now
    · rw [if_pos c, if_pos (decide_eq_true c)]; rfl
    · rw [if_neg c, if_neg (by rw [decide_eq_true_iff]; omega), ih (i + 1) k (by omega) (by omega)]
theorem boarderref25_Next_s (t : List Le) (ht : t.length ≤ 500) (now : Int) (k : Nat) (hk : 2000 ≤ k) : boarderref25_Next.f k t now = some (nextA (laterL (goodL t) now)) := by
  have h1 := ends_len (goodL t)
  have h2 := (goodL_tab t).1
  unfold boarderref25_Next.f
  rw [boarderref25_ByEnd_s t ht k hk]
  simp only [Option.bind_some]
  have e := boarderref25_Next_l (endsL (goodL t)) (by omega) now (endsL (goodL t)).length 0 k (by omega) (by omega)
  rw [List.drop_zero] at e
  exact e

/-! ### boarderref25.Ended -/
theorem boarderref25_Ended_l (s : List Le) (hs : s.length ≤ 500) (a b : Int) (d : Nat) : ∀ (i : Nat) (out : List Le) (k : Nat), i + d = s.length → d < k → out.length + d ≤ 1000 → boarderref25_Ended.l0 k a b s out i = some (out ++ (s.drop i).filter (fun l => decide (a < l.f2 ∧ l.f2 ≤ b))) := by
  induction d with
  | zero =>
    intro i out k hi hk ho
    obtain ⟨k, rfl⟩ : ∃ m, k = m + 1 := ⟨k - 1, by omega⟩
    rw [boarderref25_Ended.l0, if_neg (by omega), List.drop_eq_nil_of_le (by omega)]; simp
  | succ d ih =>
    intro i out k hi hk ho
    obtain ⟨k, rfl⟩ : ∃ m, k = m + 1 := ⟨k - 1, by omega⟩
    have hw : wrap64 ((i : Int) + 1) = ((i + 1 : Nat) : Int) := by unfold wrap64; omega
    have hx : (⟨(atL s i).f0, (atL s i).f1, (atL s i).f2, (atL s i).f3⟩ : Le) = atL s i := rfl
    rw [boarderref25_Ended.l0, if_pos (by omega), if_pos (by omega), show rd_T34 s (i : Int) = atL s i from rfl, hw, hx, List.drop_eq_getElem_cons (i := i) (by omega), ← atL_get (by omega), List.filter_cons]
    by_cases c : (atL s i).f2 > a
    · rw [if_pos c]
      by_cases c2 : (atL s i).f2 ≤ b
      · rw [if_pos c2, if_pos (by omega), if_pos (decide_eq_true ⟨c, c2⟩), ih (i + 1) _ k (by omega) (by omega) (by simp; omega)]; simp
      · rw [if_neg c2, if_neg (by rw [decide_eq_true_iff]; omega), ih (i + 1) _ k (by omega) (by omega) (by omega)]
    · rw [if_neg c, if_neg (by rw [decide_eq_true_iff]; omega), ih (i + 1) _ k (by omega) (by omega) (by omega)]
theorem boarderref25_Ended_s (t : List Le) (ht : t.length ≤ 500) (a b : Int) (k : Nat) (hk : 2000 ≤ k) : boarderref25_Ended.f k t a b = some (endedL (goodL t) a b) := by
  have h1 := ends_len (goodL t)
  have h2 := (goodL_tab t).1
  unfold boarderref25_Ended.f
  rw [boarderref25_ByEnd_s t ht k hk]
  simp only [Option.bind_some]
  have e := boarderref25_Ended_l (endsL (goodL t)) (by omega) a b (endsL (goodL t)).length 0 [] k (by omega) (by omega) (by simp; omega)
  rw [List.drop_zero, List.nil_append] at e
  exact e

/-! ### boarderref25.Until -/
theorem boarderref25_Until_s (t : List Le) (ht : t.length ≤ 500) (a now : Int) (k : Nat) (hk : 2000 ≤ k) : boarderref25_Until.f k t a now = some (untilL (goodL t) a now) := by
  unfold boarderref25_Until.f untilL
  rw [boarderref12_Get_s t (by simp only [maxLen]; omega) a k (by omega)]
  simp only [Option.bind_some]
  cases hq : getL (goodL t) a with
  | none => rfl
  | some l =>
    have hb := leaseB_of ((goodL_tab t).2.1 l (getL_mem hq).1)
    have e := counts_iff l now hb.2.2.1 hb.2.2.2.1
    show (if true = true then ((boarderref25_Counts.f l.f0 l.f1 l.f2 l.f3 now).bind fun b => (if b = true then some (wrap64 (l.f2 - now)) else some 0)) else some 0) = some (if countsB l now = true then wrap64 (l.f2 - now) else 0)
    have e2 : boarderref25_Counts.f l.f0 l.f1 l.f2 l.f3 now = some (countsB l now) := by
      unfold boarderref25_Counts.f
      by_cases c : l.f1 = 2
      · rw [if_pos c]
        congr 1
        exact (Bool.eq_false_iff.2 (fun h => (e.1 h).1 c)).symm
      · rw [if_neg c]
        congr 1
        rw [Bool.eq_iff_iff, e, decide_eq_true_iff]
        omega
    rw [if_pos rfl, e2]
    simp only [Option.bind_some]
    cases countsB l now <;> rfl

end Go.Proofs.Ytkjmfnijagdhpaa.PQueue

namespace Go.Proofs.Ytkjmfnijagdhpaa.Pure
open Go.RowKit Go.Proofs.YtkjmfnijagdhpaaW.PrintWords Go.Proofs.YtkjmfnijagdhpaaW.PrintLast Go.Proofs.YtkjmfnijagdhpaaW.PrintMore Go.Proofs.Ytkjmfnijagdhpaa.PQueue

theorem QueueSays : boarderlaw25_QueueSays.Pure := by
  intro t now to_ a ht h1 h2 h3
  have hm : t.length ≤ maxLen := ht.1
  refine ⟨t.length + 50000, ?_⟩
  have hk := boarderlaw25_knows_s (t.length + 50000) (by omega)
  unfold boarderlaw25_QueueSays.f
  rw [boarderlaw12_Great_s t hm _ (by omega)]
  simp only [Option.bind_some]
  cases hg : greatB t with
  | true => rw [if_pos rfl, hk]; rfl
  | false =>
    have hs := small_of hg
    have h1 := ends_len (goodL t)
    have h2 := (goodL_tab t).1
    have h3 : (endedL (goodL t) now to_).length ≤ (endsL (goodL t)).length := List.length_filter_le _ _
    rw [if_neg (by simp), queue_Next_s t hs now _ (by omega), boarderref25_Next_s t hs.1 now _ (by omega), queue_Ended_s t hs now to_ _ (by omega), boarderref25_Ended_s t hs.1 now to_ _ (by omega), queue_Until_s t hs a now _ (by omega), boarderref25_Until_s t hs.1 a now _ (by omega)]
    simp only [Option.bind_some]
    rw [boarderref10_SameLeases_s (endedL (goodL t) now to_) (by simp only [maxLen]; omega) _ (by omega), hk]
    simp

end Go.Proofs.Ytkjmfnijagdhpaa.Pure
