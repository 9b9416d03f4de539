/- What the printed functions of this group come to, in plain words; each under its theorem's own conditions. -/
import Derived.Test.YtkjmfnijagdhpaaPQueuex2
import Derived.Test.YtkjmfnijagdhpaaPQueuex3
import Derived.Test.YtkjmfnijagdhpaaPQueuex4
import Derived.Test.YtkjmfnijagdhpaaAdr
import Derived.Test.YtkjmfnijagdhpaaQueueTab
import Derived.Test.YtkjmfnijagdhpaaQueueOrd
set_option linter.unusedVariables false
set_option linter.unusedSimpArgs false
namespace Go.Proofs.Ytkjmfnijagdhpaa.PQueue
open Go.RowKit Go.Proofs.YtkjmfnijagdhpaaW.PrintWords Go.Proofs.YtkjmfnijagdhpaaW.PrintLast Go.Proofs.YtkjmfnijagdhpaaW.PrintMore

/-! ### boarderlaw12.Great -/
/-- Is a table more than is looked at? -/
def greatB (t : List Le) : Bool := decide (∃ l ∈ t, 1000 < l.f3.size) || decide (200 < t.length)
open Classical in
theorem boarderlaw12_Great_l (t : List Le) (ht : t.length ≤ maxLen) (d : Nat) : ∀ (i : Nat) (k : Nat), i + d = t.length → d < k →
    boarderlaw12_Great.l0 k t i = some (decide (∃ j, i ≤ j ∧ j < t.length ∧ 1000 < (atL t j).f3.size) || decide (200 < t.length)) := by
  simp only [maxLen] at ht
  induction d with
  | zero =>
    intro i k hi hk
    obtain ⟨k, rfl⟩ : ∃ m, k = m + 1 := ⟨k - 1, by omega⟩
    rw [boarderlaw12_Great.l0, if_neg (by omega), decide_eq_false (p := ∃ j, i ≤ j ∧ j < t.length ∧ 1000 < (atL t j).f3.size) (by rintro ⟨j, h1, h2, _⟩; omega), Bool.false_or]
    congr 1; exact decide_eq_decide.2 ⟨fun h => by omega, fun h => by omega⟩
  | succ d ih =>
    intro i k hi hk
    obtain ⟨k, rfl⟩ : ∃ m, k = m + 1 := ⟨k - 1, by omega⟩
    rw [boarderlaw12_Great.l0, if_pos (by omega), if_pos (by omega), show rd_T34 t (i : Int) = atL t i from rfl]
    by_cases h : ((atL t i).f3.size : Int) > 1000
    · rw [if_pos h, decide_eq_true (p := ∃ j, i ≤ j ∧ j < t.length ∧ 1000 < (atL t j).f3.size) ⟨i, by omega, by omega, by omega⟩, Bool.true_or]
    · rw [if_neg h, show wrap64 ((i : Int) + 1) = ((i + 1 : Nat) : Int) from by unfold wrap64; omega, ih (i + 1) k (by omega) (by omega)]
      congr 2
      refine decide_eq_decide.2 ⟨?_, ?_⟩
      · rintro ⟨j, h1, h2, h3⟩; exact ⟨j, by omega, h2, h3⟩
      · rintro ⟨j, h1, h2, h3⟩
        rcases Nat.eq_or_lt_of_le h1 with c | c
        · subst c; omega
        · exact ⟨j, by omega, h2, h3⟩
theorem boarderlaw12_Great_s (t : List Le) (ht : t.length ≤ maxLen) (k : Nat) (hk : t.length < k) : boarderlaw12_Great.f k t = some (greatB t) := by
  have e := boarderlaw12_Great_l t ht t.length 0 k (by omega) hk
  unfold boarderlaw12_Great.f greatB
  rw [show boarderlaw12_Great.l0 k t 0 = boarderlaw12_Great.l0 k t ((0 : Nat) : Int) from rfl, e]
  congr 2
  refine decide_eq_decide.2 ⟨?_, ?_⟩
  · rintro ⟨j, _, h2, h3⟩; exact ⟨_, atL_mem h2, h3⟩
  · rintro ⟨l, hl, h⟩
    obtain ⟨j, hj, rfl⟩ := mem_atL hl
    exact ⟨j, by omega, hj, h⟩
/-- What isn't: at most 200 leases, of keys of at most 1000 bytes. -/
theorem greatB_not {t : List Le} (h : greatB t = false) : t.length ≤ 200 ∧ ∀ l ∈ t, l.f3.size ≤ 1000 := by
  unfold greatB at h
  rw [Bool.or_eq_false_iff, decide_eq_false_iff_not, decide_eq_false_iff_not] at h
  exact ⟨by omega, fun l hl => by
    rcases Nat.lt_or_ge 1000 l.f3.size with c | c
    · exact absurd ⟨l, hl, c⟩ h.1
    · exact c⟩
/-- Few leases, of short keys. -/
def Small (t : List Le) : Prop := t.length ≤ 500 ∧ ∀ l ∈ t, l.f3.size ≤ maxLen
theorem small_of {t : List Le} (h : greatB t = false) : Small t := by
  obtain ⟨h1, h2⟩ := greatB_not h
  exact ⟨by omega, fun l hl => by have := h2 l hl; simp only [maxLen]; omega⟩
theorem tab_small {t : List Le} (h : Tab t) : Small t := by
  refine ⟨by have := h.1; omega, fun l hl => ?_⟩
  have hk := (leaseB_of (h.2.1 l hl)).2.2.2.2.2.2
  unfold keyB at hk
  simp only [Bool.and_eq_true, Bool.or_eq_true, decide_eq_true_iff] at hk
  simp only [maxLen]; omega
theorem goodL_len (t : List Le) : (goodL t).length ≤ t.length := by unfold goodL; split <;> simp

/-! ### queue.byEnd$1 -/
theorem queue_byEnd_1_s (a b : Le) : queue_byEnd_1.f a.f0 a.f1 a.f2 a.f3 b.f0 b.f1 b.f2 b.f3 = some (decide (bef a b)) := by
  unfold queue_byEnd_1.f
  by_cases h : a.f2 < b.f2
  · rw [if_pos h, decide_eq_true (.inl h)]
  · rw [if_neg h]
    by_cases e : a.f2 = b.f2
    · rw [if_pos e]
      congr 1
      exact decide_eq_decide.2 ⟨fun h => .inr ⟨e, h⟩, fun h => by unfold bef at h; omega⟩
    · rw [if_neg e, decide_eq_false (by unfold bef; omega)]

/-! ### (boarder/queue.sorter).sorted -/
/-- The rounds that sorting takes. -/
def sortK : Nat → Nat | 0 => 1 | d + 1 => sortK d + 600
theorem sortK_mono {m n : Nat} (h : m ≤ n) : sortK m ≤ sortK n := by
  induction n with
  | zero => rw [show m = 0 from by omega]; exact Nat.le_refl _
  | succ n ih =>
    rcases Nat.lt_or_ge n m with c | c
    · rw [show m = n + 1 from by omega]; exact Nat.le_refl _
    · have := ih c; rw [sortK]; omega
theorem queue_sorted_l1 (t out : List Le) (ho : out.length ≤ 500) (ht : t.length ≤ 500) (a : Le) (i : Nat) (hi : i < t.length) (R : List Le) (K : Nat) (H : ∀ k, K ≤ k → queue_sorter_sorted.l0 k (insL a out) t (t.length : Int) ((i + 1 : Nat) : Int) = some R) (d : Nat) :
    ∀ (j k : Nat), j + d = out.length → out.take j ++ insL a (out.drop j) = insL a out → K + d + 1 ≤ k → queue_sorter_sorted.l1 k out t (t.length : Int) (i : Int) (out.length : Int) (j : Int) a.f0 a.f1 a.f2 a.f3 = some R := by
  have hwi : wrap64 ((i : Int) + 1) = ((i + 1 : Nat) : Int) := by unfold wrap64; omega
  have hle : (⟨a.f0, a.f1, a.f2, a.f3⟩ : Le) = a := rfl
  induction d with
  | zero =>
    intro j k hj he hk
    obtain ⟨k, rfl⟩ : ∃ m, k = m + 1 := ⟨k - 1, by omega⟩
    rw [List.take_of_length_le (by omega), List.drop_eq_nil_of_le (by omega), insL] at he
    rw [queue_sorter_sorted.l1, if_neg (by omega), if_pos (by omega), hle, he, hwi]
    exact H k (by omega)
  | succ d ih =>
    intro j k hj he hk
    obtain ⟨k, rfl⟩ : ∃ m, k = m + 1 := ⟨k - 1, by omega⟩
    have hwj : wrap64 ((j : Int) + 1) = ((j + 1 : Nat) : Int) := by unfold wrap64; omega
    have hd : out.drop j = atL out j :: out.drop (j + 1) := by rw [atL_get (by omega)]; exact List.drop_eq_getElem_cons (by omega)
    have l1 : (out.take j).length ≤ 500 := by rw [List.length_take]; omega
    have l2 : (out.drop j).length ≤ 500 := by rw [List.length_drop]; omega
    rw [queue_sorter_sorted.l1, if_pos (by omega), if_pos (by omega), if_pos (by omega), show rd_T34 out (j : Int) = atL out j from rfl, queue_byEnd_1_s, hle, hwi, hwj]
    simp only [Option.bind_some, Int.toNat_natCast, List.nil_append]
    by_cases c : bef a (atL out j)
    · rw [if_pos (decide_eq_true c), if_pos (by omega), if_pos (by rw [List.length_nil]; omega), if_pos (by omega), if_pos (by rw [List.length_append, List.length_singleton]; omega)]
      have e : (out.take j ++ [a]) ++ out.drop j = insL a out := by
        rw [← he, hd, insL, if_pos c]; simp
      rw [e]
      exact H k (by omega)
    · rw [if_neg (by rw [decide_eq_true_iff]; exact c)]
      refine ih (j + 1) k (by omega) ?_ (by omega)
      rw [← he, hd, insL, if_neg c, List.take_add_one, List.getElem?_eq_getElem (by omega : j < out.length), atL_get (by omega), List.append_assoc]
      rfl
theorem queue_sorted_l0 (t : List Le) (ht : t.length ≤ 500) (d : Nat) : ∀ (i : Nat) (out : List Le) (k : Nat), i + d = t.length → out.length + d ≤ 500 → sortK d ≤ k → queue_sorter_sorted.l0 k out t (t.length : Int) (i : Int) = some (sortF out (t.drop i)) := by
  induction d with
  | zero =>
    intro i out k hi ho hk
    rw [sortK] at hk
    obtain ⟨k, rfl⟩ : ∃ m, k = m + 1 := ⟨k - 1, by omega⟩
    rw [queue_sorter_sorted.l0, if_neg (by omega), List.drop_eq_nil_of_le (by omega), sortF]
  | succ d ih =>
    intro i out k hi ho hk
    rw [sortK] at hk
    obtain ⟨k, rfl⟩ : ∃ m, k = m + 1 := ⟨k - 1, by omega⟩
    rw [queue_sorter_sorted.l0, if_pos (by omega), if_pos (by omega), if_pos (by omega), show rd_T34 t (i : Int) = atL t i from rfl, List.drop_eq_getElem_cons (i := i) (by omega), ← atL_get (by omega), sortF]
    exact queue_sorted_l1 t out (by omega) ht (atL t i) i (by omega) _ (sortK d) (fun k hk => ih (i + 1) (insL (atL t i) out) k (by omega) (by rw [insL_len]; omega) hk) out.length 0 k (by omega) (by simp) (by omega)
theorem queue_sorted_s (t : List Le) (ht : t.length ≤ 64) (k : Nat) (hk : 40000 ≤ k) : queue_sorter_sorted.f k () t = some (sortL t) := by
  have h1 := sortK_mono ht
  have h2 : sortK 64 = 38401 := by decide
  have e := queue_sorted_l0 t (by omega) t.length 0 [] k (by omega) (by simp; omega) (by omega)
  rw [List.drop_zero] at e
  exact e

/-! ### addr.Right -/
theorem addr_Right_s (a : Int) : addr_Right.f a = some (decide (0 ≤ a ∧ a ≤ 4294967295)) := by
  unfold addr_Right.f
  by_cases h : a ≥ 0
  · rw [if_pos h]; congr 1; exact decide_eq_decide.2 ⟨fun h2 => ⟨h, h2⟩, fun h2 => h2.2⟩
  · rw [if_neg h, decide_eq_false (by omega)]

/-! ### key.Right -/
theorem key_Right_s (s : ByteArray) (hs : s.size ≤ maxLen) : key_Right.f s = some (keyB s) := by
  unfold key_Right.f keyB
  simp only [maxLen] at hs
  have hw : wrap64 ((s.size : Int) - 1) = (s.size : Int) - 1 := by unfold wrap64; omega
  rw [hw]
  clear hw
  by_cases h0 : (s.size : Int) = 0
  · rw [if_pos h0, decide_eq_false (show ¬ 3 ≤ s.size by omega)]; rfl
  · rw [if_neg h0, if_pos (by omega)]
    by_cases h1 : bt s 0 = 105
    · rw [if_pos h1]
      by_cases h2 : (s.size : Int) - 1 ≥ 2
      · rw [if_pos h2, decide_eq_true (show 3 ≤ s.size by omega), Bool.true_and]
        congr 1
        rw [Bool.eq_iff_iff, decide_eq_true_iff, Bool.or_eq_true, decide_eq_true_iff, decide_eq_true_iff]
        constructor
        · intro h; exact .inl ⟨h1, by omega⟩
        · rintro (⟨_, h⟩ | ⟨h, _⟩) <;> omega
      · rw [if_neg h2, decide_eq_false (show ¬ 3 ≤ s.size by omega)]; rfl
    · rw [if_neg h1]
      by_cases h3 : bt s 0 = 104
      · rw [if_pos h3]
        by_cases h2 : (s.size : Int) - 1 ≥ 2
        · rw [if_pos h2, decide_eq_true (show 3 ≤ s.size by omega), Bool.true_and]
          congr 1
          rw [Bool.eq_iff_iff, decide_eq_true_iff, Bool.or_eq_true, decide_eq_true_iff, decide_eq_true_iff]
          constructor
          · intro h; exact .inr ⟨h3, by omega⟩
          · rintro (⟨h, _⟩ | ⟨_, h⟩) <;> omega
        · rw [if_neg h2, decide_eq_false (show ¬ 3 ≤ s.size by omega)]; rfl
      · rw [if_neg h3, decide_eq_false (show ¬ (bt s 0 = 105 ∧ s.size ≤ 256) from fun h => h1 h.1), decide_eq_false (show ¬ (bt s 0 = 104 ∧ s.size ≤ 18) from fun h => h3 h.1), Bool.or_false, Bool.and_false]

/-! ### record.Right -/
theorem record_Right_s (l : Le) (hs : l.f3.size ≤ maxLen) : record_Right.f l.f0 l.f1 l.f2 l.f3 = some (leaseB l) := by
  unfold record_Right.f leaseB
  rw [addr_Right_s, key_Right_s l.f3 hs]
  simp only [Option.bind_some]
  by_cases h0 : 0 ≤ l.f0 ∧ l.f0 ≤ 4294967295
  · rw [decide_eq_true h0, if_pos rfl]
    by_cases h1 : l.f1 ≥ 1
    · rw [if_pos h1]
      by_cases h2 : l.f1 ≤ 3
      · rw [if_pos h2]
        by_cases h3 : l.f2 ≥ 0
        · rw [if_pos h3]
          by_cases h4 : l.f2 ≤ 1125899906842624
          · rw [if_pos h4, decide_eq_true ⟨h0.1, h0.2, h1, h2, h3, h4⟩, Bool.true_and]
          · rw [if_neg h4, decide_eq_false (fun h => h4 h.2.2.2.2.2)]; rfl
        · rw [if_neg h3, decide_eq_false (fun h => h3 h.2.2.2.2.1)]; rfl
      · rw [if_neg h2, decide_eq_false (fun h => h2 h.2.2.2.1)]; rfl
    · rw [if_neg h1, decide_eq_false (fun h => h1 h.2.2.1)]; rfl
  · rw [decide_eq_false h0, if_neg (by simp), decide_eq_false (fun h => h0 ⟨h.1, h.2.1⟩)]; rfl

/-! ### table.Right -/
open Classical in
theorem table_Right_l (t : List Le) (ht : t.length ≤ 500) (hk : ∀ l ∈ t, l.f3.size ≤ maxLen) (d : Nat) : ∀ (i : Nat) (k : Nat), i + d = t.length → d < k →
    table_Right.l0 k t t (t.length : Int) i = some (decide (t.length ≤ 64 ∧ ∀ j, i ≤ j → j < t.length → leaseB (atL t j) = true ∧ (0 < j → (atL t (j - 1)).f0 < (atL t j).f0))) := by
  induction d with
  | zero =>
    intro i k hi hk
    obtain ⟨k, rfl⟩ : ∃ m, k = m + 1 := ⟨k - 1, by omega⟩
    rw [table_Right.l0, if_neg (by omega)]
    congr 1; exact decide_eq_decide.2 ⟨fun h => ⟨by omega, fun j a b => by omega⟩, fun h => by omega⟩
  | succ d ih =>
    intro i k hi hkk
    obtain ⟨k, rfl⟩ : ∃ m, k = m + 1 := ⟨k - 1, by omega⟩
    have hw : wrap64 ((i : Int) + 1) = ((i + 1 : Nat) : Int) := by unfold wrap64; omega
    have ihh := ih (i + 1) k (by omega) (by omega)
    rw [table_Right.l0, if_pos (by omega), if_pos (by omega), if_pos (by omega), show rd_T34 t (i : Int) = atL t i from rfl, record_Right_s _ (hk _ (atL_mem (by omega)))]
    simp only [Option.bind_some]
    by_cases h : leaseB (atL t i) = true
    · rw [if_pos h]
      by_cases h0 : (i : Int) > 0
      · have hw2 : wrap64 ((i : Int) - 1) = ((i - 1 : Nat) : Int) := by unfold wrap64; omega
        rw [if_pos h0, hw2, if_pos (by omega), if_pos (by omega), show rd_T34 t ((i - 1 : Nat) : Int) = atL t (i - 1) from rfl]
        by_cases h1 : (atL t (i - 1)).f0 ≥ (atL t i).f0
        · rw [if_pos h1, decide_eq_false]
          rintro ⟨_, h2⟩
          have := (h2 i (by omega) (by omega)).2 (by omega)
          omega
        · rw [if_neg h1, hw, ihh]
          congr 1
          refine decide_eq_decide.2 ⟨fun h2 => ⟨h2.1, fun j a b => ?_⟩, fun h2 => ⟨h2.1, fun j a b => h2.2 j (by omega) b⟩⟩
          rcases Nat.eq_or_lt_of_le a with c | c
          · subst c; exact ⟨h, fun _ => by omega⟩
          · exact h2.2 j (by omega) b
      · rw [if_neg h0, hw, ihh]
        congr 1
        refine decide_eq_decide.2 ⟨fun h2 => ⟨h2.1, fun j a b => ?_⟩, fun h2 => ⟨h2.1, fun j a b => h2.2 j (by omega) b⟩⟩
        rcases Nat.eq_or_lt_of_le a with c | c
        · subst c; exact ⟨h, fun _ => by omega⟩
        · exact h2.2 j (by omega) b
    · rw [if_neg h, decide_eq_false]
      rintro ⟨_, h2⟩
      exact h (h2 i (by omega) (by omega)).1
theorem table_Right_s (t : List Le) (h : Small t) (k : Nat) (hk : t.length < k) : table_Right.f k t = some (decide (Tab t)) := by
  have e := table_Right_l t h.1 h.2 t.length 0 k (by omega) hk
  unfold table_Right.f
  rw [show table_Right.l0 k t t (t.length : Int) 0 = table_Right.l0 k t t (t.length : Int) ((0 : Nat) : Int) from rfl, e]
  congr 1
  refine decide_eq_decide.2 ?_
  rw [tab_iff]
  exact ⟨fun h => ⟨h.1, fun j b => h.2 j (by omega) b⟩, fun h => ⟨h.1, fun j _ b => h.2 j b⟩⟩

/-! ### queue.some -/
theorem queue_someG_l (p : PrG) (q : Le → Bool) (t : List Le) (ht : t.length ≤ 500) (hp : ∀ x ∈ t, p x.f0 x.f1 x.f2 x.f3 = some (q x)) (d : Nat) : ∀ (i : Nat) (out : List Le) (k : Nat), i + d = t.length → d < k → out.length + d ≤ 1000 → queue_someG.l0 p k out t (t.length : Int) i = some (out ++ (t.drop i).filter q) := by
  induction d with
  | zero =>
    intro i out k hi hk ho
    obtain ⟨k, rfl⟩ : ∃ m, k = m + 1 := ⟨k - 1, by omega⟩
    rw [queue_someG.l0, if_neg (by omega), List.drop_eq_nil_of_le (by omega)]; simp
  | succ d ih =>
    intro i out k hi hk ho
    obtain ⟨k, rfl⟩ : ∃ m, k = m + 1 := ⟨k - 1, by omega⟩
    have hw : wrap64 ((i : Int) + 1) = ((i + 1 : Nat) : Int) := by unfold wrap64; omega
    have hx : (⟨(atL t i).f0, (atL t i).f1, (atL t i).f2, (atL t i).f3⟩ : Le) = atL t i := rfl
    rw [queue_someG.l0, if_pos (by omega), if_pos (by omega), if_pos (by omega), show rd_T34 t (i : Int) = atL t i from rfl, hp _ (atL_mem (by omega)), hw, hx, List.drop_eq_getElem_cons (i := i) (by omega), ← atL_get (by omega)]
    simp only [Option.bind_some]
    rw [List.filter_cons]
    cases h1 : q (atL t i) with
    | true =>
      rw [if_pos rfl, if_pos (by omega), ih (i + 1) _ k (by omega) (by omega) (by simp; omega)]
      simp
    | false =>
      rw [if_neg (by simp), ih (i + 1) _ k (by omega) (by omega) (by omega)]
      simp
theorem queue_someG_s (p : PrG) (q : Le → Bool) (t : List Le) (h : Small t) (hp : ∀ x ∈ goodL t, p x.f0 x.f1 x.f2 x.f3 = some (q x)) (k : Nat) (hk : t.length < k) : queue_someG.f p k t = some ((goodL t).filter q) := by
  have := h.1
  unfold queue_someG.f
  rw [table_Right_s t h k hk]
  simp only [Option.bind_some]
  by_cases c : Tab t
  · rw [goodL_of c] at hp ⊢
    have e := queue_someG_l p q t (by omega) hp t.length 0 [] k (by omega) (by omega) (by simp; omega)
    rw [List.drop_zero, List.nil_append] at e
    rw [decide_eq_true c, if_pos rfl]
    exact e
  · rw [decide_eq_false c, if_neg (by simp)]
    unfold goodL
    rw [if_neg c]; rfl

/-! ### queue.ByEnd -/
theorem filt_len (t : List Le) (q : Le → Bool) : ((goodL t).filter q).length ≤ 64 := Nat.le_trans (List.length_filter_le _ _) (goodL_tab t).1
theorem queue_ByEnd_s (t : List Le) (h : Small t) (k : Nat) (hk : 40000 ≤ k) : queue_ByEnd.f k t = some (endsL (goodL t)) := by
  have := h.1
  have e := queue_someG_s queue_ByEnd_1.f (fun l => decide (l.f1 ≠ 2)) t h (fun x _ => by unfold queue_ByEnd_1.f; congr 1; rw [Bool.eq_iff_iff]; simp) k (by omega)
  unfold queue_ByEnd.f queue_byEnd.f queue_some.f
  rw [e]
  simp only [Option.bind_some]
  rw [queue_sorted_s _ (filt_len t _) k hk]
  rfl

/-! ### table.Rests -/
theorem table_Rests_s (l : Le) (now : Int) : table_Rests.f l.f0 l.f1 l.f2 l.f3 now = some (restsB l now) := by
  unfold table_Rests.f restsB
  by_cases c : l.f1 = 3
  · rw [if_pos c]; congr 1; exact decide_eq_decide.2 ⟨fun h => ⟨c, h⟩, fun h => h.2⟩
  · rw [if_neg c, decide_eq_false (fun h => c h.1)]

/-! ### table.Holds -/
theorem table_Holds_s (l : Le) (now : Int) : table_Holds.f l.f0 l.f1 l.f2 l.f3 now = some (holdsB l now) := by
  unfold table_Holds.f holdsB
  by_cases c : l.f1 = 1
  · rw [if_pos c]; congr 1; exact decide_eq_decide.2 ⟨fun h => ⟨c, h⟩, fun h => h.2⟩
  · rw [if_neg c, decide_eq_false (fun h => c h.1)]

/-! ### queue.counts -/
theorem queue_counts_s (l : Le) (now : Int) : queue_counts.f l.f0 l.f1 l.f2 l.f3 now = some (countsB l now) := by
  unfold queue_counts.f countsB
  rw [table_Holds_s, table_Rests_s]
  simp only [Option.bind_some]
  cases holdsB l now <;> cases restsB l now <;> rfl

end Go.Proofs.Ytkjmfnijagdhpaa.PQueue
