/- The law QueueFree holds of the printed functions; no condition beyond the law's own. -/
import Derived.Test.YtkjmfnijagdhpaaQueueRQueueFree
import Derived.Test.YtkjmfnijagdhpaaPQueuex10
import Derived.Test.YtkjmfnijagdhpaaPQueuex5
import Derived.Test.YtkjmfnijagdhpaaPQueuex6
import Derived.Test.YtkjmfnijagdhpaaPQueuex8
import Derived.Test.YtkjmfnijagdhpaaQueueTab
import Derived.Test.YtkjmfnijagdhpaaQueueOrd
import Derived.Test.YtkjmfnijagdhpaaQueueS1
set_option linter.unusedVariables false
set_option linter.unusedSimpArgs false
namespace Go.Proofs.Ytkjmfnijagdhpaa.PQueue
open Go.RowKit Go.Proofs.YtkjmfnijagdhpaaW.PrintWords Go.Proofs.YtkjmfnijagdhpaaW.PrintLast Go.Proofs.YtkjmfnijagdhpaaW.PrintMore

/-! ### boarderref01.Right -/
theorem boarderref01_Right_s (a : Int) : boarderref01_Right.f a = some (decide (0 ≤ a ∧ a ≤ 4294967295)) := by
  unfold boarderref01_Right.f
  by_cases h : a ≥ 0
  · rw [if_pos h]; congr 1; exact decide_eq_decide.2 ⟨fun h2 => ⟨h, by omega⟩, fun h2 => by omega⟩
  · rw [if_neg h, decide_eq_false (by omega)]

/-! ### boarderref07.Right -/
theorem boarderref07_Right_s (s : ByteArray) : boarderref07_Right.f s = some (keyB s) := by
  unfold boarderref07_Right.f keyB
  by_cases h0 : (s.size : Int) < 3
  · rw [if_pos h0, decide_eq_false (show ¬ 3 ≤ s.size by omega)]; rfl
  · rw [if_neg h0, if_pos (by omega), decide_eq_true (show 3 ≤ s.size by omega), Bool.true_and]
    by_cases h1 : bt s 0 = 105
    · rw [if_pos h1]
      by_cases h2 : (s.size : Int) ≤ 256
      · rw [if_pos h2, decide_eq_true (show bt s 0 = 105 ∧ s.size ≤ 256 from ⟨h1, by omega⟩)]; rfl
      · rw [if_neg h2, if_neg (by omega), decide_eq_false (by omega), decide_eq_false (by omega)]; rfl
    · rw [if_neg h1, decide_eq_false (show ¬ (bt s 0 = 105 ∧ s.size ≤ 256) from fun h => h1 h.1), Bool.false_or]
      by_cases h3 : bt s 0 = 104
      · rw [if_pos h3]
        congr 1
        exact decide_eq_decide.2 ⟨fun h => ⟨h3, by omega⟩, fun h => by omega⟩
      · rw [if_neg h3, decide_eq_false (fun h => h3 h.1)]

/-! ### boarderref09.Right -/
theorem boarderref09_Right_s (l : Le) : boarderref09_Right.f l.f0 l.f1 l.f2 l.f3 = some (leaseB l) := by
  unfold boarderref09_Right.f leaseB
  rw [boarderref01_Right_s, boarderref07_Right_s]
  simp only [Option.bind_some]
  by_cases h0 : 0 ≤ l.f0 ∧ l.f0 ≤ 4294967295
  · rw [decide_eq_true h0, if_pos rfl]
    cases hk : keyB l.f3 with
    | false => rw [if_neg (by simp), Bool.and_false]
    | true =>
      rw [if_pos rfl, Bool.and_true]
      have fin : (if l.f2 ≥ 0 then (some (decide (l.f2 ≤ 1125899906842624))) else (some false)) = some (decide (0 ≤ l.f2 ∧ l.f2 ≤ 1125899906842624)) := by
        by_cases h3 : l.f2 ≥ 0
        · rw [if_pos h3]; congr 1; exact decide_eq_decide.2 ⟨fun h => ⟨h3, h⟩, fun h => h.2⟩
        · rw [if_neg h3, decide_eq_false (fun h => h3 h.1)]
      rw [fin]
      by_cases c1 : l.f1 = 1
      · rw [if_pos c1]; congr 1; exact decide_eq_decide.2 ⟨fun h => ⟨h0.1, h0.2, by omega, by omega, h.1, h.2⟩, fun h => ⟨h.2.2.2.2.1, h.2.2.2.2.2⟩⟩
      · rw [if_neg c1]
        by_cases c2 : l.f1 = 2
        · rw [if_pos c2]; congr 1; exact decide_eq_decide.2 ⟨fun h => ⟨h0.1, h0.2, by omega, by omega, h.1, h.2⟩, fun h => ⟨h.2.2.2.2.1, h.2.2.2.2.2⟩⟩
        · rw [if_neg c2]
          by_cases c3 : l.f1 = 3
          · rw [if_pos c3]; congr 1; exact decide_eq_decide.2 ⟨fun h => ⟨h0.1, h0.2, by omega, by omega, h.1, h.2⟩, fun h => ⟨h.2.2.2.2.1, h.2.2.2.2.2⟩⟩
          · rw [if_neg c3, decide_eq_false (by omega)]
  · rw [decide_eq_false h0, if_neg (by simp), decide_eq_false (fun h => h0 ⟨h.1, h.2.1⟩)]; rfl

/-! ### boarderref12.Right -/
open Classical in
theorem boarderref12_Right_l (t : List Le) (ht : t.length ≤ maxLen) (d : Nat) : ∀ (i : Nat) (k : Nat), i + d = t.length → d < k →
    boarderref12_Right.l0 k t i = some (decide (∀ j, i ≤ j → j < t.length → leaseB (atL t j) = true ∧ (j + 1 < t.length → (atL t j).f0 < (atL t (j + 1)).f0))) := by
  simp only [maxLen] at ht
  induction d with
  | zero =>
    intro i k hi hk
    obtain ⟨k, rfl⟩ : ∃ m, k = m + 1 := ⟨k - 1, by omega⟩
    rw [boarderref12_Right.l0, if_neg (by omega), decide_eq_true (fun j a b => by omega)]
  | succ d ih =>
    intro i k hi hkk
    obtain ⟨k, rfl⟩ : ∃ m, k = m + 1 := ⟨k - 1, by omega⟩
    have hw : wrap64 ((i : Int) + 1) = ((i + 1 : Nat) : Int) := by unfold wrap64; omega
    have ihh := ih (i + 1) k (by omega) (by omega)
    rw [boarderref12_Right.l0, if_pos (by omega), if_pos (by omega), show rd_T34 t (i : Int) = atL t i from rfl, boarderref09_Right_s, hw]
    simp only [Option.bind_some]
    by_cases h : leaseB (atL t i) = true
    · rw [if_pos h]
      by_cases h0 : ((i + 1 : Nat) : Int) < (t.length : Int)
      · rw [if_pos h0, if_pos (by omega), show rd_T34 t ((i + 1 : Nat) : Int) = atL t (i + 1) from rfl]
        by_cases h1 : (atL t (i + 1)).f0 ≤ (atL t i).f0
        · rw [if_pos h1, decide_eq_false]
          intro h2
          have := (h2 i (by omega) (by omega)).2 (by omega)
          omega
        · rw [if_neg h1, ihh]
          congr 1
          refine decide_eq_decide.2 ⟨fun h2 j a b => ?_, fun h2 j a b => h2 j (by omega) b⟩
          rcases Nat.eq_or_lt_of_le a with c | c
          · subst c; exact ⟨h, fun _ => by omega⟩
          · exact h2 j (by omega) b
      · rw [if_neg h0, ihh]
        congr 1
        refine decide_eq_decide.2 ⟨fun h2 j a b => ?_, fun h2 j a b => h2 j (by omega) b⟩
        rcases Nat.eq_or_lt_of_le a with c | c
        · subst c; exact ⟨h, fun _ => by omega⟩
        · exact h2 j (by omega) b
    · rw [if_neg h, decide_eq_false]
      intro h2
      exact h (h2 i (by omega) (by omega)).1
theorem boarderref12_Right_s (t : List Le) (ht : t.length ≤ maxLen) (k : Nat) (hk : t.length < k) : boarderref12_Right.f k t = some (decide (Tab t)) := by
  unfold boarderref12_Right.f
  by_cases c : (t.length : Int) > 64
  · rw [if_pos c, decide_eq_false (fun h => by have := h.1; omega)]
  · have e := boarderref12_Right_l t ht t.length 0 k (by omega) hk
    rw [if_neg c, show boarderref12_Right.l0 k t 0 = boarderref12_Right.l0 k t ((0 : Nat) : Int) from rfl, e]
    congr 1
    refine decide_eq_decide.2 ?_
    rw [tab_iff2]
    exact ⟨fun h => ⟨by omega, fun j b => h j (by omega) b⟩, fun h j _ b => h.2 j b⟩

/-! ### boarderref12.Good -/
theorem boarderref12_Good_s (t : List Le) (ht : t.length ≤ maxLen) (k : Nat) (hk : t.length < k) : boarderref12_Good.f k t = some (goodL t) := by
  unfold boarderref12_Good.f goodL
  rw [boarderref12_Right_s t ht k hk]
  simp only [Option.bind_some]
  by_cases c : Tab t
  · rw [decide_eq_true c, if_pos c]; rfl
  · rw [decide_eq_false c, if_neg c]; rfl

/-! ### boarderref12.Get -/
theorem boarderref12_Get_l (t : List Le) (ht : t.length ≤ maxLen) (a : Int) (d : Nat) : ∀ (i : Nat) (k : Nat), i + d = t.length → d < k → boarderref12_Get.l0 k t a i = some (ans (getL (t.drop i) a)) := by
  simp only [maxLen] at ht
  induction d with
  | zero =>
    intro i k hi hk
    obtain ⟨k, rfl⟩ : ∃ m, k = m + 1 := ⟨k - 1, by omega⟩
    rw [boarderref12_Get.l0, if_neg (by omega), List.drop_eq_nil_of_le (by omega)]; rfl
  | succ d ih =>
    intro i k hi hkk
    obtain ⟨k, rfl⟩ : ∃ m, k = m + 1 := ⟨k - 1, by omega⟩
    have hw : wrap64 ((i : Int) + 1) = ((i + 1 : Nat) : Int) := by unfold wrap64; omega
    rw [boarderref12_Get.l0, if_pos (by omega), if_pos (by omega), show rd_T34 t (i : Int) = atL t i from rfl, hw, List.drop_eq_getElem_cons (i := i) (by omega), ← atL_get (by omega)]
    unfold getL
    rw [List.find?_cons]
    by_cases h : (atL t i).f0 = a
    · rw [if_pos h, decide_eq_true h]; rfl
    · rw [if_neg h, decide_eq_false h, ih (i + 1) k (by omega) (by omega)]; rfl
theorem boarderref12_Get_s (t : List Le) (ht : t.length ≤ maxLen) (a : Int) (k : Nat) (hk : t.length < k) : boarderref12_Get.f k t a = some (ans (getL (goodL t) a)) := by
  unfold boarderref12_Get.f
  rw [boarderref12_Good_s t ht k hk]
  simp only [Option.bind_some]
  have hgl := goodL_len t
  have e := boarderref12_Get_l (goodL t) (by omega) a (goodL t).length 0 k (by omega) (by omega)
  rw [show boarderref12_Get.l0 k (goodL t) a 0 = boarderref12_Get.l0 k (goodL t) a ((0 : Nat) : Int) from rfl, e, List.drop_zero]

/-! ### table.Free -/
theorem table_Free_s (t : List Le) (h : Small t) (a : Int) (key : ByteArray) (now : Int) (k : Nat) (hk : t.length + 1 < k) : table_Free.f k t a key now = some (freeB (goodL t) a key now) := by
  unfold table_Free.f freeB
  rw [table_Get_s t h a k hk]
  simp only [Option.bind_some]
  cases getL (goodL t) a with
  | none => rfl
  | some l =>
    simp only [ans]
    rw [if_pos trivial, table_Rests_s, table_Holds_s]
    simp only [Option.bind_some]
    cases restsB l now <;> cases holdsB l now <;> simp
    rw [Bool.eq_iff_iff]; simp

end Go.Proofs.Ytkjmfnijagdhpaa.PQueue

namespace Go.Proofs.Ytkjmfnijagdhpaa.Pure
open Go.RowKit Go.Proofs.YtkjmfnijagdhpaaW.PrintWords Go.Proofs.YtkjmfnijagdhpaaW.PrintLast Go.Proofs.YtkjmfnijagdhpaaW.PrintMore Go.Proofs.Ytkjmfnijagdhpaa.PQueue

theorem free_none {g : List Le} {a : Int} (h : getL g a = none) (key : ByteArray) (m : Int) : freeB g a key m = true := by unfold freeB; rw [h]
theorem free_past {g : List Le} {a : Int} {l : Le} (h : getL g a = some l) (key : ByteArray) (m : Int) (c : countsB l m = false) : freeB g a key m = true := by
  unfold countsB at c
  rw [Bool.or_eq_false_iff] at c
  unfold freeB
  rw [h]
  show (!restsB l m && (!holdsB l m || decide (l.f3.toList = key.toList))) = true
  rw [c.1, c.2]; rfl
theorem free_not {g : List Le} {a : Int} {l : Le} (h : getL g a = some l) (key : ByteArray) (m : Int) (c : countsB l m = true) (hk : ¬ l.f3.toList = key.toList) : freeB g a key m = false := by
  unfold countsB at c
  rw [Bool.or_eq_true] at c
  unfold freeB
  rw [h]
  show (!restsB l m && (!holdsB l m || decide (l.f3.toList = key.toList))) = false
  rw [decide_eq_false hk]
  rcases c with c | c <;> rw [c]
  · cases restsB l m <;> rfl
  · rfl
theorem QueueFree : boarderlaw25_QueueFree.Pure := by
  intro t a key now ht h1 h2 h3
  have hm : t.length ≤ maxLen := ht.1
  refine ⟨t.length + 50000, ?_⟩
  have hj2 : boarderlaw25_QueueFree.j2 (t.length + 49998) t a key now (untilL (goodL t) a now) false = some true := by
    rw [show t.length + 49998 = (t.length + 49997) + 1 from rfl, boarderlaw25_QueueFree.j2, if_neg (by simp), boarderlaw25_knows_s (t.length + 49997) (by omega)]; rfl
  have hj : ∀ x, (x = false → greatB t = false ∧ 0 ≤ now ∧ now ≤ 1125899906842624) → boarderlaw25_QueueFree.j0 (t.length + 50000) t a key now x = some true := by
    intro x hx
    rw [show t.length + 50000 = (t.length + 49999) + 1 from rfl, boarderlaw25_QueueFree.j0]
    cases x with
    | true => rw [if_pos rfl, boarderlaw25_knows_s (t.length + 49999) (by omega)]; rfl
    | false =>
      obtain ⟨hg, n0, n1⟩ := hx rfl
      have hs := small_of hg
      have h500 := hs.1
      have hT := goodL_tab t
      rw [if_neg (by simp), queue_Until_s t hs a now _ (by omega), boarderref12_Get_s t hm a _ (by omega)]
      simp only [Option.bind_some]
      rw [table_Free_s t hs a key _ _ (by omega)]
      simp only [Option.bind_some]
      have hw0 : wrap64 (now + 0) = now := by unfold wrap64; omega
      have hj1 : ∀ ok y0 y1 y2 y3, untilL (goodL t) a now = 0 → boarderlaw25_QueueFree.j1 (t.length + 49999) t a key now (untilL (goodL t) a now) ok (decide (untilL (goodL t) a now < 0)) y0 y1 y2 y3 = some true := by
        intro ok y0 y1 y2 y3 hu
        rw [show t.length + 49999 = (t.length + 49998) + 1 from rfl, boarderlaw25_QueueFree.j1, if_neg (by rw [hu]; decide), if_neg (by rw [hu]; decide)]
        exact hj2
      cases hq : getL (goodL t) a with
      | none =>
        have hu : untilL (goodL t) a now = 0 := by unfold untilL; rw [hq]
        rw [free_none hq, if_pos rfl]
        exact hj1 _ _ _ _ _ hu
      | some l =>
        have hb := leaseB_of (hT.2.1 l (getL_mem hq).1)
        cases hc : countsB l now with
        | false =>
          have hu : untilL (goodL t) a now = 0 := by unfold untilL; rw [hq]; show (if countsB l now = true then _ else _) = _; rw [hc]; rfl
          have hf : freeB (goodL t) a key (wrap64 (now + untilL (goodL t) a now)) = true := by rw [hu, hw0]; exact free_past hq key now hc
          rw [hf, if_pos rfl]
          exact hj1 _ _ _ _ _ hu
        | true =>
          have e := (counts_iff l now hb.2.2.1 hb.2.2.2.1).1 hc
          have hw1 : wrap64 (l.f2 - now) = l.f2 - now := by unfold wrap64; omega
          have hu : untilL (goodL t) a now = l.f2 - now := by unfold untilL; rw [hq]; show (if countsB l now = true then _ else _) = _; rw [hc, if_pos rfl, hw1]
          have hw2 : wrap64 (now + (l.f2 - now)) = l.f2 := by unfold wrap64; omega
          have hw3 : wrap64 (l.f2 - 1) = l.f2 - 1 := by unfold wrap64; omega
          have hcf : countsB l l.f2 = false := Bool.eq_false_iff.2 (fun h => by have := (counts_iff l l.f2 hb.2.2.1 hb.2.2.2.1).1 h; omega)
          have hcl : countsB l (l.f2 - 1) = true := (counts_iff l (l.f2 - 1) hb.2.2.1 hb.2.2.2.1).2 ⟨e.1, by omega⟩
          have hf : freeB (goodL t) a key (wrap64 (now + untilL (goodL t) a now)) = true := by rw [hu, hw2]; exact free_past hq key _ hcf
          rw [hf, if_pos rfl]
          show boarderlaw25_QueueFree.j1 (t.length + 49999) t a key now (untilL (goodL t) a now) true (decide (untilL (goodL t) a now < 0)) l.f0 l.f1 l.f2 l.f3 = some true
          rw [show t.length + 49999 = (t.length + 49998) + 1 from rfl, boarderlaw25_QueueFree.j1, if_neg (by rw [hu, decide_eq_true_iff]; omega), if_pos (by rw [hu]; omega), if_pos rfl]
          by_cases hkk : l.f3.toList = key.toList
          · rw [show (l.f3.toList != key.toList) = false from by simp [hkk]]
            exact hj2
          · rw [show (l.f3.toList != key.toList) = true from by simp [hkk], show t.length + 49998 = (t.length + 49997) + 1 from rfl, boarderlaw25_QueueFree.j2, if_pos rfl, hu, hw2, hw3, table_Free_s t hs a key _ _ (by omega), table_Free_s t hs a key _ _ (by omega), free_not hq key _ hcl hkk, free_not hq key _ hc hkk, boarderlaw25_knows_s (t.length + 49997) (by omega)]
            rfl
  unfold boarderlaw25_QueueFree.f
  rw [boarderlaw12_Great_s t hm _ (by omega)]
  simp only [Option.bind_some]
  cases hg : greatB t with
  | true => rw [if_pos rfl]; exact hj true (fun h => by cases h)
  | false =>
    rw [if_neg (by simp)]
    by_cases c : (key.size : Int) > 1000
    · rw [if_pos c]; exact hj true (fun h => by cases h)
    · rw [if_neg c]
      by_cases d : now < 0
      · rw [if_pos d]; exact hj true (fun h => by cases h)
      · rw [if_neg d]
        exact hj _ (fun h => ⟨hg, by omega, by have := of_decide_eq_false h; omega⟩)

end Go.Proofs.Ytkjmfnijagdhpaa.Pure
