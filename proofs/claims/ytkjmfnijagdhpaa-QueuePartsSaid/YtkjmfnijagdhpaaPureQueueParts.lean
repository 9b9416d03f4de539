/- The law QueueParts holds of the printed functions; no condition beyond the law's own. -/
import Derived.Test.YtkjmfnijagdhpaaQueueRQueueParts
import Derived.Test.YtkjmfnijagdhpaaPQueuex7
import Derived.Test.YtkjmfnijagdhpaaQueueTab
import Derived.Test.YtkjmfnijagdhpaaQueueOrd
import Derived.Test.YtkjmfnijagdhpaaQueueS1
set_option linter.unusedVariables false
set_option linter.unusedSimpArgs false
namespace Go.Proofs.Ytkjmfnijagdhpaa.PQueue
open Go.RowKit Go.Proofs.YtkjmfnijagdhpaaW.PrintWords Go.Proofs.YtkjmfnijagdhpaaW.PrintLast Go.Proofs.YtkjmfnijagdhpaaW.PrintMore

/-! ### boarderref10.SameLeases -/
theorem boarderref10_SameLeases_l (t : List Le) (ht : t.length ≤ maxLen) (d : Nat) : ∀ (i : Nat) (k : Nat), i + d = t.length → d < k → boarderref10_SameLeases.l0 k t t i = some true := by
  simp only [maxLen] at ht
  induction d with
  | zero =>
    intro i k hi hk
    obtain ⟨k, rfl⟩ : ∃ m, k = m + 1 := ⟨k - 1, by omega⟩
    rw [boarderref10_SameLeases.l0, if_neg (by omega)]
  | succ d ih =>
    intro i k hi hkk
    obtain ⟨k, rfl⟩ : ∃ m, k = m + 1 := ⟨k - 1, by omega⟩
    have hw : wrap64 ((i : Int) + 1) = ((i + 1 : Nat) : Int) := by unfold wrap64; omega
    rw [boarderref10_SameLeases.l0, if_pos (by omega), if_pos (by omega), if_pos (by omega), if_neg (by simp), hw]
    exact ih (i + 1) k (by omega) (by omega)
theorem boarderref10_SameLeases_s (t : List Le) (ht : t.length ≤ maxLen) (k : Nat) (hk : t.length < k) : boarderref10_SameLeases.f k t t = some true := by
  unfold boarderref10_SameLeases.f
  rw [if_pos rfl]
  exact boarderref10_SameLeases_l t ht t.length 0 k (by omega) hk

end Go.Proofs.Ytkjmfnijagdhpaa.PQueue

namespace Go.Proofs.Ytkjmfnijagdhpaa.Pure
open Go.RowKit Go.Proofs.YtkjmfnijagdhpaaW.PrintWords Go.Proofs.YtkjmfnijagdhpaaW.PrintLast Go.Proofs.YtkjmfnijagdhpaaW.PrintMore Go.Proofs.Ytkjmfnijagdhpaa.PQueue

theorem QueueParts : boarderlaw25_QueueParts.Pure := by
  intro t a b c ht h1 h2 h3
  have hm : t.length ≤ maxLen := ht.1
  refine ⟨t.length + 50000, ?_⟩
  have hj : ∀ x, (x = false → greatB t = false ∧ a ≤ b ∧ b ≤ c) → boarderlaw25_QueueParts.j0 (t.length + 50000) t a b c x = some true := by
    intro x hx
    rw [show t.length + 50000 = (t.length + 49999) + 1 from rfl, boarderlaw25_QueueParts.j0]
    have hk := boarderlaw25_knows_s (t.length + 49999) (by omega)
    cases x with
    | true => rw [if_pos rfl, hk]; rfl
    | false =>
      obtain ⟨hg, hab, hbc⟩ := hx rfl
      have hs := small_of hg
      have hT := goodL_tab t
      have h1 := ends_len (goodL t)
      have h2 := hT.1
      have l1 : (endedL (goodL t) a b).length ≤ (endsL (goodL t)).length := List.length_filter_le _ _
      have l2 : (endedL (goodL t) b c).length ≤ (endsL (goodL t)).length := List.length_filter_le _ _
      have l3 : (endedL (goodL t) a c).length ≤ (endsL (goodL t)).length := List.length_filter_le _ _
      rw [if_neg (by simp)]
      simp only [Option.bind_some, List.nil_append]
      rw [queue_Ended_s t hs a b _ (by omega), queue_Ended_s t hs b c _ (by omega), queue_Ended_s t hs a c _ (by omega)]
      simp only [Option.bind_some]
      rw [if_pos (by rw [List.length_nil]; omega), if_pos (by omega), ended_parts hT hab hbc, boarderref10_SameLeases_s (endedL (goodL t) a c) (by simp only [maxLen]; omega) _ (by omega), hk]
      simp
  unfold boarderlaw25_QueueParts.f
  rw [boarderlaw12_Great_s t hm _ (by omega)]
  simp only [Option.bind_some]
  cases hg : greatB t with
  | true => rw [if_pos rfl]; exact hj true (fun h => by cases h)
  | false =>
    rw [if_neg (by simp)]
    by_cases q : a > b
    · rw [if_pos q]; exact hj true (fun h => by cases h)
    · rw [if_neg q]
      exact hj _ (fun h => ⟨hg, by omega, by have := of_decide_eq_false h; omega⟩)

end Go.Proofs.Ytkjmfnijagdhpaa.Pure
