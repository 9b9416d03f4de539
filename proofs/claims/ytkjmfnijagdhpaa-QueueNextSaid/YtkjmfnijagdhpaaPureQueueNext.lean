/- The law QueueNext holds of the printed functions; no condition beyond the law's own. -/
import Derived.Test.YtkjmfnijagdhpaaQueueRQueueNext
import Derived.Test.YtkjmfnijagdhpaaQueueTab
import Derived.Test.YtkjmfnijagdhpaaQueueOrd
import Derived.Test.YtkjmfnijagdhpaaQueueS1
set_option linter.unusedVariables false
set_option linter.unusedSimpArgs false
namespace Go.Proofs.Ytkjmfnijagdhpaa.Pure
open Go.RowKit Go.Proofs.YtkjmfnijagdhpaaW.PrintWords Go.Proofs.YtkjmfnijagdhpaaW.PrintLast Go.Proofs.YtkjmfnijagdhpaaW.PrintMore Go.Proofs.Ytkjmfnijagdhpaa.PQueue

theorem QueueNext : boarderlaw25_QueueNext.Pure := by
  intro t now bw ht h1 h2
  have hm : t.length ≤ maxLen := ht.1
  refine ⟨t.length + 50000, ?_⟩
  have hk := boarderlaw25_knows_s (t.length + 50000) (by omega)
  have hk2 := boarderlaw25_knows_s (t.length + 49999) (by omega)
  unfold boarderlaw25_QueueNext.f
  rw [boarderlaw12_Great_s t hm _ (by omega)]
  simp only [Option.bind_some]
  cases hg : greatB t with
  | true => rw [if_pos rfl, hk]; rfl
  | false =>
    have hs := small_of hg
    have hT := goodL_tab t
    rw [if_neg (by simp), queue_Next_s t hs now _ (by omega), queue_Ended_s t hs now bw _ (by omega), hk]
    simp only [Option.bind_some]
    have hmem : ∀ x, x ∈ laterL (goodL t) now ↔ x ∈ endsL (goodL t) ∧ now < x.f2 := fun x => by unfold laterL; rw [List.mem_filter, decide_eq_true_iff]
    have hord : PQueue.Ord (laterL (goodL t) now) := ord_filter (ends_ord hT) _
    have hem : ∀ b x, x ∈ endedL (goodL t) now b ↔ x ∈ endsL (goodL t) ∧ now < x.f2 ∧ x.f2 ≤ b := fun b x => by unfold endedL; rw [List.mem_filter, decide_eq_true_iff]
    cases hL : laterL (goodL t) now with
    | nil =>
      rw [hL] at hmem
      have e : endedL (goodL t) now bw = [] := List.eq_nil_iff_forall_not_mem.2 (fun x hx => by
        have := (hem bw x).1 hx
        exact absurd ((hmem x).2 ⟨this.1, this.2.1⟩) (by simp))
      rw [e]
      simp [nextA]
    | cons h r =>
      rw [hL] at hmem hord
      unfold PQueue.Ord at hord
      rw [List.pairwise_cons] at hord
      obtain ⟨m1, m2⟩ := (hmem h).1 (by simp)
      have j : boarderlaw25_QueueNext.j0 (t.length + 50000) t now h.f2 false = some true := by
        rw [show t.length + 50000 = (t.length + 49999) + 1 from rfl, boarderlaw25_QueueNext.j0, if_neg (by simp), if_pos (by omega), queue_Ended_s t hs now h.f2 _ (by omega)]
        simp only [Option.bind_some]
        have hin : h ∈ endedL (goodL t) now h.f2 := (hem h.f2 h).2 ⟨m1, m2, Int.le_refl _⟩
        have := List.length_pos_of_mem hin
        rw [if_pos (by omega), hk2]; rfl
      show (if true = true then (if bw ≥ now then (if bw < h.f2 then boarderlaw25_QueueNext.j0 (t.length + 50000) t now h.f2 (((endedL (goodL t) now bw).length : Int) != 0) else boarderlaw25_QueueNext.j0 (t.length + 50000) t now h.f2 false) else boarderlaw25_QueueNext.j0 (t.length + 50000) t now h.f2 false) else _) = some true
      rw [if_pos rfl]
      by_cases c1 : bw ≥ now
      · rw [if_pos c1]
        by_cases c2 : bw < h.f2
        · have e : endedL (goodL t) now bw = [] := List.eq_nil_iff_forall_not_mem.2 (fun x hx => by
            have := (hem bw x).1 hx
            rcases List.mem_cons.1 ((hmem x).2 ⟨this.1, this.2.1⟩) with q | q
            · rw [q] at this; omega
            · have := bef_le (hord.1 x q); omega)
          rw [if_pos c2, e]
          exact j
        · rw [if_neg c2]; exact j
      · rw [if_neg c1]; exact j

end Go.Proofs.Ytkjmfnijagdhpaa.Pure
