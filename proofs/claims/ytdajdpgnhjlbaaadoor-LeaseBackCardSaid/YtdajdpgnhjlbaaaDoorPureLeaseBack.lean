/- The law LeaseBack holds of the printed functions; no condition beyond the law's own. -/
import Derived.Test.YtdajdpgnhjlbaaaDoorLeaseRLeaseBack
import Derived.Test.YtdajdpgnhjlbaaaDoorLeaseTab
import Derived.Test.YtdajdpgnhjlbaaaDoorLeaseHex
import Derived.Test.YtdajdpgnhjlbaaaDoorLeaseLin
import Derived.Test.YtdajdpgnhjlbaaaDoorLeaseS1
set_option linter.unusedVariables false
set_option linter.unusedSimpArgs false
namespace Go.Proofs.YtdajdpgnhjlbaaaDoor.Pure
open Go.RowKit Go.Proofs.YtdajdpgnhjlbaaaDoorW.PrintWords Go.Proofs.YtdajdpgnhjlbaaaDoorW.PrintLast Go.Proofs.YtdajdpgnhjlbaaaDoorW.PrintMore Go.Proofs.YtdajdpgnhjlbaaaDoor.PLease

theorem LeaseBack : boarderlaw24_LeaseBack.Pure := by
  intro a1 a2 a3 a4 s hl hs
  refine Ev.rounds ?_
  have hk : Ev (fun k => (boarderlaw24_knows.f k).bind fun t => some t) true := Ev.bind boarderlaw24_knows_s Ev.some'
  have h1 : s.size ≤ 1000 → Ev (fun k => boarderlaw24_LeaseBack.j1 k s) true := fun hs => by
    refine Ev.step (fun k => by show boarderlaw24_LeaseBack.j1 (k + 1) _ = _; rw [boarderlaw24_LeaseBack.j1]) (Ev.bind (ltext_Lease_s s (by omega)) ?_)
    cases hp : leaseP (bytesOf s) with
    | none =>
      have e : (ansL none).2.2.2.1.toList = [] := by rw [ByteArray.toList_eq]; rfl
      exact Ev.neg (by decide) (Ev.pos (by rw [e]; rfl) hk)
    | some l =>
      obtain ⟨p1, p2⟩ := leaseP_some hp
      have hT := ltext_Line_s l (by have := lease_key p1; omega)
      rw [if_pos p1] at hT
      refine Ev.pos (by rfl) (Ev.bind hT (Ev.pos ?_ (Ev.pos (by rfl) hk)))
      rw [p2, str_bytes]
  have h0 : ∀ b : Bool, (b = false → s.size ≤ 1000 ∧ a4.size ≤ 1000) → Ev (fun k => boarderlaw24_LeaseBack.j0 k s b a1 a2 a3 a4) true := fun b hb => by
    refine Ev.step (fun k => by show boarderlaw24_LeaseBack.j0 (k + 1) _ _ _ _ _ _ = _; rw [boarderlaw24_LeaseBack.j0]) ?_
    cases b with
    | true => exact Ev.pos rfl hk
    | false =>
      obtain ⟨q1, q2⟩ := hb rfl
      have hT := ltext_Line_s ⟨a1, a2, a3, a4⟩ (by show a4.size ≤ _; omega)
      simp only at hT
      refine Ev.neg (by decide) (Ev.bind hT ?_)
      by_cases c : leaseB (⟨a1, a2, a3, a4⟩ : Le) = true
      · rw [if_pos c]
        have hn := line_len c
        refine Ev.pos (by rfl) (Ev.bind (Ev.eqv (ltext_Lease_s (strOfNums (lineL ⟨a1, a2, a3, a4⟩)) (by rw [str_size]; omega)) (by rw [bytes_str _ (line_by c), leaseP_line c])) (Ev.neg (by simp [ansL]) (Ev.pos (by rfl) (h1 q1))))
      · rw [if_neg c]
        exact Ev.neg (by decide) (h1 q1)
  unfold boarderlaw24_LeaseBack.f
  by_cases h : (a4.size : Int) > 1000
  · exact Ev.pos h (h0 true (fun e => by cases e))
  · exact Ev.neg h (h0 _ (fun e => by
      rw [decide_eq_false_iff_not] at e
      omega))

end Go.Proofs.YtdajdpgnhjlbaaaDoor.Pure
