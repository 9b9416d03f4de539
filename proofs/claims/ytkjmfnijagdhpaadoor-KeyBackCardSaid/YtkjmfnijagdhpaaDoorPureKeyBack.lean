/- The law KeyBack holds of the printed functions; no condition beyond the law's own. -/
import Derived.Test.YtkjmfnijagdhpaaDoorKeyRKeyBack
import Derived.Test.YtkjmfnijagdhpaaDoorKeyHex
import Derived.Test.YtkjmfnijagdhpaaDoorKeyOpt
import Derived.Test.YtkjmfnijagdhpaaDoorKeyS0
set_option linter.unusedVariables false
set_option linter.unusedSimpArgs false
namespace Go.Proofs.YtkjmfnijagdhpaaDoor.Pure
open Go.RowKit Go.Proofs.YtkjmfnijagdhpaaDoorW.PrintWords Go.Proofs.YtkjmfnijagdhpaaDoorW.PrintLast Go.Proofs.YtkjmfnijagdhpaaDoorW.PrintMore Go.Proofs.YtkjmfnijagdhpaaDoor.PKey

theorem KeyBack_one (s : ByteArray) (hs : s.size ≤ 1000) : Ev (fun k => boarderlaw07_KeyBack.j1 k s) true := by
  have hk : Ev (fun k => (boarderlaw07_knows.f k).bind fun t => some t) true := Ev.bind boarderlaw07_knows_s Ev.some'
  refine Ev.step (fun k => by rw [boarderlaw07_KeyBack.j1]) (Ev.bind (key_Parse_s s (by omega)) ?_)
  cases hp : parseL (bytesOf s) with
  | none => exact Ev.neg (fun h => by cases h) (Ev.pos (show (⟨#[]⟩ : ByteArray).toList = [] by rw [ByteArray.toList_eq]) hk)
  | some x =>
    obtain ⟨h1, h2, h3⟩ := text_parse (bytesOf_by s) hp
    have hx := keyL_len h2
    have hT : Ev (fun k => key_Text.f k (strOfNums x)) (s, 0) := by
      refine Ev.eqv (key_Text_s (strOfNums x) (by rw [str_size]; simp only [maxLen]; omega)) ?_
      rw [if_pos (by rw [keyB_str h3]; exact h2), bytes_str x h3, h1, str_bytes]
    exact Ev.pos (by first | trivial | rfl | (rw [ByteArray.toList_eq])) (Ev.bind hT (Ev.pos (by first | trivial | rfl | (rw [ByteArray.toList_eq])) (Ev.pos (by first | trivial | rfl | (rw [ByteArray.toList_eq])) hk)))
theorem KeyBack : boarderlaw07_KeyBack.Pure := by
  intro a s ha hs
  refine Ev.rounds ?_
  have hk : Ev (fun k => (boarderlaw07_knows.f k).bind fun t => some t) true := Ev.bind boarderlaw07_knows_s Ev.some'
  have hj : Ev (fun k => boarderlaw07_KeyBack.j0 k a s true) true := Ev.step (fun k => by rw [boarderlaw07_KeyBack.j0, if_pos rfl]) hk
  unfold boarderlaw07_KeyBack.f
  by_cases h : (a.size : Int) > 1000
  · exact Ev.pos h hj
  · refine Ev.neg h ?_
    by_cases h2 : (s.size : Int) > 1000
    · rw [decide_eq_true h2]; exact hj
    · rw [decide_eq_false h2]
      refine Ev.step (fun k => by rw [boarderlaw07_KeyBack.j0, if_neg (by decide)]) (Ev.bind (key_Text_s a (by simp only [maxLen]; omega)) ?_)
      by_cases hb : keyB a = true
      · have h3 := hb
        rw [keyB_L] at h3
        have h4 := keyL_len h3
        have h5 := textL_len (L := bytesOf a) (by intro e; rw [e] at h4; simp at h4)
        have hP : Ev (fun k => key_Parse.f k (strOfNums (textL (bytesOf a)))) (a, 0) := by
          refine Ev.eqv (key_Parse_s _ (by rw [str_size]; omega)) ?_
          rw [bytes_str _ (textL_by _ (bytesOf_by a)), parse_text (bytesOf_by a) h3]
          show (strOfNums (bytesOf a), (0 : Int)) = _
          rw [str_bytes]
        simp only [if_pos hb]
        exact Ev.pos (by first | trivial | rfl | (rw [ByteArray.toList_eq])) (Ev.bind hP (Ev.pos (by first | trivial | rfl | (rw [ByteArray.toList_eq])) (Ev.pos (by first | trivial | rfl | (rw [ByteArray.toList_eq])) (KeyBack_one s (by omega)))))
      · simp only [if_neg hb]
        exact Ev.neg (fun h => by cases h) (KeyBack_one s (by omega))

end Go.Proofs.YtkjmfnijagdhpaaDoor.Pure
