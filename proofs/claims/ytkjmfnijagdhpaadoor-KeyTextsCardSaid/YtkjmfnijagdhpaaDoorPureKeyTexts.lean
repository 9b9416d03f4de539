/- The law KeyTexts holds of the printed functions; no condition beyond the law's own. -/
import Derived.Test.YtkjmfnijagdhpaaDoorKeyRKeyTexts
import Derived.Test.YtkjmfnijagdhpaaDoorPKeyx7
import Derived.Test.YtkjmfnijagdhpaaDoorKeyHex
import Derived.Test.YtkjmfnijagdhpaaDoorKeyOpt
import Derived.Test.YtkjmfnijagdhpaaDoorKeyS0
set_option linter.unusedVariables false
set_option linter.unusedSimpArgs false
namespace Go.Proofs.YtkjmfnijagdhpaaDoor.PKey
open Go.RowKit Go.Proofs.YtkjmfnijagdhpaaDoorW.PrintWords Go.Proofs.YtkjmfnijagdhpaaDoorW.PrintLast Go.Proofs.YtkjmfnijagdhpaaDoorW.PrintMore

/-! ### boarderref07.Right -/
theorem boarderref07_Right_s (s : ByteArray) : boarderref07_Right.f s = some (keyB s) := by
  unfold boarderref07_Right.f keyB
  by_cases h0 : (s.size : Int) < 3
  · rw [if_pos h0, decide_eq_false (show ¬ 3 ≤ s.size by omega)]; rfl
  · rw [if_neg h0, if_pos (by omega), decide_eq_true (show 3 ≤ s.size by omega), Bool.true_and]
    by_cases h1 : bt s 0 = 105
    · rw [if_pos h1]
      by_cases h2 : (s.size : Int) ≤ 256
      · rw [if_pos h2, decide_eq_true (show bt s 0 = 105 ∧ s.size ≤ 256 from ⟨h1, by omega⟩)]; rfl
      · rw [if_neg h2, if_neg (by omega), decide_eq_false (by omega), decide_eq_false (by omega)]; rfl
    · rw [if_neg h1, decide_eq_false (show ¬ (bt s 0 = 105 ∧ s.size ≤ 256) from fun h => h1 h.1), Bool.false_or]
      by_cases h3 : bt s 0 = 104
      · rw [if_pos h3]
        congr 1
        exact decide_eq_decide.2 ⟨fun h => ⟨h3, by omega⟩, fun h => by omega⟩
      · rw [if_neg h3, decide_eq_false (fun h => h3 h.1)]

/-! ### boarderref07.hex -/
theorem boarderref07_hex_s (n : Int) (h0 : 0 ≤ n) (h1 : n < 16) : boarderref07_hex.f n = some (hx n) := by
  unfold boarderref07_hex.f hx
  by_cases c : n < 10
  · rw [if_pos c, if_pos c, show (48 + n) % 256 = 48 + n by omega]
  · rw [if_neg c, if_neg c, show (87 + n) % 256 = 87 + n by omega]

/-! ### boarderref07.Text -/
theorem hexdiv {b : Int} (hb : 0 ≤ b ∧ b ≤ 255) : Int.tdiv b 16 % 256 = b / 16 ∧ Int.tmod b 16 = b % 16 := ⟨by rw [Int.tdiv_eq_ediv_of_nonneg hb.1]; omega, Int.tmod_eq_emod_of_nonneg hb.1⟩
theorem boarderref07_Text_loop (s : ByteArray) (hs : s.size ≤ 100000) : ∀ (d i : Nat) (acc : List Int), i + d = s.size → acc.length + 2 * d ≤ 1000000 → Ev (fun k => boarderref07_Text.l0 k s acc (i : Int)) (strOfNums (acc ++ hexL ((bytesOf s).drop i))) := by
  have hL := bytesOf_length s
  intro d
  induction d with
  | zero =>
    intro i acc hi ha
    refine Ev.step (f := fun _ => some (strOfNums acc)) (fun k => ?_) (Ev.eqv Ev.some' ?_)
    · show boarderref07_Text.l0 (k + 1) _ _ _ = _
      rw [boarderref07_Text.l0, if_neg (by omega)]
    · rw [show (bytesOf s).drop i = [] from List.drop_eq_nil_of_le (by omega), hexL, List.append_nil]
  | succ d ih =>
    intro i acc hi ha
    have hb := bytesOf_by s _ (List.getElem_mem (show i < (bytesOf s).length by omega))
    have g1 : bt s (i : Int) = (bytesOf s)[i]'(by omega) := bt_get (by omega)
    have hd : (bytesOf s).drop i = (bytesOf s)[i]'(by omega) :: (bytesOf s).drop (i + 1) := List.drop_eq_getElem_cons (by omega)
    rw [hd, hexL]
    generalize (bytesOf s)[i]'(by omega) = b at *
    have w1 : wrap64 ((i : Int) + 1) = ((i + 1 : Nat) : Int) := wrap_next (n := s.size) (by omega) (by omega)
    refine Ev.step (f := fun k => boarderref07_Text.l0 k s (acc ++ [hx (b / 16), hx (b % 16)]) ((i + 1 : Nat) : Int)) (fun k => ?_) (Ev.eqv (ih (i + 1) (acc ++ [hx (b / 16), hx (b % 16)]) (by omega) (by simp only [List.length_append, List.length_cons, List.length_nil]; omega)) (by simp))
    show boarderref07_Text.l0 (k + 1) _ _ _ = _
    rw [boarderref07_Text.l0, if_pos (by omega), if_pos (by omega), g1, (hexdiv hb).1, (hexdiv hb).2, boarderref07_hex_s _ (by omega) (by omega), Option.bind_some, boarderref07_hex_s _ (by omega) (by omega), Option.bind_some, Option.bind_some, if_pos (show acc.length + ([hx (b / 16), hx (b % 16)] : List Int).length < 140737488355328 by simp only [List.length_cons, List.length_nil]; omega), w1]
theorem boarderref07_Text_s (s : ByteArray) (h0 : 0 < s.size) (hs : s.size ≤ 100000) : Ev (fun k => boarderref07_Text.f k s) (strOfNums (textL (bytesOf s))) := by
  have hL := bytesOf_length s
  have g0 : bt s 0 = (bytesOf s)[0]'(by omega) := bt_get (i := 0) (by omega)
  refine Ev.congr (f := fun k => boarderref07_Text.l0 k s [bt s 0, 45] ((1 : Nat) : Int)) (fun k => by unfold boarderref07_Text.f; rw [if_pos (by omega)]; rfl) (Ev.eqv (boarderref07_Text_loop s hs (s.size - 1) 1 [bt s 0, 45] (by omega) (by simp only [List.length_cons, List.length_nil]; omega)) ?_)
  clear g0
  rw [bt_head]
  generalize bytesOf s = L at hL ⊢
  cases L with
  | nil => simp at hL; omega
  | cons c l => rfl

end Go.Proofs.YtkjmfnijagdhpaaDoor.PKey

namespace Go.Proofs.YtkjmfnijagdhpaaDoor.Pure
open Go.RowKit Go.Proofs.YtkjmfnijagdhpaaDoorW.PrintWords Go.Proofs.YtkjmfnijagdhpaaDoorW.PrintLast Go.Proofs.YtkjmfnijagdhpaaDoorW.PrintMore Go.Proofs.YtkjmfnijagdhpaaDoor.PKey

theorem KeyTexts : boarderlaw07_KeyTexts.Pure := by
  intro s hs
  refine Ev.rounds ?_
  have hk : Ev (fun k => (boarderlaw07_knows.f k).bind fun t => some t) true := Ev.bind boarderlaw07_knows_s Ev.some'
  unfold boarderlaw07_KeyTexts.f
  by_cases h : (s.size : Int) > 1000
  · exact Ev.pos h hk
  · have hT := key_Text_s s (by simp only [maxLen]; omega)
    have hR := key_Right_s s (by simp only [maxLen]; omega)
    have hR2 := boarderref07_Right_s s
    by_cases hb : keyB s = true
    · rw [if_pos hb] at hT
      rw [hb] at hR hR2
      have h2 := hb
      rw [keyB_L] at h2
      have h3 := keyL_len h2
      rw [bytesOf_length] at h3
      refine Ev.neg h (Ev.bind hT ?_)
      simp only [hR, hR2, Option.bind_some]
      exact Ev.neg (by decide) (Ev.pos (by first | trivial | rfl) (Ev.bind (boarderref07_Text_s s (by omega) (by omega)) (Ev.pos (by first | trivial | rfl) (Ev.pos (by first | trivial | rfl) hk))))
    · rw [if_neg hb] at hT
      rw [Bool.eq_false_iff.2 hb] at hR hR2
      refine Ev.neg h (Ev.bind hT ?_)
      simp only [hR, hR2, Option.bind_some]
      exact Ev.neg (by decide) (Ev.neg (by decide) (Ev.pos (by rw [ByteArray.toList_eq]) (Ev.pos (by first | trivial | rfl) hk)))

end Go.Proofs.YtkjmfnijagdhpaaDoor.Pure
