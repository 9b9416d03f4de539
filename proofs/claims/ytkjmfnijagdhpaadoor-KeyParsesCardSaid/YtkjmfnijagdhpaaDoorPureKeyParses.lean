/- The law KeyParses holds of the printed functions; no condition beyond the law's own. -/
import Derived.Test.YtkjmfnijagdhpaaDoorKeyRKeyParses
import Derived.Test.YtkjmfnijagdhpaaDoorPKeyx11
import Derived.Test.YtkjmfnijagdhpaaDoorPKeyx7
import Derived.Test.YtkjmfnijagdhpaaDoorKeyHex
import Derived.Test.YtkjmfnijagdhpaaDoorKeyOpt
import Derived.Test.YtkjmfnijagdhpaaDoorKeyS0
set_option linter.unusedVariables false
set_option linter.unusedSimpArgs false
namespace Go.Proofs.YtkjmfnijagdhpaaDoor.PKey
open Go.RowKit Go.Proofs.YtkjmfnijagdhpaaDoorW.PrintWords Go.Proofs.YtkjmfnijagdhpaaDoorW.PrintLast Go.Proofs.YtkjmfnijagdhpaaDoorW.PrintMore

/-! ### boarderref07.Right -/
theorem boarderref07_Right_s (s : ByteArray) : boarderref07_Right.f s = some (keyB s) := by
  unfold boarderref07_Right.f keyB
  by_cases h0 : (s.size : Int) < 3
  · rw [if_pos h0, decide_eq_false (show ¬ 3 ≤ s.size by omega)]; rfl
  · rw [if_neg h0, if_pos (by omega), decide_eq_true (show 3 ≤ s.size by omega), Bool.true_and]
    by_cases h1 : bt s 0 = 105
    · rw [if_pos h1]
      by_cases h2 : (s.size : Int) ≤ 256
      · rw [if_pos h2, decide_eq_true (show bt s 0 = 105 ∧ s.size ≤ 256 from ⟨h1, by omega⟩)]; rfl
      · rw [if_neg h2, if_neg (by omega), decide_eq_false (by omega), decide_eq_false (by omega)]; rfl
    · rw [if_neg h1, decide_eq_false (show ¬ (bt s 0 = 105 ∧ s.size ≤ 256) from fun h => h1 h.1), Bool.false_or]
      by_cases h3 : bt s 0 = 104
      · rw [if_pos h3]
        congr 1
        exact decide_eq_decide.2 ⟨fun h => ⟨h3, by omega⟩, fun h => by omega⟩
      · rw [if_neg h3, decide_eq_false (fun h => h3 h.1)]

/-! ### boarderref07.hex -/
theorem boarderref07_hex_s (n : Int) (h0 : 0 ≤ n) (h1 : n < 16) : boarderref07_hex.f n = some (hx n) := by
  unfold boarderref07_hex.f hx
  by_cases c : n < 10
  · rw [if_pos c, if_pos c, show (48 + n) % 256 = 48 + n by omega]
  · rw [if_neg c, if_neg c, show (87 + n) % 256 = 87 + n by omega]

/-! ### boarderref07.Text -/
theorem hexdiv {b : Int} (hb : 0 ≤ b ∧ b ≤ 255) : Int.tdiv b 16 % 256 = b / 16 ∧ Int.tmod b 16 = b % 16 := ⟨by rw [Int.tdiv_eq_ediv_of_nonneg hb.1]; omega, Int.tmod_eq_emod_of_nonneg hb.1⟩
theorem boarderref07_Text_loop (s : ByteArray) (hs : s.size ≤ 100000) : ∀ (d i : Nat) (acc : List Int), i + d = s.size → acc.length + 2 * d ≤ 1000000 → Ev (fun k => boarderref07_Text.l0 k s acc (i : Int)) (strOfNums (acc ++ hexL ((bytesOf s).drop i))) := by
  have hL := bytesOf_length s
  intro d
  induction d with
  | zero =>
    intro i acc hi ha
    refine Ev.step (f := fun _ => some (strOfNums acc)) (fun k => ?_) (Ev.eqv Ev.some' ?_)
    · show boarderref07_Text.l0 (k + 1) _ _ _ = _
      rw [boarderref07_Text.l0, if_neg (by omega)]
    · rw [show (bytesOf s).drop i = [] from List.drop_eq_nil_of_le (by omega), hexL, List.append_nil]
  | succ d ih =>
    intro i acc hi ha
    have hb := bytesOf_by s _ (List.getElem_mem (show i < (bytesOf s).length by omega))
    have g1 : bt s (i : Int) = (bytesOf s)[i]'(by omega) := bt_get (by omega)
    have hd : (bytesOf s).drop i = (bytesOf s)[i]'(by omega) :: (bytesOf s).drop (i + 1) := List.drop_eq_getElem_cons (by omega)
    rw [hd, hexL]
    generalize (bytesOf s)[i]'(by omega) = b at *
    have w1 : wrap64 ((i : Int) + 1) = ((i + 1 : Nat) : Int) := wrap_next (n := s.size) (by omega) (by omega)
    refine Ev.step (f := fun k => boarderref07_Text.l0 k s (acc ++ [hx (b / 16), hx (b % 16)]) ((i + 1 : Nat) : Int)) (fun k => ?_) (Ev.eqv (ih (i + 1) (acc ++ [hx (b / 16), hx (b % 16)]) (by omega) (by simp only [List.length_append, List.length_cons, List.length_nil]; omega)) (by simp))
    show boarderref07_Text.l0 (k + 1) _ _ _ = _
    rw [boarderref07_Text.l0, if_pos (by omega), if_pos (by omega), g1, (hexdiv hb).1, (hexdiv hb).2, boarderref07_hex_s _ (by omega) (by omega), Option.bind_some, boarderref07_hex_s _ (by omega) (by omega), Option.bind_some, Option.bind_some, if_pos (show acc.length + ([hx (b / 16), hx (b % 16)] : List Int).length < 140737488355328 by simp only [List.length_cons, List.length_nil]; omega), w1]
theorem boarderref07_Text_s (s : ByteArray) (h0 : 0 < s.size) (hs : s.size ≤ 100000) : Ev (fun k => boarderref07_Text.f k s) (strOfNums (textL (bytesOf s))) := by
  have hL := bytesOf_length s
  have g0 : bt s 0 = (bytesOf s)[0]'(by omega) := bt_get (i := 0) (by omega)
  refine Ev.congr (f := fun k => boarderref07_Text.l0 k s [bt s 0, 45] ((1 : Nat) : Int)) (fun k => by unfold boarderref07_Text.f; rw [if_pos (by omega)]; rfl) (Ev.eqv (boarderref07_Text_loop s hs (s.size - 1) 1 [bt s 0, 45] (by omega) (by simp only [List.length_cons, List.length_nil]; omega)) ?_)
  clear g0
  rw [bt_head]
  generalize bytesOf s = L at hL ⊢
  cases L with
  | nil => simp at hL; omega
  | cons c l => rfl

/-! ### boarderref07.value -/
theorem boarderref07_value_s (c : Int) : boarderref07_value.f c = some (vl c) := by
  unfold boarderref07_value.f vl
  split <;> rfl

/-! ### boarderref07.Parse -/
def parseQ (o : Option (List Int)) : ByteArray × Bool := match o with | some x => (strOfNums x, true) | none => ((⟨#[]⟩ : ByteArray), false)
theorem wrap_two {i : Nat} (h : i ≤ 1000000) : wrap64 ((i : Int) + 2) = ((i + 2 : Nat) : Int) := by unfold wrap64; omega
theorem mod_by (x : Int) : 0 ≤ x % 256 ∧ x % 256 ≤ 255 := by omega
theorem boarderref07_Parse_loop (s : ByteArray) (hs : s.size ≤ 1000) : ∀ (d i : Nat) (acc : List Int), i + 2 * d = s.size → By acc → acc.length + d ≤ 1000 → Ev (fun k => boarderref07_Parse.l0 k s acc (i : Int)) (parseQ (if keyL (acc ++ pairs ((bytesOf s).drop i)) = true ∧ textL (acc ++ pairs ((bytesOf s).drop i)) = bytesOf s then some (acc ++ pairs ((bytesOf s).drop i)) else none)) := by
  have hL := bytesOf_length s
  intro d
  induction d with
  | zero =>
    intro i acc hi hb ha
    rw [show (bytesOf s).drop i = [] from List.drop_eq_nil_of_le (by omega), show pairs ([] : List Int) = [] from rfl, List.append_nil]
    refine Ev.step (f := fun k => if keyL acc = true then ((boarderref07_Text.f k (strOfNums acc)).bind fun t251 => (if t251.toList = s.toList then (some (strOfNums acc, true)) else (some ((⟨#[]⟩ : ByteArray), false)))) else (some ((⟨#[]⟩ : ByteArray), false))) (fun k => ?_) ?_
    · show boarderref07_Parse.l0 (k + 1) _ _ _ = _
      rw [boarderref07_Parse.l0, if_neg (by omega), boarderref07_Right_s, keyB_str hb, Option.bind_some]
    · by_cases h : keyL acc = true
      · have hl := keyL_len h
        refine Ev.pos h (Ev.bind (boarderref07_Text_s (strOfNums acc) (by rw [str_size]; omega) (by rw [str_size]; omega)) (f := fun _ t => if t.toList = s.toList then (some (strOfNums acc, true)) else (some ((⟨#[]⟩ : ByteArray), false))) ?_)
        rw [bytes_str acc hb, toList_str, ← bys_bytesOf s]
        by_cases c : textL acc = bytesOf s
        · exact Ev.eqv (Ev.pos (by rw [c]) Ev.some') (by rw [if_pos ⟨h, c⟩]; rfl)
        · exact Ev.eqv (Ev.neg (fun h2 => c (bys_inj (textL_by _ hb) (bytesOf_by s) h2)) Ev.some') (by rw [if_neg (fun h2 => c h2.2)]; rfl)
      · exact Ev.eqv (Ev.neg h Ev.some') (by rw [if_neg (fun h2 => h h2.1)]; rfl)
  | succ d ih =>
    intro i acc hi hb ha
    have g1 : bt s (i : Int) = (bytesOf s)[i]'(by omega) := bt_get (by omega)
    have g2 : bt s ((i + 1 : Nat) : Int) = (bytesOf s)[i + 1]'(by omega) := bt_get (by omega)
    have w1 : wrap64 ((i : Int) + 1) = ((i + 1 : Nat) : Int) := wrap_next (n := s.size) (by omega) (by omega)
    have w2 : wrap64 ((i : Int) + 2) = ((i + 2 : Nat) : Int) := wrap_two (by omega)
    have hd : (bytesOf s).drop i = (bytesOf s)[i]'(by omega) :: (bytesOf s)[i + 1]'(by omega) :: (bytesOf s).drop (i + 2) := by
      rw [List.drop_eq_getElem_cons (by omega), List.drop_eq_getElem_cons (by omega)]
    rw [hd, pairs]
    generalize (bytesOf s)[i]'(by omega) = a at *
    generalize (bytesOf s)[i + 1]'(by omega) = b at *
    refine Ev.step (f := fun k => boarderref07_Parse.l0 k s (acc ++ [((vl a * 16) % 256 + vl b) % 256]) ((i + 2 : Nat) : Int)) (fun k => ?_) (Ev.eqv (ih (i + 2) (acc ++ [((vl a * 16) % 256 + vl b) % 256]) (by omega) (By.app.2 ⟨hb, By.cons.2 ⟨mod_by _, By.nil⟩⟩) (by simp only [List.length_append, List.length_cons, List.length_nil]; omega)) (by simp))
    show boarderref07_Parse.l0 (k + 1) _ _ _ = _
    rw [boarderref07_Parse.l0, if_pos (by omega), if_pos (by omega), g1, boarderref07_value_s, Option.bind_some, w1, if_pos (by omega), if_pos (by omega), g2, boarderref07_value_s, Option.bind_some, if_pos (show acc.length < 140737488355328 by omega), w2]
theorem boarderref07_Parse_s (s : ByteArray) (hs : s.size ≤ 1000) : Ev (fun k => boarderref07_Parse.f k s) (parseQ (parseL (bytesOf s))) := by
  have hL := bytesOf_length s
  have hj : Ev (fun k => boarderref07_Parse.j0 k s true) (parseQ none) := Ev.step (f := fun _ => some ((⟨#[]⟩ : ByteArray), false)) (fun k => by show boarderref07_Parse.j0 (k + 1) _ _ = _; rw [boarderref07_Parse.j0, if_pos rfl]) Ev.some'
  rw [parse_ref (bytesOf_by s) (by omega), hL]
  by_cases h : s.size < 4
  · rw [if_pos (.inl h)]
    exact Ev.congr (fun k => by unfold boarderref07_Parse.f; rw [if_pos (by omega)]) hj
  · by_cases p : s.size % 2 = 1
    · rw [if_pos (.inr p)]
      exact Ev.congr (fun k => by unfold boarderref07_Parse.f; rw [if_neg (by omega), if_neg (by omega), show ((s.size : Int) % 2 == 1) = true from by rw [beq_iff_eq]; omega]) hj
    · rw [if_neg (fun h2 => h2.elim h p)]
      refine Ev.congr (f := fun k => boarderref07_Parse.j0 k s false) (fun k => by unfold boarderref07_Parse.f; rw [if_neg (by omega), if_neg (by omega), show ((s.size : Int) % 2 == 1) = false from by rw [beq_eq_false_iff_ne]; omega]) ?_
      have g0 : bt s 0 = (bytesOf s)[0]'(by omega) := bt_get (i := 0) (by omega)
      have hr : refL (bytesOf s) = [bt s 0] ++ pairs ((bytesOf s).drop 2) := by
        clear g0
        rw [bt_head]
        generalize bytesOf s = L at hL ⊢
        cases L with
        | nil => simp at hL; omega
        | cons c l => cases l with
          | nil => simp at hL; omega
          | cons b l => rfl
      rw [hr]
      refine Ev.step (f := fun k => boarderref07_Parse.l0 k s [bt s 0] ((2 : Nat) : Int)) (fun k => ?_) (boarderref07_Parse_loop s hs ((s.size - 2) / 2) 2 [bt s 0] (by omega) (By.cons.2 ⟨bt_range s 0, By.nil⟩) (by simp only [List.length_cons, List.length_nil]; omega))
      show boarderref07_Parse.j0 (k + 1) _ _ = _
      rw [boarderref07_Parse.j0, if_neg (by decide), if_pos (by omega)]
      rfl

end Go.Proofs.YtkjmfnijagdhpaaDoor.PKey

namespace Go.Proofs.YtkjmfnijagdhpaaDoor.Pure
open Go.RowKit Go.Proofs.YtkjmfnijagdhpaaDoorW.PrintWords Go.Proofs.YtkjmfnijagdhpaaDoorW.PrintLast Go.Proofs.YtkjmfnijagdhpaaDoorW.PrintMore Go.Proofs.YtkjmfnijagdhpaaDoor.PKey

theorem KeyParses : boarderlaw07_KeyParses.Pure := by
  intro s hs
  refine Ev.rounds ?_
  have hk : Ev (fun k => (boarderlaw07_knows.f k).bind fun t => some t) true := Ev.bind boarderlaw07_knows_s Ev.some'
  unfold boarderlaw07_KeyParses.f
  by_cases h : (s.size : Int) > 1000
  · exact Ev.pos h hk
  · refine Ev.neg h (Ev.bind (key_Parse_s s (by omega)) (Ev.bind (boarderref07_Parse_s s (by omega)) ?_))
    cases parseL (bytesOf s) with
    | none =>
      simp only [parseR, parseQ]
      exact Ev.pos (by first | trivial | rfl | (rw [ByteArray.toList_eq])) (Ev.pos (by first | trivial | rfl | (rw [ByteArray.toList_eq])) (Ev.neg (fun h => by cases h) (Ev.pos (by first | trivial | rfl | (rw [ByteArray.toList_eq])) hk)))
    | some x =>
      simp only [parseR, parseQ]
      exact Ev.pos (by first | trivial | rfl | (rw [ByteArray.toList_eq])) (Ev.pos (by first | trivial | rfl | (rw [ByteArray.toList_eq])) (Ev.pos (by first | trivial | rfl | (rw [ByteArray.toList_eq])) hk))

end Go.Proofs.YtkjmfnijagdhpaaDoor.Pure
