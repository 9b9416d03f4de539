/- What the printed functions of this group come to, in plain words; each under its theorem's own conditions. -/
import Derived.Test.YtkjmfnijagdhpaaDoorPKeyx1
import Derived.Test.YtkjmfnijagdhpaaDoorPKeyx2
import Derived.Test.YtkjmfnijagdhpaaDoorPKeyx3
import Derived.Test.YtkjmfnijagdhpaaDoorAdr
import Derived.Test.YtkjmfnijagdhpaaDoorKeyHex
import Derived.Test.YtkjmfnijagdhpaaDoorKeyOpt
set_option linter.unusedVariables false
set_option linter.unusedSimpArgs false
namespace Go.Proofs.YtkjmfnijagdhpaaDoor.PKey
open Go.RowKit Go.Proofs.YtkjmfnijagdhpaaDoorW.PrintWords Go.Proofs.YtkjmfnijagdhpaaDoorW.PrintLast Go.Proofs.YtkjmfnijagdhpaaDoorW.PrintMore

/-! ### tlv.at -/
theorem tlv_at_s (l : List Ot) (hl : l.length ≤ 1000) (c : Int) : Ev (fun k => tlv_at.f k l c) (if idxO l c < l.length then (idxO l c : Int) else -1) := by
  refine Ev.congr (f := fun k => tlv_at.l0 k c l (l.length : Int) 0) (fun k => rfl) ?_
  refine loopE (n := l.length) (L := fun k i => tlv_at.l0 k c l (l.length : Int) i) (fun i => ∀ h : i < l.length, l[i].f0 ≠ c) (fun i => (i : Int)) (fun i hi hp r h => ?_) (fun i hi hp => ?_) (fun h => ?_) ?_
  · have e : rd_T52 l (i : Int) = l[i] := rd_get hi
    refine Ev.step (fun k => ?_) h
    show tlv_at.l0 (k + 1) _ _ _ _ = _
    rw [tlv_at.l0, if_pos (by omega), if_pos (by omega), if_pos (by omega), e, if_neg (hp hi), wrap_next hi (by omega)]
  · have e : rd_T52 l (i : Int) = l[i] := rd_get hi
    have h2 : l[i].f0 = c := by
      by_cases h : l[i].f0 = c
      · exact h
      · exact absurd (fun _ => h) hp
    clear hp
    refine Ev.step (f := fun _ => some (i : Int)) (fun k => ?_) Ev.some'
    show tlv_at.l0 (k + 1) _ _ _ _ = _
    rw [tlv_at.l0, if_pos (by omega), if_pos (by omega), if_pos (by omega), e, if_pos h2]
  · have := idxO_none.1 (fun i hi => h i hi hi)
    refine Ev.step (f := fun _ => some (-1)) (fun k => ?_) (Ev.eqv Ev.some' ?_)
    · show tlv_at.l0 (k + 1) _ _ _ _ = _
      rw [tlv_at.l0, if_neg (by omega)]
    · rw [if_neg (by omega)]
  · intro i hi hp hn
    have h2 : l[i].f0 = c := by
      by_cases h : l[i].f0 = c
      · exact h
      · exact absurd (fun _ => h) hn
    have := (idxO_at hi (c := c)).2 ⟨h2, fun j hj => hp j hj (Nat.lt_trans hj hi)⟩
    rw [this, if_pos hi]

/-! ### tlv.Find -/
theorem tlv_Find_s (l : List Ot) (hl : SmO l) (c : Int) : Ev (fun k => tlv_Find.f k l c) (findO l c) := by
  refine Ev.bind (tlv_at_s l (by have := hl.1; omega) c) (f := fun k t104 => (if t104 < 0 then (some (([] : List Int), false)) else ((some (([] : List Int) : List Int)).bind fun y105 => (if 0 ≤ t104 then (if t104 < (l.length : Int) then (if y105.length + ((rd_T52 l t104).f1).length < 140737488355328 then (some ((y105 ++ ((rd_T52 l t104).f1)), true)) else (none)) else (none)) else (none))))) ?_
  rw [findO_idx]
  by_cases h : idxO l c < l.length
  · rw [if_pos h, dif_pos h]
    have e : rd_T52 l ((idxO l c : Nat) : Int) = l[idxO l c] := rd_get h
    have h2 := hl.2 _ (List.getElem_mem h)
    refine Ev.neg (by omega) (Ev.eqv (Ev.congr (f := fun _ => some (([] : List Int) ++ l[idxO l c].f1, true)) (fun k => ?_) Ev.some') rfl)
    rw [Option.bind_some, if_pos (by omega), if_pos (by omega), e, if_pos (by simp; omega)]
  · rw [if_neg h, dif_neg h]
    exact Ev.pos (by omega) Ev.some'

/-! ### msg.within -/
theorem msg_within_s (n h : Int) : msg_within.f n h = some (decide (0 ≤ n ∧ n ≤ h)) := by
  unfold msg_within.f
  by_cases c : n ≥ 0
  · rw [if_pos c]; congr 1; rw [decide_eq_decide]; exact ⟨fun h2 => ⟨c, h2⟩, fun h2 => h2.2⟩
  · rw [if_neg c, decide_eq_false (fun h2 => c h2.1)]

/-! ### addr.Right -/
theorem addr_Right_s (a : Int) : addr_Right.f a = some (decide (0 ≤ a ∧ a ≤ 4294967295)) := by
  unfold addr_Right.f
  by_cases h : a ≥ 0
  · rw [if_pos h]; congr 1; exact decide_eq_decide.2 ⟨fun h2 => ⟨h, h2⟩, fun h2 => h2.2⟩
  · rw [if_neg h, decide_eq_false (by omega)]

/-! ### tlv.Right -/
open Classical in
theorem tlv_Right_s (l : List Ot) (hl : SmO l) : Ev (fun k => tlv_Right.f k l) (decide (RightO l)) := by
  have hn := hl.1
  refine Ev.congr (f := fun k => tlv_Right.l0 k l l (l.length : Int) 0) (fun k => rfl) ?_
  refine loopC (n := l.length) (L := fun k i => tlv_Right.l0 k l l (l.length : Int) i) (fun i => ∀ h : i < l.length, (1 ≤ l[i].f0 ∧ l[i].f0 ≤ 254 ∧ l[i].f1.length ≤ 600) ∧ idxO l l[i].f0 = i) false (fun i hi hp r h => ?_) (fun i hi hp => ?_) (fun h => ?_) ?_
  · have e : rd_T52 l (i : Int) = l[i] := rd_get hi
    have hp := hp hi
    refine Ev.step (f := fun k => (tlv_at.f k l l[i].f0).bind fun t => if t = (i : Int) then tlv_Right.l0 k l l (l.length : Int) ((i + 1 : Nat) : Int) else some false) (fun k => ?_) (Ev.bind (tlv_at_s l (by omega) _) (f := fun k t => if t = (i : Int) then tlv_Right.l0 k l l (l.length : Int) ((i + 1 : Nat) : Int) else some false) (Ev.pos ?_ h))
    · show tlv_Right.l0 (k + 1) _ _ _ _ = _
      rw [tlv_Right.l0, if_pos (by omega), if_pos (by omega), if_pos (by omega), e, if_neg (by omega), if_neg (by omega), if_neg (by omega), wrap_next hi (by omega)]
    · rw [hp.2, if_pos hi]
  · have e : rd_T52 l (i : Int) = l[i] := rd_get hi
    by_cases h1 : 1 ≤ l[i].f0 ∧ l[i].f0 ≤ 254 ∧ l[i].f1.length ≤ 600
    · refine Ev.step (f := fun k => (tlv_at.f k l l[i].f0).bind fun t => if t = (i : Int) then tlv_Right.l0 k l l (l.length : Int) ((i + 1 : Nat) : Int) else some false) (fun k => ?_) (Ev.bind (tlv_at_s l (by omega) _) (f := fun k t => if t = (i : Int) then tlv_Right.l0 k l l (l.length : Int) ((i + 1 : Nat) : Int) else some false) (Ev.neg ?_ Ev.some'))
      · show tlv_Right.l0 (k + 1) _ _ _ _ = _
        rw [tlv_Right.l0, if_pos (by omega), if_pos (by omega), if_pos (by omega), e, if_neg (by omega), if_neg (by omega), if_neg (by omega), wrap_next hi (by omega)]
      · intro h2
        refine hp (fun _ => ⟨h1, ?_⟩)
        by_cases h3 : idxO l l[i].f0 < l.length
        · rw [if_pos h3] at h2; omega
        · rw [if_neg h3] at h2; omega
    · refine Ev.step (f := fun _ => some false) (fun k => ?_) Ev.some'
      show tlv_Right.l0 (k + 1) _ _ _ _ = _
      rw [tlv_Right.l0, if_pos (by omega), if_pos (by omega), if_pos (by omega), e]
      by_cases c1 : l[i].f0 ≤ 0
      · rw [if_pos c1]
      · rw [if_neg c1]
        by_cases c2 : l[i].f0 ≥ 255
        · rw [if_pos c2]
        · rw [if_neg c2, if_pos (by omega)]
  · refine Ev.step (f := fun _ => some (decide ((l.length : Int) ≤ 60))) (fun k => ?_) (Ev.eqv Ev.some' ?_)
    · show tlv_Right.l0 (k + 1) _ _ _ _ = _
      rw [tlv_Right.l0, if_neg (by omega)]
    · rw [decide_eq_decide]
      unfold RightO
      exact ⟨fun h2 => ⟨by omega, fun i hi => (h i hi hi).1, (dist_idx l).2 (fun i hi => (h i hi hi).2)⟩, fun h2 => by omega⟩
  · rintro ⟨i, hi, h⟩
    rw [decide_eq_false_iff_not]
    exact fun h2 => h (fun h3 => ⟨h2.2.1 i h3, (dist_idx l).1 h2.2.2 i h3⟩)

/-! ### msg.Right -/
theorem msg_Right_l0 (Y : List Int) (hY : Y.length ≤ 100) (a0 a1 a2 a3 a4 a5 a6 a7 a8 a9 a10 : Int) (ch : List Int) (l : List Ot) (r : Bool) (hnext : (∀ y ∈ Y, 0 ≤ y ∧ y ≤ 255) → Ev (fun k => (some (([a4, a7, a8, a9, a10] : List Int) : List Int)).bind fun y121 => (msg_Right.l1 k y121 (y121.length : Int) 0 a0 a1 a2 a3 a4 a5 a6 a7 a8 a9 a10 ch l)) r) (hbad : (¬ ∀ y ∈ Y, 0 ≤ y ∧ y ≤ 255) → r = false) : Ev (fun k => msg_Right.l0 k Y (Y.length : Int) 0 a0 a1 a2 a3 a4 a5 a6 a7 a8 a9 a10 ch l) r := by
  refine loopC (n := Y.length) (L := fun k i => msg_Right.l0 k Y (Y.length : Int) i a0 a1 a2 a3 a4 a5 a6 a7 a8 a9 a10 ch l) (fun i => ∀ h : i < Y.length, 0 ≤ Y[i] ∧ Y[i] ≤ 255) false (fun i hi hp r h => ?_) (fun i hi hp => ?_) (fun h => ?_) ?_
  · refine Ev.step (fun k => ?_) h
    show msg_Right.l0 (k + 1) _ _ _ _ _ _ _ _ _ _ _ _ _ _ _ _ = _
    rw [msg_Right.l0, if_pos (by omega), if_pos (by omega), if_pos (by omega), rd_at hi, msg_within_s, decide_eq_true (hp hi), Option.bind_some, if_pos rfl, wrap_next hi (by omega)]
  · refine Ev.step (f := fun _ => some false) (fun k => ?_) Ev.some'
    show msg_Right.l0 (k + 1) _ _ _ _ _ _ _ _ _ _ _ _ _ _ _ _ = _
    rw [msg_Right.l0, if_pos (by omega), if_pos (by omega), if_pos (by omega), rd_at hi, msg_within_s, decide_eq_false (fun h2 => hp (fun _ => h2)), Option.bind_some, if_neg (by decide)]
  · refine Ev.step (fun k => ?_) (hnext (fun y hy => ?_))
    · show msg_Right.l0 (k + 1) _ _ _ _ _ _ _ _ _ _ _ _ _ _ _ _ = _
      rw [msg_Right.l0, if_neg (by omega)]
    · obtain ⟨i, hi, rfl⟩ := List.mem_iff_getElem.1 hy
      exact h i hi hi
  · rintro ⟨i, hi, h⟩
    exact hbad (fun h2 => h (fun h3 => h2 _ (List.getElem_mem h3)))
theorem msg_Right_l1 (Y : List Int) (hY : Y.length ≤ 100) (a0 a1 a2 a3 a4 a5 a6 a7 a8 a9 a10 : Int) (ch : List Int) (l : List Ot) (r : Bool) (hnext : (∀ y ∈ Y, 0 ≤ y ∧ y ≤ 4294967295) → Ev (fun k => (tlv_Find.f k l 52).bind fun bt126 => ((msg_within.f a2 16).bind fun t130 => (if t130 = true then ((msg_within.f a5 65535).bind fun t131 => (if t131 = true then ((msg_within.f a6 65535).bind fun t132 => (if t132 = true then (if (ch.length : Int) = 16 then ((tlv_Right.f k l).bind fun t133 => (if t133 = true then (some (!bt126.2)) else (some false))) else (some false)) else (some false))) else (some false))) else (some false)))) r) (hbad : (¬ ∀ y ∈ Y, 0 ≤ y ∧ y ≤ 4294967295) → r = false) : Ev (fun k => msg_Right.l1 k Y (Y.length : Int) 0 a0 a1 a2 a3 a4 a5 a6 a7 a8 a9 a10 ch l) r := by
  refine loopC (n := Y.length) (L := fun k i => msg_Right.l1 k Y (Y.length : Int) i a0 a1 a2 a3 a4 a5 a6 a7 a8 a9 a10 ch l) (fun i => ∀ h : i < Y.length, 0 ≤ Y[i] ∧ Y[i] ≤ 4294967295) false (fun i hi hp r h => ?_) (fun i hi hp => ?_) (fun h => ?_) ?_
  · refine Ev.step (fun k => ?_) h
    show msg_Right.l1 (k + 1) _ _ _ _ _ _ _ _ _ _ _ _ _ _ _ _ = _
    rw [msg_Right.l1, if_pos (by omega), if_pos (by omega), if_pos (by omega), rd_at hi, addr_Right_s, decide_eq_true (hp hi), Option.bind_some, if_pos rfl, wrap_next hi (by omega)]
  · refine Ev.step (f := fun _ => some false) (fun k => ?_) Ev.some'
    show msg_Right.l1 (k + 1) _ _ _ _ _ _ _ _ _ _ _ _ _ _ _ _ = _
    rw [msg_Right.l1, if_pos (by omega), if_pos (by omega), if_pos (by omega), rd_at hi, addr_Right_s, decide_eq_false (fun h2 => hp (fun _ => h2)), Option.bind_some, if_neg (by decide)]
  · refine Ev.step (fun k => ?_) (hnext (fun y hy => ?_))
    · show msg_Right.l1 (k + 1) _ _ _ _ _ _ _ _ _ _ _ _ _ _ _ _ = _
      rw [msg_Right.l1, if_neg (by omega)]
    · obtain ⟨i, hi, rfl⟩ := List.mem_iff_getElem.1 hy
      exact h i hi hi
  · rintro ⟨i, hi, h⟩
    exact hbad (fun h2 => h (fun h3 => h2 _ (List.getElem_mem h3)))
open Classical in
theorem msg_Right_s (a0 a1 a2 a3 a4 a5 a6 a7 a8 a9 a10 : Int) (ch : List Int) (l : List Ot) (hl : SmO l) : Ev (fun k => msg_Right.f k a0 a1 a2 a3 a4 a5 a6 a7 a8 a9 a10 ch l) (decide (MsgP a0 a1 a2 a3 a4 a5 a6 a7 a8 a9 a10 ch l)) := by
  refine Ev.congr (f := fun k => msg_Right.l0 k [a0, a1, a3] (([a0, a1, a3] : List Int).length : Int) 0 a0 a1 a2 a3 a4 a5 a6 a7 a8 a9 a10 ch l) (fun k => rfl) ?_
  refine msg_Right_l0 _ (by simp) a0 a1 a2 a3 a4 a5 a6 a7 a8 a9 a10 ch l _ (fun h => ?_) (fun h => ?_)
  · refine Ev.congr (f := fun k => msg_Right.l1 k [a4, a7, a8, a9, a10] (([a4, a7, a8, a9, a10] : List Int).length : Int) 0 a0 a1 a2 a3 a4 a5 a6 a7 a8 a9 a10 ch l) (fun k => rfl) ?_
    refine msg_Right_l1 _ (by simp) a0 a1 a2 a3 a4 a5 a6 a7 a8 a9 a10 ch l _ (fun h' => ?_) (fun h' => ?_)
    · refine Ev.bind (tlv_Find_s l hl 52) (f := fun k bt126 => ((msg_within.f a2 16).bind fun t130 => (if t130 = true then ((msg_within.f a5 65535).bind fun t131 => (if t131 = true then ((msg_within.f a6 65535).bind fun t132 => (if t132 = true then (if (ch.length : Int) = 16 then ((tlv_Right.f k l).bind fun t133 => (if t133 = true then (some (!bt126.2)) else (some false))) else (some false)) else (some false))) else (some false))) else (some false)))) ?_
      simp only [msg_within_s, Option.bind_some, decide_eq_true_eq]
      by_cases c1 : 0 ≤ a2 ∧ a2 ≤ 16
      · refine Ev.pos c1 ?_
        by_cases c2 : 0 ≤ a5 ∧ a5 ≤ 65535
        · refine Ev.pos c2 ?_
          by_cases c3 : 0 ≤ a6 ∧ a6 ≤ 65535
          · refine Ev.pos c3 ?_
            by_cases c4 : (ch.length : Int) = 16
            · refine Ev.pos c4 (Ev.bind (tlv_Right_s l hl) (f := fun _ t133 => if t133 = true then some (!(findO l 52).2) else some false) ?_)
              by_cases c5 : RightO l
              · refine Ev.pos (by rw [decide_eq_true_iff]; exact c5) (Ev.eqv Ev.some' ?_)
                have hm : MsgP a0 a1 a2 a3 a4 a5 a6 a7 a8 a9 a10 ch l ↔ (findO l 52).2 = false := by
                  simp only [List.mem_cons, List.not_mem_nil, or_false, forall_eq_or_imp, forall_eq] at h h'
                  exact ⟨fun hM => hM.2.2.2.2.2.2.2.2.2, fun hM => ⟨h.1, h.2.1, h.2.2, c1, c2, c3, h', by omega, c5, hM⟩⟩
                cases hf : (findO l 52).2 with
                | true => rw [decide_eq_false (fun h2 => by rw [hm, hf] at h2; cases h2)]; rfl
                | false => rw [decide_eq_true (hm.2 hf)]; rfl
              · refine Ev.neg (by rw [decide_eq_true_iff]; exact c5) (Ev.eqv Ev.some' ?_)
                rw [decide_eq_false (fun hM : MsgP _ _ _ _ _ _ _ _ _ _ _ _ _ => c5 hM.2.2.2.2.2.2.2.2.1)]
            · refine Ev.neg c4 (Ev.eqv Ev.some' ?_)
              rw [decide_eq_false (fun hM : MsgP _ _ _ _ _ _ _ _ _ _ _ _ _ => c4 (by have := hM.2.2.2.2.2.2.2.1; omega))]
          · refine Ev.neg c3 (Ev.eqv Ev.some' ?_)
            rw [decide_eq_false (fun hM : MsgP _ _ _ _ _ _ _ _ _ _ _ _ _ => c3 hM.2.2.2.2.2.1)]
        · refine Ev.neg c2 (Ev.eqv Ev.some' ?_)
          rw [decide_eq_false (fun hM : MsgP _ _ _ _ _ _ _ _ _ _ _ _ _ => c2 hM.2.2.2.2.1)]
      · refine Ev.neg c1 (Ev.eqv Ev.some' ?_)
        rw [decide_eq_false (fun hM : MsgP _ _ _ _ _ _ _ _ _ _ _ _ _ => c1 hM.2.2.2.1)]
    · rw [decide_eq_false_iff_not]
      refine fun hM => h' ?_
      simp only [List.mem_cons, List.not_mem_nil, or_false, forall_eq_or_imp, forall_eq]
      exact hM.2.2.2.2.2.2.1
  · rw [decide_eq_false_iff_not]
    refine fun hM => h ?_
    simp only [List.mem_cons, List.not_mem_nil, or_false, forall_eq_or_imp, forall_eq]
    exact ⟨hM.1, hM.2.1, hM.2.2.1⟩

/-! ### key.Of -/
theorem findO_sm {l : List Ot} (hl : SmO l) (c : Int) : (findO l c).1.length ≤ 1000 := by
  rw [findO_idx]
  by_cases h : idxO l c < l.length
  · rw [dif_pos h]; exact hl.2 _ (List.getElem_mem h)
  · rw [dif_neg h]; simp
/-- What the code's answer on a message comes to: the bytes are put together of two parts. -/
def ofC (ht hl : Int) (ch : List Int) (d : List Int) : ByteArray × Int :=
  if d.length > 255 then ((⟨#[]⟩ : ByteArray), 3) else if d.length ≥ 2 then ((⟨#[105]⟩ : ByteArray) ++ strOfNums d, 0) else if hl > 0 then ((⟨#[104]⟩ : ByteArray) ++ strOfNums (ht % 256 :: ch.take hl.toNat), 0) else ((⟨#[]⟩ : ByteArray), 5)
open Classical in
theorem key_Of_s (a0 a1 a2 a3 a4 a5 a6 a7 a8 a9 a10 : Int) (ch : List Int) (l : List Ot) (hl : SmO l) (hc : ch.length ≤ 100) : Ev (fun k => key_Of.f k a0 a1 a2 a3 a4 a5 a6 a7 a8 a9 a10 ch l) (if MsgP a0 a1 a2 a3 a4 a5 a6 a7 a8 a9 a10 ch l then ofC a1 a2 ch (findO l 61).1 else ((⟨#[]⟩ : ByteArray), 1)) := by
  have hf := findO_sm hl 61
  refine Ev.bind (msg_Right_s a0 a1 a2 a3 a4 a5 a6 a7 a8 a9 a10 ch l hl) (f := fun k t135 => (if t135 = true then ((tlv_Find.f k l 61).bind fun bt136 => (if (bt136.1.length : Int) > 255 then (some ((⟨#[]⟩ : ByteArray), 3)) else (if (bt136.1.length : Int) ≥ 2 then (if 1 + (strOfNums bt136.1).size ≤ 9223372036854775807 then (some ((⟨#[105]⟩ : ByteArray) ++ (strOfNums bt136.1), 0)) else (none)) else (if a2 > 0 then ((some (([(a1) % 256] : List Int) : List Int)).bind fun y140 => (if 0 ≤ a2 then (if a2 ≤ (ch.length : Int) then (if y140.length + (ch.take (a2 : Int).toNat).length < 140737488355328 then ((some (y140 ++ (ch.take (a2 : Int).toNat) : List Int)).bind fun y144 => (if 1 + (strOfNums y144).size ≤ 9223372036854775807 then (some ((⟨#[104]⟩ : ByteArray) ++ (strOfNums y144), 0)) else (none))) else (none)) else (none)) else (none))) else (some ((⟨#[]⟩ : ByteArray), 5)))))) else (some ((⟨#[]⟩ : ByteArray), 1)))) ?_
  by_cases h : MsgP a0 a1 a2 a3 a4 a5 a6 a7 a8 a9 a10 ch l
  · rw [if_pos h]
    refine Ev.pos (by rw [decide_eq_true_iff]; exact h) (Ev.bind (tlv_Find_s l hl 61) (f := fun k bt136 => (if (bt136.1.length : Int) > 255 then (some ((⟨#[]⟩ : ByteArray), 3)) else (if (bt136.1.length : Int) ≥ 2 then (if 1 + (strOfNums bt136.1).size ≤ 9223372036854775807 then (some ((⟨#[105]⟩ : ByteArray) ++ (strOfNums bt136.1), 0)) else (none)) else (if a2 > 0 then ((some (([(a1) % 256] : List Int) : List Int)).bind fun y140 => (if 0 ≤ a2 then (if a2 ≤ (ch.length : Int) then (if y140.length + (ch.take (a2 : Int).toNat).length < 140737488355328 then ((some (y140 ++ (ch.take (a2 : Int).toNat) : List Int)).bind fun y144 => (if 1 + (strOfNums y144).size ≤ 9223372036854775807 then (some ((⟨#[104]⟩ : ByteArray) ++ (strOfNums y144), 0)) else (none))) else (none)) else (none)) else (none))) else (some ((⟨#[]⟩ : ByteArray), 5)))))) ?_)
    generalize (findO l 61).1 = d at *
    unfold ofC
    by_cases c1 : (d.length : Int) > 255
    · rw [if_pos (show d.length > 255 by omega)]; exact Ev.pos c1 Ev.some'
    · rw [if_neg (show ¬ d.length > 255 by omega)]
      refine Ev.neg c1 ?_
      by_cases c2 : (d.length : Int) ≥ 2
      · rw [if_pos (show d.length ≥ 2 by omega)]
        exact Ev.pos c2 (Ev.pos (by rw [str_size]; omega) Ev.some')
      · rw [if_neg (show ¬ d.length ≥ 2 by omega)]
        refine Ev.neg c2 ?_
        have h16 := h.2.2.2.2.2.2.2.1
        have hh := h.2.2.2.1
        by_cases c3 : a2 > 0
        · refine Ev.eqv (Ev.pos c3 (Ev.congr (f := fun _ => some ((⟨#[104]⟩ : ByteArray) ++ strOfNums (a1 % 256 :: ch.take a2.toNat), 0)) (fun k => ?_) Ev.some')) (if_pos c3).symm
          have ht : (ch.take a2.toNat).length ≤ 100 := by rw [List.length_take]; omega
          rw [Option.bind_some, if_pos (by omega), if_pos (by omega), if_pos (by simp only [List.length_cons, List.length_nil]; omega), Option.bind_some, if_pos (by rw [str_size]; simp only [List.length_append, List.length_cons, List.length_nil]; omega)]
          rfl
        · exact Ev.eqv (Ev.neg c3 Ev.some') (if_neg c3).symm
  · rw [if_neg h]
    exact Ev.neg (by rw [decide_eq_true_iff]; exact h) Ev.some'

/-! ### key.Right -/
theorem key_Right_s (s : ByteArray) (hs : s.size ≤ maxLen) : key_Right.f s = some (keyB s) := by
  unfold key_Right.f keyB
  simp only [maxLen] at hs
  have hw : wrap64 ((s.size : Int) - 1) = (s.size : Int) - 1 := by unfold wrap64; omega
  rw [hw]
  clear hw
  by_cases h0 : (s.size : Int) = 0
  · rw [if_pos h0, decide_eq_false (show ¬ 3 ≤ s.size by omega)]; rfl
  · rw [if_neg h0, if_pos (by omega)]
    by_cases h1 : bt s 0 = 105
    · rw [if_pos h1]
      by_cases h2 : (s.size : Int) - 1 ≥ 2
      · rw [if_pos h2, decide_eq_true (show 3 ≤ s.size by omega), Bool.true_and]
        congr 1
        rw [Bool.eq_iff_iff, decide_eq_true_iff, Bool.or_eq_true, decide_eq_true_iff, decide_eq_true_iff]
        constructor
        · intro h; exact .inl ⟨h1, by omega⟩
        · rintro (⟨_, h⟩ | ⟨h, _⟩) <;> omega
      · rw [if_neg h2, decide_eq_false (show ¬ 3 ≤ s.size by omega)]; rfl
    · rw [if_neg h1]
      by_cases h3 : bt s 0 = 104
      · rw [if_pos h3]
        by_cases h2 : (s.size : Int) - 1 ≥ 2
        · rw [if_pos h2, decide_eq_true (show 3 ≤ s.size by omega), Bool.true_and]
          congr 1
          rw [Bool.eq_iff_iff, decide_eq_true_iff, Bool.or_eq_true, decide_eq_true_iff, decide_eq_true_iff]
          constructor
          · intro h; exact .inr ⟨h3, by omega⟩
          · rintro (⟨h, _⟩ | ⟨_, h⟩) <;> omega
        · rw [if_neg h2, decide_eq_false (show ¬ 3 ≤ s.size by omega)]; rfl
      · rw [if_neg h3, decide_eq_false (show ¬ (bt s 0 = 105 ∧ s.size ≤ 256) from fun h => h1 h.1), decide_eq_false (show ¬ (bt s 0 = 104 ∧ s.size ≤ 18) from fun h => h3 h.1), Bool.or_false, Bool.and_false]

/-! ### key.Text -/
theorem bt_head (s : ByteArray) : bt s 0 = (bytesOf s).headD 0 := by
  rw [← rd_bytesOf, rd]
  cases bytesOf s <;> rfl
theorem textL_head {L : List Int} (h : keyL L = true) : [L.headD 0, 45] ++ hexL (L.drop 1) = textL L := by
  cases L with
  | nil => simp [keyL] at h
  | cons c l => rfl
theorem key_Text_loop (X : List Int) (hX : By X) (hl : X.length ≤ 1000) : ∀ (d i : Nat) (acc : List Int), i + d = X.length → acc.length + 2 * d ≤ 100000 → Ev (fun k => key_Text.l0 k acc X (X.length : Int) (i : Int)) (strOfNums (acc ++ hexL (X.drop i)), 0) := by
  intro d
  induction d with
  | zero =>
    intro i acc hi ha
    refine Ev.step (f := fun _ => some (strOfNums acc, 0)) (fun k => ?_) (Ev.eqv Ev.some' ?_)
    · show key_Text.l0 (k + 1) _ _ _ _ = _
      rw [key_Text.l0, if_neg (by omega)]
    · rw [show X.drop i = [] from List.drop_eq_nil_of_le (by omega), hexL, List.append_nil]
  | succ d ih =>
    intro i acc hi ha
    have hiX : i < X.length := by omega
    have hb := hX X[i] (List.getElem_mem hiX)
    have e1 : Int.tdiv X[i] 16 % 256 = X[i] / 16 := by rw [Int.tdiv_eq_ediv_of_nonneg hb.1]; omega
    have e2 : Int.tmod X[i] 16 = X[i] % 16 := Int.tmod_eq_emod_of_nonneg hb.1
    refine Ev.step (f := fun k => key_Text.l0 k (acc ++ [hx (X[i] / 16), hx (X[i] % 16)]) X (X.length : Int) ((i + 1 : Nat) : Int)) (fun k => ?_) (Ev.eqv (ih (i + 1) (acc ++ [hx (X[i] / 16), hx (X[i] % 16)]) (by omega) (by simp only [List.length_append, List.length_cons, List.length_nil]; omega)) ?_)
    · show key_Text.l0 (k + 1) _ _ _ _ = _
      rw [key_Text.l0, if_pos (by omega), if_pos (by omega), if_pos (by omega), rd_at hiX, e1, e2, if_pos (by omega), if_pos (by omega), if_pos (by omega), if_pos (by omega), tab_hx _ (by omega) (by omega), tab_hx _ (by omega) (by omega), Option.bind_some, if_pos (show acc.length + ([hx (X[i] / 16), hx (X[i] % 16)] : List Int).length < 140737488355328 by simp only [List.length_cons, List.length_nil]; omega), wrap_next hiX (by omega)]
    · rw [List.drop_eq_getElem_cons hiX, hexL]; simp
theorem key_Text_s (s : ByteArray) (hs : s.size ≤ maxLen) : Ev (fun k => key_Text.f k s) (if keyB s = true then (strOfNums (textL (bytesOf s)), 0) else ((⟨#[]⟩ : ByteArray), 1)) := by
  refine Ev.congr (f := fun k => if keyB s = true then (if 0 < (s.size : Int) then (if 1 ≤ (s.size : Int) then (if ((s.extract 1 s.size).size : Int) ≤ 281474976710656 then ((some (bytesOf (s.extract 1 s.size) : List Int)).bind fun y151 => (key_Text.l0 k (([bt s 0, 45] : List Int)) y151 (y151.length : Int) 0)) else (none)) else (none)) else (none)) else (some ((⟨#[]⟩ : ByteArray), 1))) (fun k => by unfold key_Text.f; rw [key_Right_s s hs]; rfl) ?_
  by_cases h : keyB s = true
  · rw [if_pos h]
    refine Ev.pos h ?_
    have hl := h
    rw [keyB_L] at hl
    have h2 := keyL_len hl
    rw [bytesOf_length] at h2
    have hz : (s.extract 1 s.size).size = s.size - 1 := by rw [ByteArray.size_extract]; omega
    refine Ev.pos (by omega) (Ev.pos (by omega) (Ev.pos (by rw [hz]; omega) ?_))
    have hL : ((bytesOf s).drop 1).length = s.size - 1 := by rw [List.length_drop, bytesOf_length]
    refine Ev.eqv (Ev.congr (f := fun k => key_Text.l0 k [bt s 0, 45] ((bytesOf s).drop 1) (((bytesOf s).drop 1).length : Int) ((0 : Nat) : Int)) (fun k => by rw [bytes_cut, Option.bind_some]; rfl) (key_Text_loop _ (By.drop 1 (bytesOf_by s)) (by omega) ((bytesOf s).drop 1).length 0 [bt s 0, 45] (by omega) (by simp only [List.length_cons, List.length_nil]; omega))) ?_
    rw [bt_head, List.drop_zero, textL_head hl]
  · rw [if_neg h]
    exact Ev.neg h Ev.some'

/-! ### key.digit -/
theorem key_digit_s (c : Int) : key_digit.f c = some (dg c) := rfl

/-! ### key.Parse -/
/-- What reading a key's text comes to. -/
def parseR (o : Option (List Int)) : ByteArray × Int := match o with | some x => (strOfNums x, 0) | none => ((⟨#[]⟩ : ByteArray), 2)
theorem wrap_dg {x y : Int} (hx : 0 ≤ x ∧ x ≤ 15) (hy : 0 ≤ y ∧ y ≤ 15) : wrap64 (wrap64 (16 * x) + y) % 256 = 16 * x + y := by unfold wrap64; omega
theorem key_Parse_loop (s : ByteArray) (hs : s.size ≤ 100000000) : ∀ (d i : Nat) (acc : List Int), i + 2 * d = s.size → By acc → acc.length + d ≤ 100000000 → Ev (fun k => key_Parse.l0 k s acc (i : Int)) (parseR ((unhex ((bytesOf s).drop i)).bind fun x => if keyL (acc ++ x) = true then some (acc ++ x) else none)) := by
  intro d
  induction d with
  | zero =>
    intro i acc hi hb ha
    refine Ev.step (f := fun k => if keyB (strOfNums acc) = true then (some (strOfNums acc, 0)) else (some ((⟨#[]⟩ : ByteArray), 2))) (fun k => ?_) ?_
    · show key_Parse.l0 (k + 1) _ _ _ = _
      rw [key_Parse.l0, if_neg (by omega), key_Right_s _ (by rw [str_size]; simp only [maxLen]; omega), Option.bind_some]
    · rw [show (bytesOf s).drop i = [] from List.drop_eq_nil_of_le (by rw [bytesOf_length]; omega), unhex, Option.bind_some, List.append_nil, keyB_str hb]
      by_cases h : keyL acc = true
      · exact Ev.eqv (Ev.pos h Ev.some') (by rw [if_pos h]; rfl)
      · exact Ev.eqv (Ev.neg h Ev.some') (by rw [if_neg h]; rfl)
  | succ d ih =>
    intro i acc hi hb ha
    have hL := bytesOf_length s
    have g1 : bt s (i : Int) = (bytesOf s)[i]'(by omega) := bt_get (by omega)
    have g2 : bt s ((i + 1 : Nat) : Int) = (bytesOf s)[i + 1]'(by omega) := bt_get (by omega)
    have w1 : wrap64 ((i : Int) + 1) = ((i + 1 : Nat) : Int) := by unfold wrap64; omega
    have w2 : wrap64 ((i : Int) + 2) = ((i + 2 : Nat) : Int) := by unfold wrap64; omega
    have hd : (bytesOf s).drop i = (bytesOf s)[i]'(by omega) :: (bytesOf s)[i + 1]'(by omega) :: (bytesOf s).drop (i + 2) := by
      rw [List.drop_eq_getElem_cons (by omega), List.drop_eq_getElem_cons (by omega)]
    have ra := dg_range ((bytesOf s)[i]'(by omega))
    have rb := dg_range ((bytesOf s)[i + 1]'(by omega))
    rw [hd, unhex]
    generalize (bytesOf s)[i]'(by omega) = a at *
    generalize (bytesOf s)[i + 1]'(by omega) = b at *
    refine Ev.step (f := fun k => if dg a = 16 then some ((⟨#[]⟩ : ByteArray), 2) else if dg b = 16 then some ((⟨#[]⟩ : ByteArray), 2) else key_Parse.l0 k s (acc ++ [(wrap64 ((wrap64 (16 * dg a)) + dg b)) % 256]) ((i + 2 : Nat) : Int)) (fun k => ?_) ?_
    · show key_Parse.l0 (k + 1) _ _ _ = _
      rw [key_Parse.l0, if_pos (by omega), if_pos (by omega), g1, key_digit_s, Option.bind_some, w1, if_pos (by omega), if_pos (by omega), g2, key_digit_s, Option.bind_some, if_pos (show acc.length < 140737488355328 by omega), w2]
    · by_cases ca : dg a = 16
      · rw [if_pos (.inl ca)]; exact Ev.pos ca Ev.some'
      · by_cases cb : dg b = 16
        · rw [if_pos (.inr cb)]; exact Ev.neg ca (Ev.pos cb Ev.some')
        · rw [if_neg (fun h => h.elim ca cb)]
          have e : wrap64 (wrap64 (16 * dg a) + dg b) % 256 = 16 * dg a + dg b := wrap_dg (by omega) (by omega)
          clear w1 w2 g1 g2 hd
          refine Ev.neg ca (Ev.neg cb ?_)
          rw [e]
          refine Ev.eqv (ih (i + 2) (acc ++ [16 * dg a + dg b]) (by omega) (By.app.2 ⟨hb, By.cons.2 ⟨by omega, By.nil⟩⟩) (by simp only [List.length_append, List.length_cons, List.length_nil]; omega)) ?_
          cases unhex ((bytesOf s).drop (i + 2)) with
          | none => rfl
          | some x => simp [Option.map_some]
theorem key_Parse_s (s : ByteArray) (hs : s.size ≤ 100000000) : Ev (fun k => key_Parse.f k s) (parseR (parseL (bytesOf s))) := by
  have hL := bytesOf_length s
  have hj : Ev (fun k => key_Parse.j0 k s true) (parseR none) := Ev.step (f := fun _ => some ((⟨#[]⟩ : ByteArray), 2)) (fun k => by show key_Parse.j0 (k + 1) _ _ = _; rw [key_Parse.j0, if_pos rfl]) Ev.some'
  by_cases h : (s.size : Int) < 2
  · refine Ev.congr (fun k => by unfold key_Parse.f; rw [if_pos h]) (Ev.eqv hj ?_)
    generalize bytesOf s = L at *
    cases L with
    | nil => rfl
    | cons a l => cases l with
      | nil => rfl
      | cons b l => simp at hL; omega
  · have g0 : bt s 0 = (bytesOf s)[0]'(by omega) := bt_get (i := 0) (by omega)
    have g1 : bt s 1 = (bytesOf s)[1]'(by omega) := bt_get (i := 1) (by omega)
    have hd : bytesOf s = bt s 0 :: bt s 1 :: (bytesOf s).drop 2 := by
      rw [g0, g1]
      conv => lhs; rw [← List.drop_zero (l := bytesOf s)]
      rw [List.drop_eq_getElem_cons (by omega), List.drop_eq_getElem_cons (by omega)]
    have hp : parseL (bytesOf s) = if bt s 1 = 45 then (unhex ((bytesOf s).drop 2)).bind (fun x => if keyL (bt s 0 :: x) = true then some (bt s 0 :: x) else none) else none := by
      conv => lhs; rw [hd, parseL]
    rw [hp]
    by_cases c : bt s 1 = 45
    · rw [if_pos c]
      have odd : ∀ l : List Int, l.length % 2 = 1 → unhex l = none := by
        intro l
        induction l using unhex.induct with
        | case1 => intro h; simp at h
        | case2 => intro _; rfl
        | case3 a b l hd => intro h; rw [unhex, if_pos hd]
        | case4 a b l hd ih => intro h; rw [unhex, if_neg hd, ih (by simp at h; omega)]; rfl
      by_cases p : s.size % 2 = 0
      · refine Ev.congr (f := fun k => key_Parse.j0 k s false) (fun k => by unfold key_Parse.f; rw [if_neg h, if_pos (by omega), if_pos c, show ((s.size : Int) % 2 != 0) = false from by rw [bne_eq_false_iff_eq]; omega]) ?_
        refine Ev.step (f := fun k => key_Parse.l0 k s [bt s 0] ((2 : Nat) : Int)) (fun k => ?_) (Ev.eqv (key_Parse_loop s hs ((s.size - 2) / 2) 2 [bt s 0] (by omega) (By.cons.2 ⟨bt_range s 0, By.nil⟩) (by simp; omega)) rfl)
        show key_Parse.j0 (k + 1) _ _ = _
        rw [key_Parse.j0, if_neg (by decide), if_pos (by omega)]
        rfl
      · refine Ev.congr (f := fun k => key_Parse.j0 k s true) (fun k => by unfold key_Parse.f; rw [if_neg h, if_pos (by omega), if_pos c, show ((s.size : Int) % 2 != 0) = true from by rw [bne_iff_ne]; omega]) ?_
        rw [odd _ (by rw [List.length_drop]; omega)]
        exact hj
    · rw [if_neg c]
      exact Ev.congr (fun k => by unfold key_Parse.f; rw [if_neg h, if_pos (by omega), if_neg c]) hj

/-! ### boarderlaw07.knows -/
theorem boarderlaw07_knows_s : Ev (fun k => boarderlaw07_knows.f k) true := Ev.of (k := 60) boarderlaw07_knows.mono (by kernel_rfl)

end Go.Proofs.YtkjmfnijagdhpaaDoor.PKey
