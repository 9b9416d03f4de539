/- The law KeyHangs holds of the printed functions; no condition beyond the law's own. -/
import Derived.Test.YtkjmfnijagdhpaaDoorKeyRKeyHangs
import Derived.Test.YtkjmfnijagdhpaaDoorPKeyx4
import Derived.Test.YtkjmfnijagdhpaaDoorPKeyx5
import Derived.Test.YtkjmfnijagdhpaaDoorPKeyx6
import Derived.Test.YtkjmfnijagdhpaaDoorKeyHex
import Derived.Test.YtkjmfnijagdhpaaDoorKeyOpt
import Derived.Test.YtkjmfnijagdhpaaDoorKeyS0
set_option linter.unusedVariables false
set_option linter.unusedSimpArgs false
namespace Go.Proofs.YtkjmfnijagdhpaaDoor.PKey
open Go.RowKit Go.Proofs.YtkjmfnijagdhpaaDoorW.PrintWords Go.Proofs.YtkjmfnijagdhpaaDoorW.PrintLast Go.Proofs.YtkjmfnijagdhpaaDoorW.PrintMore

/-! ### boarderlaw03.Great -/
open Classical in
theorem boarderlaw03_Great_s (l : List Ot) (hl : l.length ≤ maxLen) : Ev (fun k => boarderlaw03_Great.f k l) (decide ¬ SmO l) := by
  simp only [maxLen] at hl
  refine Ev.congr (f := fun k => boarderlaw03_Great.l0 k l 0) (fun k => rfl) ?_
  refine loopC (n := l.length) (L := fun k i => boarderlaw03_Great.l0 k l i) (fun i => ∀ h : i < l.length, l[i].f1.length ≤ 1000) true (fun i hi hp r h => ?_) (fun i hi hp => ?_) (fun h => ?_) ?_
  · have w1 : wrap64 ((i : Int) + 1) = ((i + 1 : Nat) : Int) := by unfold wrap64; omega
    have e : rd_T52 l (i : Int) = l[i] := rd_get hi
    have := hp hi
    refine Ev.step (fun k => ?_) h
    show boarderlaw03_Great.l0 (k + 1) _ _ = _
    rw [boarderlaw03_Great.l0, if_pos (by omega), if_pos (by omega), e, if_neg (by omega), w1]
  · have e : rd_T52 l (i : Int) = l[i] := rd_get hi
    have h2 : 1000 < l[i].f1.length := by
      rcases Nat.lt_or_ge 1000 l[i].f1.length with h | h
      · exact h
      · exact absurd (fun _ => h) hp
    clear hp
    refine Ev.step (f := fun _ => some true) (fun k => ?_) Ev.some'
    show boarderlaw03_Great.l0 (k + 1) _ _ = _
    rw [boarderlaw03_Great.l0, if_pos (by omega), if_pos (by omega), e, if_pos (by omega)]
  · refine Ev.step (f := fun _ => some (decide ((l.length : Int) > 100))) (fun k => ?_) (Ev.eqv Ev.some' ?_)
    · show boarderlaw03_Great.l0 (k + 1) _ _ = _
      rw [boarderlaw03_Great.l0, if_neg (by omega)]
    · rw [decide_eq_decide]
      unfold SmO
      constructor
      · intro h2 h3; omega
      · intro h2
        rcases Nat.lt_or_ge 100 l.length with h3 | h3
        · omega
        · refine absurd ⟨h3, fun o ho => ?_⟩ h2
          obtain ⟨i, hi, rfl⟩ := List.mem_iff_getElem.1 ho
          exact h i hi hi
  · rintro ⟨i, hi, h⟩
    rw [decide_eq_true_iff]
    exact fun h2 => h (fun h3 => h2.2 _ (List.getElem_mem h3))

/-! ### boarderlaw04.Great -/
open Classical in
theorem boarderlaw04_Great_s (a0 a1 a2 a3 a4 a5 a6 a7 a8 a9 a10 : Int) (ch : List Int) (l : List Ot) (hl : l.length ≤ maxLen) : Ev (fun k => boarderlaw04_Great.f k a0 a1 a2 a3 a4 a5 a6 a7 a8 a9 a10 ch l) (decide ¬ (ch.length ≤ 100 ∧ SmO l)) := by
  by_cases h : (ch.length : Int) > 100
  · refine Ev.congr (f := fun _ => some true) (fun k => by unfold boarderlaw04_Great.f; rw [if_pos h]) (Ev.eqv Ev.some' ?_)
    symm; rw [decide_eq_true_iff]; exact fun h2 => by omega
  · refine Ev.congr (f := fun k => (boarderlaw03_Great.f k l).bind fun t => some t) (fun k => by unfold boarderlaw04_Great.f; rw [if_neg h]) (Ev.eqv (Ev.bind (boarderlaw03_Great_s l hl) (f := fun _ t => some t) Ev.some') ?_)
    rw [decide_eq_decide]
    exact ⟨fun h2 h3 => h2 h3.2, fun h2 h3 => h2 ⟨by omega, h3⟩⟩

/-! ### boarderref01.Right -/
theorem boarderref01_Right_s (a : Int) : boarderref01_Right.f a = some (decide (0 ≤ a ∧ a ≤ 4294967295)) := by
  unfold boarderref01_Right.f
  by_cases h : a ≥ 0
  · rw [if_pos h]; congr 1; exact decide_eq_decide.2 ⟨fun h2 => ⟨h, by omega⟩, fun h2 => by omega⟩
  · rw [if_neg h, decide_eq_false (by omega)]

/-! ### boarderref03.Has -/
theorem boarderref03_Has_loop (l : List Ot) (hl : l.length ≤ 1000) (c : Int) : ∀ (d i n : Nat), i + d = l.length → n ≤ i → Ev (fun k => boarderref03_Has.l0 k l c (n : Int) (i : Int)) ((n + cntO (l.drop i) c : Nat) : Int) := by
  intro d
  induction d with
  | zero =>
    intro i n hi hn
    refine Ev.step (f := fun _ => some (n : Int)) (fun k => ?_) (Ev.eqv Ev.some' ?_)
    · show boarderref03_Has.l0 (k + 1) _ _ _ _ = _
      rw [boarderref03_Has.l0, if_neg (by omega)]
    · rw [show l.drop i = [] from List.drop_eq_nil_of_le (by omega)]; rfl
  | succ d ih =>
    intro i n hi hn
    have hlt : i < l.length := by omega
    have e : rd_T52 l (i : Int) = l[i] := rd_get hlt
    have w : wrap64 ((n : Int) + 1) = ((n + 1 : Nat) : Int) := by unfold wrap64; omega
    have hc : cntO (l.drop i) c = cntO (l.drop (i + 1)) c + if l[i].f0 = c then 1 else 0 := by
      rw [List.drop_eq_getElem_cons hlt]
      unfold cntO
      rw [List.countP_cons]
      congr 1
      by_cases h : l[i].f0 = c <;> simp [h]
    by_cases h : l[i].f0 = c
    · rw [if_pos h] at hc
      refine Ev.step (f := fun k => boarderref03_Has.l0 k l c ((n + 1 : Nat) : Int) ((i + 1 : Nat) : Int)) (fun k => ?_) (Ev.eqv (ih (i + 1) (n + 1) (by omega) (by omega)) (by rw [hc]; omega))
      show boarderref03_Has.l0 (k + 1) _ _ _ _ = _
      rw [boarderref03_Has.l0, if_pos (by omega), if_pos (by omega), e, if_pos h, w, wrap_next hlt (by omega)]
    · rw [if_neg h] at hc
      refine Ev.step (f := fun k => boarderref03_Has.l0 k l c (n : Int) ((i + 1 : Nat) : Int)) (fun k => ?_) (Ev.eqv (ih (i + 1) n (by omega) (by omega)) (by rw [hc]; omega))
      show boarderref03_Has.l0 (k + 1) _ _ _ _ = _
      rw [boarderref03_Has.l0, if_pos (by omega), if_pos (by omega), e, if_neg h, wrap_next hlt (by omega)]
theorem boarderref03_Has_s (l : List Ot) (hl : l.length ≤ 1000) (c : Int) : Ev (fun k => boarderref03_Has.f k l c) ((cntO l c : Nat) : Int) :=
  Ev.eqv (boarderref03_Has_loop l hl c l.length 0 0 (by omega) (by omega)) (by rw [List.drop_zero]; omega)

/-! ### boarderref03.Right -/
open Classical in
theorem boarderref03_Right_s (l : List Ot) (hl : SmO l) : Ev (fun k => boarderref03_Right.f k l) (decide (RightO l)) := by
  have hn := hl.1
  by_cases h60 : (l.length : Int) > 60
  · refine Ev.congr (f := fun _ => some false) (fun k => by unfold boarderref03_Right.f; rw [if_pos h60]) (Ev.eqv Ev.some' ?_)
    symm; rw [decide_eq_false_iff_not]; exact fun h => by have := h.1; omega
  refine Ev.congr (f := fun k => boarderref03_Right.l0 k l 0) (fun k => by unfold boarderref03_Right.f; rw [if_neg h60]) ?_
  refine loopC (n := l.length) (L := fun k i => boarderref03_Right.l0 k l i) (fun i => ∀ h : i < l.length, (1 ≤ l[i].f0 ∧ l[i].f0 ≤ 254 ∧ l[i].f1.length ≤ 600) ∧ cntO l l[i].f0 ≤ 1) false (fun i hi hp r h => ?_) (fun i hi hp => ?_) (fun h => ?_) ?_
  · have e : rd_T52 l (i : Int) = l[i] := rd_get hi
    have hp := hp hi
    refine Ev.step (f := fun k => (boarderref03_Has.f k l l[i].f0).bind fun t => if t > 1 then some false else boarderref03_Right.l0 k l ((i + 1 : Nat) : Int)) (fun k => ?_) (Ev.bind (boarderref03_Has_s l (by omega) _) (f := fun k t => if t > 1 then some false else boarderref03_Right.l0 k l ((i + 1 : Nat) : Int)) (Ev.neg (by omega) h))
    show boarderref03_Right.l0 (k + 1) _ _ = _
    rw [boarderref03_Right.l0, if_pos (by omega), if_pos (by omega), e, if_neg (by omega), if_neg (by omega), if_neg (by omega), wrap_next hi (by omega)]
  · have e : rd_T52 l (i : Int) = l[i] := rd_get hi
    by_cases h1 : 1 ≤ l[i].f0 ∧ l[i].f0 ≤ 254 ∧ l[i].f1.length ≤ 600
    · refine Ev.step (f := fun k => (boarderref03_Has.f k l l[i].f0).bind fun t => if t > 1 then some false else boarderref03_Right.l0 k l ((i + 1 : Nat) : Int)) (fun k => ?_) (Ev.bind (boarderref03_Has_s l (by omega) _) (f := fun k t => if t > 1 then some false else boarderref03_Right.l0 k l ((i + 1 : Nat) : Int)) (Ev.pos ?_ Ev.some'))
      · show boarderref03_Right.l0 (k + 1) _ _ = _
        rw [boarderref03_Right.l0, if_pos (by omega), if_pos (by omega), e, if_neg (by omega), if_neg (by omega), if_neg (by omega), wrap_next hi (by omega)]
      · by_cases h2 : cntO l l[i].f0 ≤ 1
        · exact absurd (fun _ => ⟨h1, h2⟩) hp
        · omega
    · refine Ev.step (f := fun _ => some false) (fun k => ?_) Ev.some'
      show boarderref03_Right.l0 (k + 1) _ _ = _
      rw [boarderref03_Right.l0, if_pos (by omega), if_pos (by omega), e]
      by_cases c1 : l[i].f0 < 1
      · rw [if_pos c1]
      · rw [if_neg c1]
        by_cases c2 : l[i].f0 > 254
        · rw [if_pos c2]
        · rw [if_neg c2, if_pos (by omega)]
  · refine Ev.step (f := fun _ => some true) (fun k => ?_) (Ev.eqv Ev.some' ?_)
    · show boarderref03_Right.l0 (k + 1) _ _ = _
      rw [boarderref03_Right.l0, if_neg (by omega)]
    · symm; rw [decide_eq_true_iff]
      refine ⟨by omega, fun i hi => (h i hi hi).1, (dist_cnt l).2 (fun x hx => ?_)⟩
      obtain ⟨i, hi, rfl⟩ := List.mem_iff_getElem.1 hx
      exact (h i hi hi).2
  · rintro ⟨i, hi, h⟩
    rw [decide_eq_false_iff_not]
    exact fun h2 => h (fun h3 => ⟨h2.2.1 i h3, (dist_cnt l).1 h2.2.2 _ (List.getElem_mem h3)⟩)

/-! ### boarderref04.Right -/
open Classical in
theorem boarderref04_Right_s (a0 a1 a2 a3 a4 a5 a6 a7 a8 a9 a10 : Int) (ch : List Int) (l : List Ot) (hl : SmO l) : Ev (fun k => boarderref04_Right.f k a0 a1 a2 a3 a4 a5 a6 a7 a8 a9 a10 ch l) (decide (MsgP a0 a1 a2 a3 a4 a5 a6 a7 a8 a9 a10 ch l)) := by
  have hn := hl.1
  have no : ¬ MsgP a0 a1 a2 a3 a4 a5 a6 a7 a8 a9 a10 ch l → Ev (fun k => boarderref04_Right.j0 k true a0 a1 a2 a3 a4 a5 a6 a7 a8 a9 a10 ch l) (decide (MsgP a0 a1 a2 a3 a4 a5 a6 a7 a8 a9 a10 ch l)) ∧ Ev (fun k => boarderref04_Right.j1 k true a0 a1 a2 a3 a4 a5 a6 a7 a8 a9 a10 ch l) (decide (MsgP a0 a1 a2 a3 a4 a5 a6 a7 a8 a9 a10 ch l)) ∧ Ev (fun k => boarderref04_Right.j2 k true a0 a1 a2 a3 a4 a5 a6 a7 a8 a9 a10 ch l) (decide (MsgP a0 a1 a2 a3 a4 a5 a6 a7 a8 a9 a10 ch l)) := by
    intro hM
    rw [decide_eq_false hM]
    exact ⟨Ev.step (f := fun _ => some false) (fun k => rfl) Ev.some', Ev.step (f := fun _ => some false) (fun k => rfl) Ev.some', Ev.step (f := fun _ => some false) (fun k => rfl) Ev.some'⟩
  have J2 : ¬ ((0 ≤ a0 ∧ a0 ≤ 255) ∧ (0 ≤ a1 ∧ a1 ≤ 255) ∧ (0 ≤ a3 ∧ a3 ≤ 255) ∧ (0 ≤ a2 ∧ a2 ≤ 16) ∧ (0 ≤ a5 ∧ a5 ≤ 65535) ∧ (0 ≤ a6 ∧ a6 ≤ 65535) ∧ ((0 ≤ a4 ∧ a4 ≤ 4294967295) ∧ (0 ≤ a7 ∧ a7 ≤ 4294967295) ∧ (0 ≤ a8 ∧ a8 ≤ 4294967295) ∧ (0 ≤ a9 ∧ a9 ≤ 4294967295) ∧ (0 ≤ a10 ∧ a10 ≤ 4294967295))) ∨ Ev (fun k => boarderref04_Right.j2 k false a0 a1 a2 a3 a4 a5 a6 a7 a8 a9 a10 ch l) (decide (MsgP a0 a1 a2 a3 a4 a5 a6 a7 a8 a9 a10 ch l)) := by
    by_cases h : ((0 ≤ a0 ∧ a0 ≤ 255) ∧ (0 ≤ a1 ∧ a1 ≤ 255) ∧ (0 ≤ a3 ∧ a3 ≤ 255) ∧ (0 ≤ a2 ∧ a2 ≤ 16) ∧ (0 ≤ a5 ∧ a5 ≤ 65535) ∧ (0 ≤ a6 ∧ a6 ≤ 65535) ∧ ((0 ≤ a4 ∧ a4 ≤ 4294967295) ∧ (0 ≤ a7 ∧ a7 ≤ 4294967295) ∧ (0 ≤ a8 ∧ a8 ≤ 4294967295) ∧ (0 ≤ a9 ∧ a9 ≤ 4294967295) ∧ (0 ≤ a10 ∧ a10 ≤ 4294967295)))
    · refine .inr (Ev.step (f := fun k => if (ch.length : Int) = 16 then ((boarderref03_Right.f k l).bind fun t194 => (if t194 = true then ((boarderref03_Has.f k l 52).bind fun t195 => (some (t195 == 0))) else (some false))) else (some false)) (fun k => rfl) ?_)
      obtain ⟨h0, h1, h3, h2, h5, h6, h7⟩ := h
      by_cases c4 : (ch.length : Int) = 16
      · refine Ev.pos c4 (Ev.bind (boarderref03_Right_s l hl) (f := fun k t194 => if t194 = true then ((boarderref03_Has.f k l 52).bind fun t195 => (some (t195 == 0))) else (some false)) ?_)
        by_cases c5 : RightO l
        · refine Ev.pos (by rw [decide_eq_true_iff]; exact c5) (Ev.eqv (Ev.bind (boarderref03_Has_s l (by omega) 52) (f := fun _ t => some (t == 0)) Ev.some') ?_)
          have hm : MsgP a0 a1 a2 a3 a4 a5 a6 a7 a8 a9 a10 ch l ↔ cntO l 52 = 0 := by
            rw [cntO_zero]
            exact ⟨fun hM => hM.2.2.2.2.2.2.2.2.2, fun hM => ⟨h0, h1, h3, h2, h5, h6, h7, by omega, c5, hM⟩⟩
          by_cases c6 : cntO l 52 = 0
          · rw [decide_eq_true (hm.2 c6), c6]; rfl
          · rw [decide_eq_false (fun h => c6 (hm.1 h)), beq_eq_false_iff_ne]; omega
        · refine Ev.neg (by rw [decide_eq_true_iff]; exact c5) (Ev.eqv Ev.some' ?_)
          rw [decide_eq_false (fun hM : MsgP _ _ _ _ _ _ _ _ _ _ _ _ _ => c5 hM.2.2.2.2.2.2.2.2.1)]
      · refine Ev.neg c4 (Ev.eqv Ev.some' ?_)
        rw [decide_eq_false (fun hM : MsgP _ _ _ _ _ _ _ _ _ _ _ _ _ => c4 (by have := hM.2.2.2.2.2.2.2.1; omega))]
    · exact .inl h
  have J1 : ¬ ((0 ≤ a0 ∧ a0 ≤ 255) ∧ (0 ≤ a1 ∧ a1 ≤ 255) ∧ (0 ≤ a3 ∧ a3 ≤ 255) ∧ (0 ≤ a2 ∧ a2 ≤ 16) ∧ (0 ≤ a5 ∧ a5 ≤ 65535) ∧ (0 ≤ a6 ∧ a6 ≤ 65535) ∧ (0 ≤ a4 ∧ a4 ≤ 4294967295)) ∨ Ev (fun k => boarderref04_Right.j1 k false a0 a1 a2 a3 a4 a5 a6 a7 a8 a9 a10 ch l) (decide (MsgP a0 a1 a2 a3 a4 a5 a6 a7 a8 a9 a10 ch l)) := by
    by_cases h : ((0 ≤ a0 ∧ a0 ≤ 255) ∧ (0 ≤ a1 ∧ a1 ≤ 255) ∧ (0 ≤ a3 ∧ a3 ≤ 255) ∧ (0 ≤ a2 ∧ a2 ≤ 16) ∧ (0 ≤ a5 ∧ a5 ≤ 65535) ∧ (0 ≤ a6 ∧ a6 ≤ 65535) ∧ (0 ≤ a4 ∧ a4 ≤ 4294967295))
    · refine .inr ?_
      obtain ⟨h0, h1, h3, h2, h5, h6, h4⟩ := h
      have step : ∀ k, boarderref04_Right.j1 (k + 1) false a0 a1 a2 a3 a4 a5 a6 a7 a8 a9 a10 ch l = if 0 ≤ a7 ∧ a7 ≤ 4294967295 then (if 0 ≤ a8 ∧ a8 ≤ 4294967295 then (if 0 ≤ a9 ∧ a9 ≤ 4294967295 then boarderref04_Right.j2 k (!decide (0 ≤ a10 ∧ a10 ≤ 4294967295)) a0 a1 a2 a3 a4 a5 a6 a7 a8 a9 a10 ch l else boarderref04_Right.j2 k true a0 a1 a2 a3 a4 a5 a6 a7 a8 a9 a10 ch l) else boarderref04_Right.j2 k true a0 a1 a2 a3 a4 a5 a6 a7 a8 a9 a10 ch l) else boarderref04_Right.j2 k true a0 a1 a2 a3 a4 a5 a6 a7 a8 a9 a10 ch l := by
        intro k
        rw [boarderref04_Right.j1, if_neg (by decide)]
        simp only [boarderref01_Right_s, Option.bind_some, decide_eq_true_eq]
      refine Ev.step step ?_
      by_cases c7 : 0 ≤ a7 ∧ a7 ≤ 4294967295
      · refine Ev.pos c7 ?_
        by_cases c8 : 0 ≤ a8 ∧ a8 ≤ 4294967295
        · refine Ev.pos c8 ?_
          by_cases c9 : 0 ≤ a9 ∧ a9 ≤ 4294967295
          · refine Ev.pos c9 ?_
            by_cases c10 : 0 ≤ a10 ∧ a10 ≤ 4294967295
            · rw [decide_eq_true c10]
              exact J2.resolve_left (fun h => h ⟨h0, h1, h3, h2, h5, h6, h4, c7, c8, c9, c10⟩)
            · rw [decide_eq_false c10]
              exact (no (fun hM => c10 hM.2.2.2.2.2.2.1.2.2.2.2)).2.2
          · exact Ev.neg c9 (no (fun hM => c9 hM.2.2.2.2.2.2.1.2.2.2.1)).2.2
        · exact Ev.neg c8 (no (fun hM => c8 hM.2.2.2.2.2.2.1.2.2.1)).2.2
      · exact Ev.neg c7 (no (fun hM => c7 hM.2.2.2.2.2.2.1.2.1)).2.2
    · exact .inl h
  have J0 : ¬ ((0 ≤ a0 ∧ a0 ≤ 255) ∧ (0 ≤ a1 ∧ a1 ≤ 255) ∧ (0 ≤ a3 ∧ a3 ≤ 255) ∧ (0 ≤ a2 ∧ a2 ≤ 16)) ∨ Ev (fun k => boarderref04_Right.j0 k false a0 a1 a2 a3 a4 a5 a6 a7 a8 a9 a10 ch l) (decide (MsgP a0 a1 a2 a3 a4 a5 a6 a7 a8 a9 a10 ch l)) := by
    by_cases h : ((0 ≤ a0 ∧ a0 ≤ 255) ∧ (0 ≤ a1 ∧ a1 ≤ 255) ∧ (0 ≤ a3 ∧ a3 ≤ 255) ∧ (0 ≤ a2 ∧ a2 ≤ 16))
    · refine .inr ?_
      obtain ⟨h0, h1, h3, h2⟩ := h
      have step : ∀ k, boarderref04_Right.j0 (k + 1) false a0 a1 a2 a3 a4 a5 a6 a7 a8 a9 a10 ch l = if 0 ≤ a4 ∧ a4 ≤ 4294967295 then (if a5 < 0 then boarderref04_Right.j1 k true a0 a1 a2 a3 a4 a5 a6 a7 a8 a9 a10 ch l else if a5 > 65535 then boarderref04_Right.j1 k true a0 a1 a2 a3 a4 a5 a6 a7 a8 a9 a10 ch l else if a6 < 0 then boarderref04_Right.j1 k true a0 a1 a2 a3 a4 a5 a6 a7 a8 a9 a10 ch l else boarderref04_Right.j1 k (decide (a6 > 65535)) a0 a1 a2 a3 a4 a5 a6 a7 a8 a9 a10 ch l) else boarderref04_Right.j1 k true a0 a1 a2 a3 a4 a5 a6 a7 a8 a9 a10 ch l := by
        intro k
        rw [boarderref04_Right.j0, if_neg (by decide)]
        simp only [boarderref01_Right_s, Option.bind_some, decide_eq_true_eq]
      refine Ev.step step ?_
      by_cases c4 : 0 ≤ a4 ∧ a4 ≤ 4294967295
      · refine Ev.pos c4 ?_
        by_cases c5 : a5 < 0
        · exact Ev.pos c5 (no (fun hM => by have := hM.2.2.2.2.1; omega)).2.1
        · refine Ev.neg c5 ?_
          by_cases c5' : a5 > 65535
          · exact Ev.pos c5' (no (fun hM => by have := hM.2.2.2.2.1; omega)).2.1
          · refine Ev.neg c5' ?_
            by_cases c6 : a6 < 0
            · exact Ev.pos c6 (no (fun hM => by have := hM.2.2.2.2.2.1; omega)).2.1
            · refine Ev.neg c6 ?_
              by_cases c6' : a6 > 65535
              · rw [decide_eq_true c6']
                exact (no (fun hM => by have := hM.2.2.2.2.2.1; omega)).2.1
              · rw [decide_eq_false c6']
                exact J1.resolve_left (fun h => h ⟨h0, h1, h3, h2, by omega, by omega, c4⟩)
      · exact Ev.neg c4 (no (fun hM => c4 hM.2.2.2.2.2.2.1.1)).2.1
    · exact .inl h
  clear J1 J2
  unfold boarderref04_Right.f
  by_cases c0 : a0 < 0
  · exact Ev.pos c0 (no (fun hM => by have := hM.1; omega)).1
  refine Ev.neg c0 ?_
  by_cases c0' : a0 > 255
  · exact Ev.pos c0' (no (fun hM => by have := hM.1; omega)).1
  refine Ev.neg c0' ?_
  by_cases c1 : a1 < 0
  · exact Ev.pos c1 (no (fun hM => by have := hM.2.1; omega)).1
  refine Ev.neg c1 ?_
  by_cases c1' : a1 > 255
  · exact Ev.pos c1' (no (fun hM => by have := hM.2.1; omega)).1
  refine Ev.neg c1' ?_
  by_cases c2 : a2 < 0
  · exact Ev.pos c2 (no (fun hM => by have := hM.2.2.2.1; omega)).1
  refine Ev.neg c2 ?_
  by_cases c2' : a2 > 16
  · exact Ev.pos c2' (no (fun hM => by have := hM.2.2.2.1; omega)).1
  refine Ev.neg c2' ?_
  by_cases c3 : a3 < 0
  · exact Ev.pos c3 (no (fun hM => by have := hM.2.2.1; omega)).1
  refine Ev.neg c3 ?_
  by_cases c3' : a3 > 255
  · rw [decide_eq_true c3']
    exact (no (fun hM => by have := hM.2.2.1; omega)).1
  · rw [decide_eq_false c3']
    exact J0.resolve_left (fun h => h ⟨by omega, by omega, by omega, by omega⟩)

/-! ### boarderref03.Find -/
theorem boarderref03_Find_s (l : List Ot) (hl : l.length ≤ 1000) (c : Int) : Ev (fun k => boarderref03_Find.f k l c) (findO l c) := by
  refine Ev.congr (f := fun k => boarderref03_Find.l0 k l c 0) (fun k => rfl) ?_
  refine loopF l (fun o => if o.f0 = c then some (o.f1, true) else none) (L := fun k i => boarderref03_Find.l0 k l c i) (fun i hi v hv => ?_) (fun i hi hv r h => ?_) (fun h => ?_) (fun v hv => ?_)
  · have e : rd_T52 l (i : Int) = l[i] := rd_get hi
    by_cases h : l[i].f0 = c
    · rw [if_pos h] at hv
      obtain rfl := Option.some.inj hv
      refine Ev.step (f := fun _ => some (l[i].f1, true)) (fun k => ?_) Ev.some'
      show boarderref03_Find.l0 (k + 1) _ _ _ = _
      rw [boarderref03_Find.l0, if_pos (by omega), if_pos (by omega), e, if_pos h]
    · rw [if_neg h] at hv; cases hv
  · have e : rd_T52 l (i : Int) = l[i] := rd_get hi
    by_cases h2 : l[i].f0 = c
    · rw [if_pos h2] at hv; cases hv
    · refine Ev.step (fun k => ?_) h
      show boarderref03_Find.l0 (k + 1) _ _ _ = _
      rw [boarderref03_Find.l0, if_pos (by omega), if_pos (by omega), e, if_neg h2, wrap_next hi (by omega)]
  · refine Ev.step (f := fun _ => some (([] : List Int), false)) (fun k => ?_) (Ev.eqv Ev.some' ?_)
    · show boarderref03_Find.l0 (k + 1) _ _ _ = _
      rw [boarderref03_Find.l0, if_neg (by omega)]
    · unfold findO; rw [h]; rfl
  · unfold findO; rw [hv]; rfl

end Go.Proofs.YtkjmfnijagdhpaaDoor.PKey

namespace Go.Proofs.YtkjmfnijagdhpaaDoor.Pure
open Go.RowKit Go.Proofs.YtkjmfnijagdhpaaDoorW.PrintWords Go.Proofs.YtkjmfnijagdhpaaDoorW.PrintLast Go.Proofs.YtkjmfnijagdhpaaDoorW.PrintMore Go.Proofs.YtkjmfnijagdhpaaDoor.PKey

theorem ofC_ht (ht hl ht' hl' : Int) (ch ch' d : List Int) (h : d.length > 1) : ofC ht hl ch d = ofC ht' hl' ch' d := by
  unfold ofC
  by_cases c1 : d.length > 255
  · rw [if_pos c1, if_pos c1]
  · rw [if_neg c1, if_neg c1, if_pos (show d.length ≥ 2 by omega), if_pos (show d.length ≥ 2 by omega)]
theorem ofC_nil (ht hl : Int) (ch d : List Int) (h : ¬ d.length > 1) : ofC ht hl ch d = ofC ht hl ch [] := by
  unfold ofC
  rw [if_neg (show ¬ d.length > 255 by omega), if_neg (show ¬ d.length ≥ 2 by omega), if_neg (show ¬ ([] : List Int).length > 255 by simp), if_neg (show ¬ ([] : List Int).length ≥ 2 by simp)]
open Classical in
theorem KeyHangs : boarderlaw07_KeyHangs.Pure := by
  intro a0 a1 a2 a3 a4 a5 a6 a7 a8 a9 a10 ch l b0 b1 b2 b3 b4 b5 b6 b7 b8 b9 b10 ch' l' hok hok'
  have hlen : l.length ≤ maxLen := hok.2.2.2.2.2.2.2.2.2.2.2.2.1
  have hlen' : l'.length ≤ maxLen := hok'.2.2.2.2.2.2.2.2.2.2.2.2.1
  refine Ev.rounds ?_
  have hk : Ev (fun k => (boarderlaw07_knows.f k).bind fun t => some t) true := Ev.bind boarderlaw07_knows_s Ev.some'
  have hj : Ev (fun k => boarderlaw07_KeyHangs.j0 k true a0 a1 a2 a3 a4 a5 a6 a7 a8 a9 a10 ch l b0 b1 b2 b3 b4 b5 b6 b7 b8 b9 b10 ch' l') true := Ev.step (fun k => by rw [boarderlaw07_KeyHangs.j0, if_pos rfl]) hk
  unfold boarderlaw07_KeyHangs.f
  refine Ev.bind (boarderlaw04_Great_s a0 a1 a2 a3 a4 a5 a6 a7 a8 a9 a10 ch l hlen) ?_
  by_cases h : ch.length ≤ 100 ∧ SmO l
  case neg => exact Ev.pos (by rw [decide_eq_true_iff]; exact h) hj
  refine Ev.neg (by rw [decide_eq_true_iff]; exact fun h2 => h2 h) (Ev.bind (boarderlaw04_Great_s b0 b1 b2 b3 b4 b5 b6 b7 b8 b9 b10 ch' l' hlen') ?_)
  by_cases h' : ch'.length ≤ 100 ∧ SmO l'
  case neg => exact Ev.pos (by rw [decide_eq_true_iff]; exact h') hj
  refine Ev.neg (by rw [decide_eq_true_iff]; exact fun h2 => h2 h') ?_
  simp only [boarderlaw04_As.f, Option.bind_some]
  refine Ev.bind (boarderref04_Right_s a0 a1 a2 a3 a4 a5 a6 a7 a8 a9 a10 ch l h.2) ?_
  by_cases hm : MsgP a0 a1 a2 a3 a4 a5 a6 a7 a8 a9 a10 ch l
  case neg => exact Ev.neg (by rw [decide_eq_true_iff]; exact hm) hj
  refine Ev.pos (by rw [decide_eq_true_iff]; exact hm) (Ev.bind (boarderref04_Right_s b0 b1 b2 b3 b4 b5 b6 b7 b8 b9 b10 ch' l' h'.2) ?_)
  by_cases hm' : MsgP b0 b1 b2 b3 b4 b5 b6 b7 b8 b9 b10 ch' l'
  case neg => rw [decide_eq_false hm']; exact hj
  rw [decide_eq_true hm']
  refine Ev.step (fun k => by rw [boarderlaw07_KeyHangs.j0, if_neg (by decide)]) ?_
  refine Ev.bind (key_Of_s a0 a1 a2 a3 a4 a5 a6 a7 a8 a9 a10 ch l h.2 h.1) (Ev.bind (boarderref03_Find_s l (by have := h.2.1; omega) 61) ?_)
  simp only [if_pos hm]
  obtain ⟨g0, g1, g3, g2, g5, g6, g4, gc, gR, gF⟩ := hm
  obtain ⟨f0, f1, f3, f2, f5, f6, f4, fc, fR, fF⟩ := hm'
  by_cases hd : (findO l 61).1.length > 1
  · refine Ev.pos (by omega) (Ev.bind (key_Of_s b0 b1 b2 b3 b4 b5 b6 b7 b8 b9 b10 ch' l h.2 h'.1) ?_)
    simp only [if_pos (show MsgP b0 b1 b2 b3 b4 b5 b6 b7 b8 b9 b10 ch' l from ⟨f0, f1, f3, f2, f5, f6, f4, fc, gR, gF⟩)]
    rw [ofC_ht b1 b2 a1 a2 ch' ch _ hd]
    exact Ev.pos (by first | trivial | rfl | (rw [ByteArray.toList_eq])) (Ev.pos (by first | trivial | rfl | (rw [ByteArray.toList_eq])) hk)
  · have hn : SmO [] := ⟨by simp, fun o ho => by cases ho⟩
    have hR : RightO [] := ⟨by simp, fun i hi => absurd hi (Nat.not_lt_zero i), fun i j hi hj => absurd hj (Nat.not_lt_zero j)⟩
    refine Ev.neg (by omega) (Ev.bind (key_Of_s a0 a1 a2 a3 a4 a5 a6 a7 a8 a9 a10 ch [] hn h.1) ?_)
    simp only [if_pos (show MsgP a0 a1 a2 a3 a4 a5 a6 a7 a8 a9 a10 ch [] from ⟨g0, g1, g3, g2, g5, g6, g4, gc, hR, rfl⟩)]
    rw [show (findO [] 61).1 = [] from rfl, ofC_nil a1 a2 ch _ hd]
    exact Ev.pos (by first | trivial | rfl | (rw [ByteArray.toList_eq])) (Ev.pos (by first | trivial | rfl | (rw [ByteArray.toList_eq])) hk)

end Go.Proofs.YtkjmfnijagdhpaaDoor.Pure
