/- The law ConfFinds holds of the printed functions; no condition beyond the law's own. -/
import Derived.Test.YtdcabfonjmeajaaConfRConfFinds
import Derived.Test.YtdcabfonjmeajaaPConfx15
import Derived.Test.YtdcabfonjmeajaaConfCfg
import Derived.Test.YtdcabfonjmeajaaConfS3
set_option linter.unusedVariables false
set_option linter.unusedSimpArgs false
namespace Go.Proofs.Ytdcabfonjmeajaa.PConf
open Go.RowKit Go.Proofs.YtdcabfonjmeajaaW.PrintWords Go.Proofs.YtdcabfonjmeajaaW.PrintLast Go.Proofs.YtdcabfonjmeajaaW.PrintMore

/-! ### boarderref13.Find -/
theorem boarderref13_Find_s (a b : Int) (nets : List Nt) (h : Sm nets) (x : Int) : Ev (fun k => boarderref13_Find.f k a b nets x) (findL a b nets x) := by
  have hN := h.1
  have h10 : ∀ m (hm : m < nets.length), nets[m].f0.length ≤ 10 := fun m hm => (h.2 _ (List.getElem_mem hm)).1
  refine Ev.bind (boarderref13_Check_s a b nets h) (f := fun k t => if t = 0 then boarderref13_Find.l0 k x 0 a b nets else some (0, 0, false)) ?_
  unfold findL rightL
  by_cases c : checkI a b nets = 0
  · rw [if_pos c]
    refine Ev.pos c (nestF nets (findQ x) (0, 0, false) (L0 := fun k m => boarderref13_Find.l0 k x m a b nets) (L1 := fun k m i => boarderref13_Find.l1 k x m i a b nets) (fun m hm r h1 => ?_) ?_ (fun m i hm hi v hv => ?_) (fun m i hm hi hv r h1 => ?_) (fun m hm r h1 => ?_))
    · refine Ev.step (fun k => ?_) h1
      show boarderref13_Find.l0 (k + 1) _ _ _ _ _ = _
      rw [boarderref13_Find.l0, if_pos (by omega)]
    · refine Ev.step (f := fun _ => some (0, 0, false)) (fun k => ?_) Ev.some'
      show boarderref13_Find.l0 (k + 1) _ _ _ _ _ = _
      rw [boarderref13_Find.l0, if_neg (by omega)]
    · have eN : rd_T41 nets (m : Int) = nets[m] := rd_get hm
      refine Ev.step (fun k => ?_) (Ev.bind (g := fun k => boarderref01_Has.f k nets[m].f0[i].f0 nets[m].f0[i].f1 x) (a := Com.hasB nets[m].f0[i].f0 nets[m].f0[i].f1 x) ⟨40, fun k hk => boarderref01_Has_s _ _ _ k hk⟩ (f := fun k t => if t = true then some ((m : Int), (i : Int), true) else boarderref13_Find.l1 k x (m : Int) ((i + 1 : Nat) : Int) a b nets) ?_)
      · show boarderref13_Find.l1 (k + 1) _ _ _ _ _ _ = _
        rw [boarderref13_Find.l1, if_pos (by omega), if_pos (by omega), eN, if_pos (by omega), if_pos (by omega), show rd_T57 nets[m].f0 (i : Int) = nets[m].f0[i] from rd_get hi, wrap_next hi (by have := h10 m hm; omega)]
      · unfold findQ at hv
        by_cases c2 : Com.hasB nets[m].f0[i].f0 nets[m].f0[i].f1 x = true
        · rw [if_pos c2] at hv; obtain rfl := Option.some.inj hv; exact Ev.pos c2 Ev.some'
        · rw [if_neg c2] at hv; cases hv
    · have eN : rd_T41 nets (m : Int) = nets[m] := rd_get hm
      refine Ev.step (fun k => ?_) (Ev.bind (g := fun k => boarderref01_Has.f k nets[m].f0[i].f0 nets[m].f0[i].f1 x) (a := Com.hasB nets[m].f0[i].f0 nets[m].f0[i].f1 x) ⟨40, fun k hk => boarderref01_Has_s _ _ _ k hk⟩ (f := fun k t => if t = true then some ((m : Int), (i : Int), true) else boarderref13_Find.l1 k x (m : Int) ((i + 1 : Nat) : Int) a b nets) ?_)
      · show boarderref13_Find.l1 (k + 1) _ _ _ _ _ _ = _
        rw [boarderref13_Find.l1, if_pos (by omega), if_pos (by omega), eN, if_pos (by omega), if_pos (by omega), show rd_T57 nets[m].f0 (i : Int) = nets[m].f0[i] from rd_get hi, wrap_next hi (by have := h10 m hm; omega)]
      · unfold findQ at hv
        by_cases c2 : Com.hasB nets[m].f0[i].f0 nets[m].f0[i].f1 x = true
        · rw [if_pos c2] at hv; cases hv
        · exact Ev.neg c2 h1
    · have eN : rd_T41 nets (m : Int) = nets[m] := rd_get hm
      refine Ev.step (fun k => ?_) h1
      show boarderref13_Find.l1 (k + 1) _ _ _ _ _ _ = _
      rw [boarderref13_Find.l1, if_pos (by omega), if_pos (by omega), eN, if_neg (by omega), wrap_next hm (by omega)]
  · rw [if_neg c]; exact Ev.neg c Ev.some'

/-! ### conf.OnWire -/
theorem conf_OnWire_s (a b : Int) (nets : List Nt) (h : Sm nets) (x : Int) : Ev (fun k => conf_OnWire.f k a b nets x) (wireL a b nets x) := by
  refine Ev.bind (conf_right_s a b nets h) (f := fun k t => conf_OnWire.l0 k x t (t.length : Int) 0) ?_
  have hN := rightL_len (a := a) (b := b) h
  unfold wireL
  generalize rightL a b nets = l at *
  refine loopF l (wireQ x) (L := fun k i => conf_OnWire.l0 k x l (l.length : Int) i) (fun i hi v hv => ?_) (fun i hi hv r h3 => ?_) (fun h3 => ?_) (fun v hv => getD_some hv)
  · unfold wireQ at hv
    by_cases c : l[i].f2.f4 = x ∧ x > 0
    · rw [if_pos c] at hv
      obtain rfl := Option.some.inj hv
      refine Ev.step (f := fun _ => some (l[i].f0, l[i].f1, true)) (fun k => ?_) Ev.some'
      show conf_OnWire.l0 (k + 1) _ _ _ _ = _
      rw [conf_OnWire.l0, if_pos (by omega), if_pos (by omega), if_pos (by omega), show rd_T66 l (i : Int) = l[i] from rd_get hi, if_pos c.1, if_pos c.2]
    · rw [if_neg c] at hv; cases hv
  · unfold wireQ at hv
    by_cases c : l[i].f2.f4 = x ∧ x > 0
    · rw [if_pos c] at hv; cases hv
    · refine Ev.step (f := fun k => if l[i].f2.f4 = x then (if x > 0 then some (l[i].f0, l[i].f1, true) else conf_OnWire.l0 k x l (l.length : Int) ((i + 1 : Nat) : Int)) else conf_OnWire.l0 k x l (l.length : Int) ((i + 1 : Nat) : Int)) (fun k => ?_) ?_
      · show conf_OnWire.l0 (k + 1) _ _ _ _ = _
        rw [conf_OnWire.l0, if_pos (by omega), if_pos (by omega), if_pos (by omega), show rd_T66 l (i : Int) = l[i] from rd_get hi, wrap_next hi (by omega)]
      · by_cases c1 : l[i].f2.f4 = x
        · exact Ev.pos c1 (Ev.neg (fun h => c ⟨c1, h⟩) h3)
        · exact Ev.neg c1 h3
  · rw [getD_none h3]
    refine Ev.step (f := fun _ => some (0, 0, false)) (fun k => ?_) Ev.some'
    show conf_OnWire.l0 (k + 1) _ _ _ _ = _
    rw [conf_OnWire.l0, if_neg (by omega)]

/-! ### boarderref13.OnWire -/
theorem boarderref13_OnWire_s (a b : Int) (nets : List Nt) (h : Sm nets) (x : Int) : Ev (fun k => boarderref13_OnWire.f k a b nets x) (wireL a b nets x) := by
  have hN := h.1
  have h10 : ∀ m (hm : m < nets.length), nets[m].f0.length ≤ 10 := fun m hm => (h.2 _ (List.getElem_mem hm)).1
  refine Ev.bind (boarderref13_Check_s a b nets h) (f := fun k t => if t = 0 then boarderref13_OnWire.j0 k x (decide (x < 1)) a b nets else boarderref13_OnWire.j0 k x true a b nets) ?_
  have J : Ev (fun k => boarderref13_OnWire.j0 k x true a b nets) (0, 0, false) := Ev.step (f := fun _ => some (0, 0, false)) (fun k => by show boarderref13_OnWire.j0 (k + 1) _ _ _ _ _ = _; rw [boarderref13_OnWire.j0, if_pos rfl]) Ev.some'
  unfold wireL rightL
  by_cases c : checkI a b nets = 0
  · rw [if_pos c]
    refine Ev.pos c ?_
    by_cases c1 : x < 1
    · rw [decide_eq_true c1, show (spotsL nets).findSome? (wireQ x) = none from List.findSome?_eq_none_iff.2 (fun y _ => by unfold wireQ; exact if_neg (fun h => by omega))]
      exact J
    · rw [decide_eq_false c1]
      refine Ev.step (fun k => by show boarderref13_OnWire.j0 (k + 1) _ _ _ _ _ = _; rw [boarderref13_OnWire.j0, if_neg (by simp)]) (nestF nets (wireQ x) (0, 0, false) (L0 := fun k m => boarderref13_OnWire.l0 k x m a b nets) (L1 := fun k m i => boarderref13_OnWire.l1 k x m i a b nets) (fun m hm r h1 => ?_) ?_ (fun m i hm hi v hv => ?_) (fun m i hm hi hv r h1 => ?_) (fun m hm r h1 => ?_))
      · refine Ev.step (fun k => ?_) h1
        show boarderref13_OnWire.l0 (k + 1) _ _ _ _ _ = _
        rw [boarderref13_OnWire.l0, if_pos (by omega)]
      · refine Ev.step (f := fun _ => some (0, 0, false)) (fun k => ?_) Ev.some'
        show boarderref13_OnWire.l0 (k + 1) _ _ _ _ _ = _
        rw [boarderref13_OnWire.l0, if_neg (by omega)]
      · have eN : rd_T41 nets (m : Int) = nets[m] := rd_get hm
        unfold wireQ at hv
        by_cases c2 : nets[m].f0[i].f4 = x ∧ x > 0
        · rw [if_pos c2] at hv
          obtain rfl := Option.some.inj hv
          refine Ev.step (f := fun _ => some ((m : Int), (i : Int), true)) (fun k => ?_) Ev.some'
          show boarderref13_OnWire.l1 (k + 1) _ _ _ _ _ _ = _
          rw [boarderref13_OnWire.l1, if_pos (by omega), if_pos (by omega), eN, if_pos (by omega), if_pos (by omega), show rd_T57 nets[m].f0 (i : Int) = nets[m].f0[i] from rd_get hi, if_pos c2.1]
        · rw [if_neg c2] at hv; cases hv
      · have eN : rd_T41 nets (m : Int) = nets[m] := rd_get hm
        unfold wireQ at hv
        by_cases c2 : nets[m].f0[i].f4 = x ∧ x > 0
        · rw [if_pos c2] at hv; cases hv
        · refine Ev.step (fun k => ?_) h1
          have c3 : ¬ nets[m].f0[i].f4 = x := fun h => c2 ⟨h, by omega⟩
          show boarderref13_OnWire.l1 (k + 1) _ _ _ _ _ _ = _
          rw [boarderref13_OnWire.l1, if_pos (by omega), if_pos (by omega), eN, if_pos (by omega), if_pos (by omega), show rd_T57 nets[m].f0 (i : Int) = nets[m].f0[i] from rd_get hi, if_neg c3, wrap_next hi (by have := h10 m hm; omega)]
      · have eN : rd_T41 nets (m : Int) = nets[m] := rd_get hm
        refine Ev.step (fun k => ?_) h1
        show boarderref13_OnWire.l1 (k + 1) _ _ _ _ _ _ = _
        rw [boarderref13_OnWire.l1, if_pos (by omega), if_pos (by omega), eN, if_neg (by omega), wrap_next hm (by omega)]
  · rw [if_neg c]; exact Ev.neg c J

end Go.Proofs.Ytdcabfonjmeajaa.PConf

namespace Go.Proofs.Ytdcabfonjmeajaa.Pure
open Go.RowKit Go.Proofs.YtdcabfonjmeajaaW.PrintWords Go.Proofs.YtdcabfonjmeajaaW.PrintLast Go.Proofs.YtdcabfonjmeajaaW.PrintMore Go.Proofs.Ytdcabfonjmeajaa.PConf

open Classical in
theorem ConfFinds : boarderlaw13_ConfFinds.Pure := by
  intro a b nets x y _ _ _
  refine Ev.rounds (Ev.bind (boarderlaw13_Great_s a b nets) (f := fun k t => if t = true then ((boarderlaw13_knows.f k).bind fun t => some t) else ((conf_Find.f k a b nets x).bind fun bt444 => ((boarderref13_Find.f k a b nets x).bind fun bt447 => ((conf_OnWire.f k a b nets y).bind fun bt450 => ((boarderref13_OnWire.f k a b nets y).bind fun bt453 => (if bt444.1 = bt447.1 then (if bt444.2.1 = bt447.2.1 then (if (bt444.2.2 == bt447.2.2) = true then (if bt450.1 = bt453.1 then (if bt450.2.1 = bt453.2.1 then (if (bt450.2.2 == bt453.2.2) = true then ((boarderlaw13_knows.f k).bind fun t => some t) else none) else none) else none) else none) else none) else none)))))) ?_)
  have hk : Ev (fun k => (boarderlaw13_knows.f k).bind fun t => some t) true := Ev.bind boarderlaw13_knows_s (f := fun _ t => some t) Ev.some'
  by_cases h : Sm nets
  · refine Ev.neg (by rw [decide_eq_true_iff]; exact fun h2 => h2 h) ?_
    refine Ev.bind (conf_Find_s a b nets h x) (f := fun k bt444 => ((boarderref13_Find.f k a b nets x).bind fun bt447 => ((conf_OnWire.f k a b nets y).bind fun bt450 => ((boarderref13_OnWire.f k a b nets y).bind fun bt453 => (if bt444.1 = bt447.1 then (if bt444.2.1 = bt447.2.1 then (if (bt444.2.2 == bt447.2.2) = true then (if bt450.1 = bt453.1 then (if bt450.2.1 = bt453.2.1 then (if (bt450.2.2 == bt453.2.2) = true then ((boarderlaw13_knows.f k).bind fun t => some t) else none) else none) else none) else none) else none) else none))))) ?_
    refine Ev.bind (boarderref13_Find_s a b nets h x) (f := fun k bt447 => ((conf_OnWire.f k a b nets y).bind fun bt450 => ((boarderref13_OnWire.f k a b nets y).bind fun bt453 => (if (findL a b nets x).1 = bt447.1 then (if (findL a b nets x).2.1 = bt447.2.1 then (if ((findL a b nets x).2.2 == bt447.2.2) = true then (if bt450.1 = bt453.1 then (if bt450.2.1 = bt453.2.1 then (if (bt450.2.2 == bt453.2.2) = true then ((boarderlaw13_knows.f k).bind fun t => some t) else none) else none) else none) else none) else none) else none)))) ?_
    refine Ev.bind (conf_OnWire_s a b nets h y) (f := fun k bt450 => ((boarderref13_OnWire.f k a b nets y).bind fun bt453 => (if (findL a b nets x).1 = (findL a b nets x).1 then (if (findL a b nets x).2.1 = (findL a b nets x).2.1 then (if ((findL a b nets x).2.2 == (findL a b nets x).2.2) = true then (if bt450.1 = bt453.1 then (if bt450.2.1 = bt453.2.1 then (if (bt450.2.2 == bt453.2.2) = true then ((boarderlaw13_knows.f k).bind fun t => some t) else none) else none) else none) else none) else none) else none))) ?_
    refine Ev.bind (boarderref13_OnWire_s a b nets h y) (f := fun k bt453 => (if (findL a b nets x).1 = (findL a b nets x).1 then (if (findL a b nets x).2.1 = (findL a b nets x).2.1 then (if ((findL a b nets x).2.2 == (findL a b nets x).2.2) = true then (if (wireL a b nets y).1 = bt453.1 then (if (wireL a b nets y).2.1 = bt453.2.1 then (if ((wireL a b nets y).2.2 == bt453.2.2) = true then ((boarderlaw13_knows.f k).bind fun t => some t) else none) else none) else none) else none) else none) else none)) ?_
    exact Ev.pos rfl (Ev.pos rfl (Ev.pos (by simp) (Ev.pos rfl (Ev.pos rfl (Ev.pos (by simp) hk)))))
  · exact Ev.pos (by rw [decide_eq_true_iff]; exact h) hk

end Go.Proofs.Ytdcabfonjmeajaa.Pure
