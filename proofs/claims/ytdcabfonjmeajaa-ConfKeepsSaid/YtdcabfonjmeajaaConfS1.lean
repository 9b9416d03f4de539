/- What the printed functions of this group come to, in plain words; each under its theorem's own conditions. -/
import Derived.Test.YtdcabfonjmeajaaPConfx3
import Derived.Test.YtdcabfonjmeajaaPConfx4
import Derived.Test.YtdcabfonjmeajaaPConfx5
import Derived.Test.YtdcabfonjmeajaaPConfx6
import Derived.Test.YtdcabfonjmeajaaPConfx7
import Derived.Test.YtdcabfonjmeajaaAdr
import Derived.Test.YtdcabfonjmeajaaConfCfg
import Derived.Test.YtdcabfonjmeajaaConfS0
set_option linter.unusedVariables false
set_option linter.unusedSimpArgs false
namespace Go.Proofs.Ytdcabfonjmeajaa.PConf
open Go.RowKit Go.Proofs.YtdcabfonjmeajaaW.PrintWords Go.Proofs.YtdcabfonjmeajaaW.PrintLast Go.Proofs.YtdcabfonjmeajaaW.PrintMore

/-! ### conf.inside -/
instance (s : Sb) (a : Int) : Decidable (InS s a) := by unfold InS; infer_instance
theorem conf_inside_s (s : Sb) (h : Com.fairB s.f0 s.f1 = true) (a : Int) : conf_inside.f s.f0 s.f1 s.f2 s.f3 s.f4 s.f5 s.f6 a = some (decide (InS s a)) := by
  unfold conf_inside.f
  rw [addr_Last_s, if_pos h, Option.bind_some]
  by_cases c : a > s.f0
  · rw [if_pos c]; congr 1; exact decide_eq_decide.2 ⟨fun h2 => ⟨c, h2⟩, fun h2 => h2.2⟩
  · rw [if_neg c, decide_eq_false (fun h2 => c h2.1)]

/-! ### conf.placed -/
theorem conf_placed_l2 (l : List Sp) (N : Int) (m : Nat) (sv b : Int) (nets : List Nt) (x0 x1 : Int) (s : Sb) (hs : SmS s) (hF : Com.fairB s.f0 s.f1 = true) (hm : m < l.length) (hl : l.length ≤ 1000) {r : Bool}
    (h1 : ((∀ i, (h : i < s.f3.length) → InS s s.f3[i].f1 ∧ s.f3[i].f1 ≠ sv) ∧ (s.f5 ≠ 0 → Com.hasB s.f0 s.f1 s.f5 = true)) → Ev (fun k => conf_placed.l0 k l N ((m + 1 : Nat) : Int) sv b nets) r)
    (h2 : (¬ ((∀ i, (h : i < s.f3.length) → InS s s.f3[i].f1 ∧ s.f3[i].f1 ≠ sv) ∧ (s.f5 ≠ 0 → Com.hasB s.f0 s.f1 s.f5 = true))) → r = false) :
    Ev (fun k => conf_placed.l2 k l N (m : Int) s.f3 (s.f3.length : Int) 0 sv b nets x0 x1 s.f0 s.f1 s.f2 s.f3 s.f4 s.f5 s.f6) r := by
  have h20 := hs.2.1
  refine loopC (n := s.f3.length) (L := fun k i => conf_placed.l2 k l N (m : Int) s.f3 (s.f3.length : Int) i sv b nets x0 x1 s.f0 s.f1 s.f2 s.f3 s.f4 s.f5 s.f6) (fun i => ∃ h : i < s.f3.length, InS s s.f3[i].f1 ∧ s.f3[i].f1 ≠ sv) false (fun i hi hp r h3 => ?_) (fun i hi hp => ?_) (fun h3 => ?_) (fun h3 => ?_)
  · obtain ⟨_, hp1, hp2⟩ := hp
    refine Ev.step (fun k => ?_) h3
    show conf_placed.l2 (k + 1) _ _ _ _ _ _ _ _ _ _ _ _ _ _ _ _ _ _ = _
    rw [conf_placed.l2, if_pos (by omega), if_pos (by omega), if_pos (by omega), show rd_T59 s.f3 (i : Int) = s.f3[i] from rd_get hi, conf_inside_s s hF, decide_eq_true hp1, Option.bind_some, if_pos rfl, if_neg hp2, wrap_next hi (by omega)]
  · refine Ev.step (f := fun _ => some false) (fun k => ?_) Ev.some'
    show conf_placed.l2 (k + 1) _ _ _ _ _ _ _ _ _ _ _ _ _ _ _ _ _ _ = _
    rw [conf_placed.l2, if_pos (by omega), if_pos (by omega), if_pos (by omega), show rd_T59 s.f3 (i : Int) = s.f3[i] from rd_get hi, conf_inside_s s hF, Option.bind_some]
    by_cases c : InS s s.f3[i].f1
    · rw [if_pos (decide_eq_true c)]
      by_cases c2 : s.f3[i].f1 = sv
      · rw [if_pos c2]
      · exact absurd ⟨hi, c, c2⟩ hp
    · rw [decide_eq_false c, if_neg (by simp)]
  · have h4 : ∀ i, (h : i < s.f3.length) → InS s s.f3[i].f1 ∧ s.f3[i].f1 ≠ sv := fun i hi => (h3 i hi).2
    refine Ev.step (f := fun k => if s.f5 = 0 then conf_placed.l0 k l N ((m + 1 : Nat) : Int) sv b nets else (if Com.hasB s.f0 s.f1 s.f5 = true then conf_placed.l0 k l N ((m + 1 : Nat) : Int) sv b nets else some false)) (fun k => ?_) ?_
    · show conf_placed.l2 (k + 1) _ _ _ _ _ _ _ _ _ _ _ _ _ _ _ _ _ _ = _
      rw [conf_placed.l2, if_neg (by omega), addr_Has_s, Option.bind_some, wrap_next hm (by omega)]
    · by_cases c : s.f5 = 0
      · exact Ev.pos c (h1 ⟨h4, fun h => absurd c h⟩)
      · refine Ev.neg c ?_
        by_cases c2 : Com.hasB s.f0 s.f1 s.f5 = true
        · exact Ev.pos c2 (h1 ⟨h4, fun _ => c2⟩)
        · rw [h2 (fun h => c2 (h.2 c))]; exact Ev.neg c2 Ev.some'
  · obtain ⟨i, hi, hp⟩ := h3
    exact h2 (fun h => hp ⟨hi, h.1 i hi⟩)
theorem conf_placed_l1 (l : List Sp) (N : Int) (m : Nat) (sv b : Int) (nets : List Nt) (x0 x1 : Int) (s : Sb) (hs : SmS s) (hF : Com.fairB s.f0 s.f1 = true) (hm : m < l.length) (hl : l.length ≤ 1000) {r : Bool}
    (h1 : PlaceS sv s → Ev (fun k => conf_placed.l0 k l N ((m + 1 : Nat) : Int) sv b nets) r) (h2 : ¬ PlaceS sv s → r = false) :
    Ev (fun k => conf_placed.l1 k l N (m : Int) s.f2 (s.f2.length : Int) 0 sv b nets x0 x1 s.f0 s.f1 s.f2 s.f3 s.f4 s.f5 s.f6) r := by
  have h20 := hs.1
  refine loopC (n := s.f2.length) (L := fun k i => conf_placed.l1 k l N (m : Int) s.f2 (s.f2.length : Int) i sv b nets x0 x1 s.f0 s.f1 s.f2 s.f3 s.f4 s.f5 s.f6) (fun i => ∃ h : i < s.f2.length, InS s s.f2[i].f0 ∧ InS s s.f2[i].f1 ∧ ¬ (s.f2[i].f0 ≤ sv ∧ sv ≤ s.f2[i].f1)) false (fun i hi hp r h3 => ?_) (fun i hi hp => ?_) (fun h3 => ?_) (fun h3 => ?_)
  · obtain ⟨_, hp1, hp2, hp3⟩ := hp
    refine Ev.step (fun k => ?_) h3
    show conf_placed.l1 (k + 1) _ _ _ _ _ _ _ _ _ _ _ _ _ _ _ _ _ _ = _
    rw [conf_placed.l1, if_pos (by omega), if_pos (by omega), if_pos (by omega), show rd_T62 s.f2 (i : Int) = s.f2[i] from rd_get hi, conf_inside_s s hF, decide_eq_true hp1, Option.bind_some, if_pos rfl, conf_inside_s s hF, decide_eq_true hp2, Option.bind_some, if_pos rfl, conf_has_s, decide_eq_false hp3, Option.bind_some, if_neg (by simp), wrap_next hi (by omega)]
  · refine Ev.step (f := fun _ => some false) (fun k => ?_) Ev.some'
    show conf_placed.l1 (k + 1) _ _ _ _ _ _ _ _ _ _ _ _ _ _ _ _ _ _ = _
    rw [conf_placed.l1, if_pos (by omega), if_pos (by omega), if_pos (by omega), show rd_T62 s.f2 (i : Int) = s.f2[i] from rd_get hi, conf_inside_s s hF, Option.bind_some]
    by_cases c : InS s s.f2[i].f0
    · rw [if_pos (decide_eq_true c), conf_inside_s s hF, Option.bind_some]
      by_cases c2 : InS s s.f2[i].f1
      · rw [if_pos (decide_eq_true c2), conf_has_s, Option.bind_some]
        by_cases c3 : s.f2[i].f0 ≤ sv ∧ sv ≤ s.f2[i].f1
        · rw [if_pos (decide_eq_true c3)]
        · exact absurd ⟨hi, c, c2, c3⟩ hp
      · rw [decide_eq_false c2, if_neg (by simp)]
    · rw [decide_eq_false c, if_neg (by simp)]
  · have h4 : ∀ i, (h : i < s.f2.length) → InS s s.f2[i].f0 ∧ InS s s.f2[i].f1 ∧ ¬ (s.f2[i].f0 ≤ sv ∧ sv ≤ s.f2[i].f1) := fun i hi => (h3 i hi).2
    refine Ev.step (fun k => ?_) (conf_placed_l2 l N m sv b nets x0 x1 s hs hF hm hl (r := r) (fun h => h1 ⟨h4, h.1, h.2⟩) (fun h => h2 (fun h5 => h ⟨h5.2.1, h5.2.2⟩)))
    show conf_placed.l1 (k + 1) _ _ _ _ _ _ _ _ _ _ _ _ _ _ _ _ _ _ = _
    rw [conf_placed.l1, if_neg (by omega)]
  · obtain ⟨i, hi, hp⟩ := h3
    exact h2 (fun h => hp ⟨hi, h.1 i hi⟩)
open Classical in
theorem conf_placed_s (a b : Int) (nets : List Nt) (h : Sm nets) (hF : ∀ n ∈ nets, ∀ s ∈ n.f0, FairS s) : Ev (fun k => conf_placed.f k a b nets) (decide (∀ n ∈ nets, ∀ s ∈ n.f0, PlaceS a s)) := by
  refine Ev.bind (conf_spots_s a b nets h) (f := fun k t => conf_placed.l0 k t (t.length : Int) 0 a b nets) ?_
  have hN : (spotsL nets).length ≤ 1000 := by have := spots_len (n := 0) (fun x hx => (h.2 x hx).1); have := h.1; unfold spotsL; omega
  have hS : ∀ (i : Nat) (hi : i < (spotsL nets).length), SmS (spotsL nets)[i].f2 ∧ FairS (spotsL nets)[i].f2 := fun i hi => (spots_all (F := fun s => SmS s ∧ FairS s)).2 (fun n hn s hs => ⟨(h.2 n hn).2 s hs, hF n hn s hs⟩) _ (List.getElem_mem hi)
  have hr : decide (∀ n ∈ nets, ∀ s ∈ n.f0, PlaceS a s) = decide (∀ x ∈ spotsL nets, PlaceS a x.f2) := decide_eq_decide.2 spots_all.symm
  rw [hr]
  generalize spotsL nets = l at *
  refine loopC (n := l.length) (L := fun k i => conf_placed.l0 k l (l.length : Int) i a b nets) (fun i => ∃ h : i < l.length, PlaceS a l[i].f2) false (fun i hi hp r h3 => ?_) (fun i hi hp => ?_) (fun h3 => ?_) (fun h3 => ?_)
  · obtain ⟨_, hp⟩ := hp
    refine Ev.step (fun k => ?_) (conf_placed_l1 l (l.length : Int) i a b nets l[i].f0 l[i].f1 l[i].f2 (hS i hi).1 (hS i hi).2.1 hi hN (r := r) (fun _ => h3) (fun h => absurd hp h))
    show conf_placed.l0 (k + 1) _ _ _ _ _ _ = _
    rw [conf_placed.l0, if_pos (by omega), if_pos (by omega), if_pos (by omega), show rd_T66 l (i : Int) = l[i] from rd_get hi]
  · refine Ev.step (fun k => ?_) (conf_placed_l1 l (l.length : Int) i a b nets l[i].f0 l[i].f1 l[i].f2 (hS i hi).1 (hS i hi).2.1 hi hN (r := false) (fun h => absurd ⟨hi, h⟩ hp) (fun _ => rfl))
    show conf_placed.l0 (k + 1) _ _ _ _ _ _ = _
    rw [conf_placed.l0, if_pos (by omega), if_pos (by omega), if_pos (by omega), show rd_T66 l (i : Int) = l[i] from rd_get hi]
  · rw [decide_eq_true (fun x hx => by obtain ⟨i, hi, rfl⟩ := List.mem_iff_getElem.1 hx; exact (h3 i hi).2)]
    refine Ev.step (f := fun _ => some true) (fun k => ?_) Ev.some'
    show conf_placed.l0 (k + 1) _ _ _ _ _ _ = _
    rw [conf_placed.l0, if_neg (by omega)]
  · obtain ⟨i, hi, hp⟩ := h3
    exact decide_eq_false (fun h => hp ⟨hi, h _ (List.getElem_mem hi)⟩)

/-! ### addr.Meet -/
/-- Do two prefixes meet? -/
def meetB (b n c m : Int) : Bool := Com.fairB b n && (Com.fairB c m && (decide (b ≤ c ∧ c < b + Com.sz n) || decide (c ≤ b ∧ b < c + Com.sz m)))
theorem addr_Meet_s (b n c m : Int) : addr_Meet.f b n c m = some (meetB b n c m) := by
  unfold addr_Meet.f meetB
  rw [addr_Fair_s, addr_Fair_s, addr_Has_s, addr_Has_s]
  unfold Com.hasB
  simp only [Option.bind_some]
  cases Com.fairB b n <;> cases Com.fairB c m <;> cases decide (b ≤ c ∧ c < b + Com.sz n) <;> simp

/-! ### conf.once -/
theorem conf_once_l3 (same : Bool) (x y : Sp) (hx : SmS x.f2) (hy : SmS y.f2) (i : Nat) (hi : i < x.f2.f3.length) {r : Bool}
    (h1 : (∀ j, (hj : j < y.f2.f3.length) → (same = true → i ≠ j) → DifR x.f0 y.f0 x.f2.f3[i] y.f2.f3[j]) → Ev (fun k => conf_once.l2 k same x.f2.f3 (x.f2.f3.length : Int) ((i + 1 : Nat) : Int) x.f0 x.f1 x.f2.f0 x.f2.f1 x.f2.f2 x.f2.f3 x.f2.f4 x.f2.f5 x.f2.f6 y.f0 y.f1 y.f2.f0 y.f2.f1 y.f2.f2 y.f2.f3 y.f2.f4 y.f2.f5 y.f2.f6) r)
    (h2 : (¬ ∀ j, (hj : j < y.f2.f3.length) → (same = true → i ≠ j) → DifR x.f0 y.f0 x.f2.f3[i] y.f2.f3[j]) → r = false) : Ev (fun k => conf_once.l3 k same (i : Int) x.f2.f3 (x.f2.f3.length : Int) (i : Int) y.f2.f3 (y.f2.f3.length : Int) 0 x.f0 x.f1 x.f2.f0 x.f2.f1 x.f2.f2 x.f2.f3 x.f2.f4 x.f2.f5 x.f2.f6 y.f0 y.f1 y.f2.f0 y.f2.f1 y.f2.f2 y.f2.f3 y.f2.f4 y.f2.f5 y.f2.f6 x.f2.f3[i].f0 x.f2.f3[i].f1) r := by
  have b1 := hx.2.1
  have b2 := hy.2.1
  have E : ∀ j (hj : j < y.f2.f3.length) (r : Bool), (((same = true → i ≠ j) → DifR x.f0 y.f0 x.f2.f3[i] y.f2.f3[j]) → Ev (fun k => conf_once.l3 k same (i : Int) x.f2.f3 (x.f2.f3.length : Int) (i : Int) y.f2.f3 (y.f2.f3.length : Int) ((j + 1 : Nat) : Int) x.f0 x.f1 x.f2.f0 x.f2.f1 x.f2.f2 x.f2.f3 x.f2.f4 x.f2.f5 x.f2.f6 y.f0 y.f1 y.f2.f0 y.f2.f1 y.f2.f2 y.f2.f3 y.f2.f4 y.f2.f5 y.f2.f6 x.f2.f3[i].f0 x.f2.f3[i].f1) r) → ((¬ ((same = true → i ≠ j) → DifR x.f0 y.f0 x.f2.f3[i] y.f2.f3[j])) → r = false) → Ev (fun k => conf_once.l3 k same (i : Int) x.f2.f3 (x.f2.f3.length : Int) (i : Int) y.f2.f3 (y.f2.f3.length : Int) (j : Int) x.f0 x.f1 x.f2.f0 x.f2.f1 x.f2.f2 x.f2.f3 x.f2.f4 x.f2.f5 x.f2.f6 y.f0 y.f1 y.f2.f0 y.f2.f1 y.f2.f2 y.f2.f3 y.f2.f4 y.f2.f5 y.f2.f6 x.f2.f3[i].f0 x.f2.f3[i].f1) r := by
    intro j hj r h3 h4
    have hw : wrap64 ((j : Int) + 1) = ((j + 1 : Nat) : Int) := wrap_next hj (by omega)
    have eJ : rd_T59 y.f2.f3 (j : Int) = y.f2.f3[j] := rd_get hj
    have tail : (same = true → i ≠ j) → Ev (fun k => if x.f2.f3[i].f1 = y.f2.f3[j].f1 then some false else if x.f0 = y.f0 then (if x.f2.f3[i].f0.toList = y.f2.f3[j].f0.toList then some false else conf_once.l3 k same (i : Int) x.f2.f3 (x.f2.f3.length : Int) (i : Int) y.f2.f3 (y.f2.f3.length : Int) ((j + 1 : Nat) : Int) x.f0 x.f1 x.f2.f0 x.f2.f1 x.f2.f2 x.f2.f3 x.f2.f4 x.f2.f5 x.f2.f6 y.f0 y.f1 y.f2.f0 y.f2.f1 y.f2.f2 y.f2.f3 y.f2.f4 y.f2.f5 y.f2.f6 x.f2.f3[i].f0 x.f2.f3[i].f1) else conf_once.l3 k same (i : Int) x.f2.f3 (x.f2.f3.length : Int) (i : Int) y.f2.f3 (y.f2.f3.length : Int) ((j + 1 : Nat) : Int) x.f0 x.f1 x.f2.f0 x.f2.f1 x.f2.f2 x.f2.f3 x.f2.f4 x.f2.f5 x.f2.f6 y.f0 y.f1 y.f2.f0 y.f2.f1 y.f2.f2 y.f2.f3 y.f2.f4 y.f2.f5 y.f2.f6 x.f2.f3[i].f0 x.f2.f3[i].f1) r := by
      intro hs
      by_cases c1 : x.f2.f3[i].f1 = y.f2.f3[j].f1
      · rw [h4 (fun h => (h hs).1 c1)]; exact Ev.pos c1 Ev.some'
      · refine Ev.neg c1 ?_
        by_cases c2 : x.f0 = y.f0
        · refine Ev.pos c2 ?_
          by_cases c3 : x.f2.f3[i].f0.toList = y.f2.f3[j].f0.toList
          · rw [h4 (fun h => (h hs).2 ⟨c2, c3⟩)]; exact Ev.pos c3 Ev.some'
          · exact Ev.neg c3 (h3 (fun _ => ⟨c1, fun h => c3 h.2⟩))
        · exact Ev.neg c2 (h3 (fun _ => ⟨c1, fun h => c2 h.1⟩))
    cases same with
    | true =>
      by_cases c : i = j
      · refine Ev.step (fun k => ?_) (h3 (fun h => absurd c (h rfl)))
        show conf_once.l3 (k + 1) _ _ _ _ _ _ _ _ _ _ _ _ _ _ _ _ _ _ _ _ _ _ _ _ _ _ _ _ = _
        rw [conf_once.l3, if_pos (by omega), if_pos (by omega), if_pos (by omega), if_pos rfl, if_pos (by omega), hw]
      · refine Ev.step (fun k => ?_) (tail (fun _ => c))
        show conf_once.l3 (k + 1) _ _ _ _ _ _ _ _ _ _ _ _ _ _ _ _ _ _ _ _ _ _ _ _ _ _ _ _ = _
        rw [conf_once.l3, if_pos (by omega), if_pos (by omega), if_pos (by omega), if_pos rfl, if_neg (by omega), hw, eJ]
    | false =>
      refine Ev.step (fun k => ?_) (tail (fun h => by cases h))
      show conf_once.l3 (k + 1) _ _ _ _ _ _ _ _ _ _ _ _ _ _ _ _ _ _ _ _ _ _ _ _ _ _ _ _ = _
      rw [conf_once.l3, if_pos (by omega), if_pos (by omega), if_pos (by omega), if_neg (by simp), hw, eJ]
  refine loopC (n := y.f2.f3.length) (L := fun k j => conf_once.l3 k same (i : Int) x.f2.f3 (x.f2.f3.length : Int) (i : Int) y.f2.f3 (y.f2.f3.length : Int) j x.f0 x.f1 x.f2.f0 x.f2.f1 x.f2.f2 x.f2.f3 x.f2.f4 x.f2.f5 x.f2.f6 y.f0 y.f1 y.f2.f0 y.f2.f1 y.f2.f2 y.f2.f3 y.f2.f4 y.f2.f5 y.f2.f6 x.f2.f3[i].f0 x.f2.f3[i].f1) (fun j => ∃ h : j < y.f2.f3.length, (same = true → i ≠ j) → DifR x.f0 y.f0 x.f2.f3[i] y.f2.f3[j]) false (fun j hj hp r h3 => ?_) (fun j hj hp => ?_) (fun h3 => ?_) (fun h3 => ?_)
  · exact E j hj r (fun _ => h3) (fun h => absurd hp.2 h)
  · exact E j hj false (fun h => absurd ⟨hj, h⟩ hp) (fun _ => rfl)
  · refine Ev.step (fun k => ?_) (h1 (fun j hj => (h3 j hj).2))
    show conf_once.l3 (k + 1) _ _ _ _ _ _ _ _ _ _ _ _ _ _ _ _ _ _ _ _ _ _ _ _ _ _ _ _ = _
    rw [conf_once.l3, if_neg (by omega), wrap_next hi (by omega)]
  · obtain ⟨j, hj, hp⟩ := h3
    exact h2 (fun h => hp ⟨hj, h j hj⟩)
theorem conf_once_l2 (same : Bool) (x y : Sp) (hx : SmS x.f2) (hy : SmS y.f2) {r : Bool}
    (hr : r = true ↔ ∀ i j, (hi : i < x.f2.f3.length) → (hj : j < y.f2.f3.length) → (same = true → i ≠ j) → DifR x.f0 y.f0 x.f2.f3[i] y.f2.f3[j]) : Ev (fun k => conf_once.l2 k same x.f2.f3 (x.f2.f3.length : Int) 0 x.f0 x.f1 x.f2.f0 x.f2.f1 x.f2.f2 x.f2.f3 x.f2.f4 x.f2.f5 x.f2.f6 y.f0 y.f1 y.f2.f0 y.f2.f1 y.f2.f2 y.f2.f3 y.f2.f4 y.f2.f5 y.f2.f6) r := by
  have b1 := hx.2.1
  have E : ∀ i (hi : i < x.f2.f3.length) (r : Bool), ((∀ j, (hj : j < y.f2.f3.length) → (same = true → i ≠ j) → DifR x.f0 y.f0 x.f2.f3[i] y.f2.f3[j]) → Ev (fun k => conf_once.l2 k same x.f2.f3 (x.f2.f3.length : Int) ((i + 1 : Nat) : Int) x.f0 x.f1 x.f2.f0 x.f2.f1 x.f2.f2 x.f2.f3 x.f2.f4 x.f2.f5 x.f2.f6 y.f0 y.f1 y.f2.f0 y.f2.f1 y.f2.f2 y.f2.f3 y.f2.f4 y.f2.f5 y.f2.f6) r) → ((¬ ∀ j, (hj : j < y.f2.f3.length) → (same = true → i ≠ j) → DifR x.f0 y.f0 x.f2.f3[i] y.f2.f3[j]) → r = false) → Ev (fun k => conf_once.l2 k same x.f2.f3 (x.f2.f3.length : Int) (i : Int) x.f0 x.f1 x.f2.f0 x.f2.f1 x.f2.f2 x.f2.f3 x.f2.f4 x.f2.f5 x.f2.f6 y.f0 y.f1 y.f2.f0 y.f2.f1 y.f2.f2 y.f2.f3 y.f2.f4 y.f2.f5 y.f2.f6) r := by
    intro i hi r h3 h4
    refine Ev.step (fun k => ?_) (conf_once_l3 same x y hx hy i hi h3 h4)
    show conf_once.l2 (k + 1) _ _ _ _ _ _ _ _ _ _ _ _ _ _ _ _ _ _ _ _ _ _ = _
    rw [conf_once.l2, if_pos (by omega), if_pos (by omega), if_pos (by omega), show rd_T59 x.f2.f3 (i : Int) = x.f2.f3[i] from rd_get hi]
  refine loopC (n := x.f2.f3.length) (L := fun k i => conf_once.l2 k same x.f2.f3 (x.f2.f3.length : Int) i x.f0 x.f1 x.f2.f0 x.f2.f1 x.f2.f2 x.f2.f3 x.f2.f4 x.f2.f5 x.f2.f6 y.f0 y.f1 y.f2.f0 y.f2.f1 y.f2.f2 y.f2.f3 y.f2.f4 y.f2.f5 y.f2.f6) (fun i => ∃ h : i < x.f2.f3.length, ∀ j, (hj : j < y.f2.f3.length) → (same = true → i ≠ j) → DifR x.f0 y.f0 x.f2.f3[i] y.f2.f3[j]) false (fun i hi hp r h3 => ?_) (fun i hi hp => ?_) (fun h3 => ?_) (fun h3 => ?_)
  · exact E i hi r (fun _ => h3) (fun h => absurd hp.2 h)
  · exact E i hi false (fun h => absurd ⟨hi, h⟩ hp) (fun _ => rfl)
  · rw [hr.2 (fun i j hi hj => (h3 i hi).2 j hj)]
    refine Ev.step (f := fun _ => some true) (fun k => ?_) Ev.some'
    show conf_once.l2 (k + 1) _ _ _ _ _ _ _ _ _ _ _ _ _ _ _ _ _ _ _ _ _ _ = _
    rw [conf_once.l2, if_neg (by omega)]
  · obtain ⟨i, hi, hp⟩ := h3
    cases r with
    | false => rfl
    | true => exact absurd ⟨hi, fun j hj => hr.1 rfl i j hi hj⟩ hp
theorem conf_once_l1 (same : Bool) (x y : Sp) (hx : SmS x.f2) (hy : SmS y.f2) (i : Nat) (hi : i < x.f2.f2.length) {r : Bool}
    (h1 : (same = true → ∀ j, (hj : j < y.f2.f2.length) → i ≠ j → DisjP x.f2.f2[i] y.f2.f2[j]) → Ev (fun k => conf_once.l0 k same x.f2.f2 (x.f2.f2.length : Int) ((i + 1 : Nat) : Int) x.f0 x.f1 x.f2.f0 x.f2.f1 x.f2.f2 x.f2.f3 x.f2.f4 x.f2.f5 x.f2.f6 y.f0 y.f1 y.f2.f0 y.f2.f1 y.f2.f2 y.f2.f3 y.f2.f4 y.f2.f5 y.f2.f6) r)
    (h2 : (¬ (same = true → ∀ j, (hj : j < y.f2.f2.length) → i ≠ j → DisjP x.f2.f2[i] y.f2.f2[j])) → r = false) : Ev (fun k => conf_once.l1 k same (i : Int) x.f2.f2 (x.f2.f2.length : Int) (i : Int) y.f2.f2 (y.f2.f2.length : Int) 0 x.f0 x.f1 x.f2.f0 x.f2.f1 x.f2.f2 x.f2.f3 x.f2.f4 x.f2.f5 x.f2.f6 y.f0 y.f1 y.f2.f0 y.f2.f1 y.f2.f2 y.f2.f3 y.f2.f4 y.f2.f5 y.f2.f6 x.f2.f2[i].f0 x.f2.f2[i].f1) r := by
  have b1 := hx.1
  have b2 := hy.1
  have E : ∀ j (hj : j < y.f2.f2.length) (r : Bool), ((same = true → i ≠ j → DisjP x.f2.f2[i] y.f2.f2[j]) → Ev (fun k => conf_once.l1 k same (i : Int) x.f2.f2 (x.f2.f2.length : Int) (i : Int) y.f2.f2 (y.f2.f2.length : Int) ((j + 1 : Nat) : Int) x.f0 x.f1 x.f2.f0 x.f2.f1 x.f2.f2 x.f2.f3 x.f2.f4 x.f2.f5 x.f2.f6 y.f0 y.f1 y.f2.f0 y.f2.f1 y.f2.f2 y.f2.f3 y.f2.f4 y.f2.f5 y.f2.f6 x.f2.f2[i].f0 x.f2.f2[i].f1) r) → ((¬ (same = true → i ≠ j → DisjP x.f2.f2[i] y.f2.f2[j])) → r = false) → Ev (fun k => conf_once.l1 k same (i : Int) x.f2.f2 (x.f2.f2.length : Int) (i : Int) y.f2.f2 (y.f2.f2.length : Int) (j : Int) x.f0 x.f1 x.f2.f0 x.f2.f1 x.f2.f2 x.f2.f3 x.f2.f4 x.f2.f5 x.f2.f6 y.f0 y.f1 y.f2.f0 y.f2.f1 y.f2.f2 y.f2.f3 y.f2.f4 y.f2.f5 y.f2.f6 x.f2.f2[i].f0 x.f2.f2[i].f1) r := by
    intro j hj r h3 h4
    have hw : wrap64 ((j : Int) + 1) = ((j + 1 : Nat) : Int) := wrap_next hj (by omega)
    have eJ : rd_T62 y.f2.f2 (j : Int) = y.f2.f2[j] := rd_get hj
    cases same with
    | true =>
      by_cases c : i = j
      · refine Ev.step (fun k => ?_) (h3 (fun _ h => absurd c h))
        show conf_once.l1 (k + 1) _ _ _ _ _ _ _ _ _ _ _ _ _ _ _ _ _ _ _ _ _ _ _ _ _ _ _ _ = _
        rw [conf_once.l1, if_pos (by omega), if_pos (by omega), if_pos (by omega), if_pos rfl, if_pos (by omega), hw]
      · refine Ev.step (f := fun k => if decide (x.f2.f2[i].f0 ≤ y.f2.f2[j].f0 ∧ y.f2.f2[j].f0 ≤ x.f2.f2[i].f1) = true then some false else (if decide (y.f2.f2[j].f0 ≤ x.f2.f2[i].f0 ∧ x.f2.f2[i].f0 ≤ y.f2.f2[j].f1) = true then some false else conf_once.l1 k true (i : Int) x.f2.f2 (x.f2.f2.length : Int) (i : Int) y.f2.f2 (y.f2.f2.length : Int) ((j + 1 : Nat) : Int) x.f0 x.f1 x.f2.f0 x.f2.f1 x.f2.f2 x.f2.f3 x.f2.f4 x.f2.f5 x.f2.f6 y.f0 y.f1 y.f2.f0 y.f2.f1 y.f2.f2 y.f2.f3 y.f2.f4 y.f2.f5 y.f2.f6 x.f2.f2[i].f0 x.f2.f2[i].f1)) (fun k => ?_) ?_
        · show conf_once.l1 (k + 1) _ _ _ _ _ _ _ _ _ _ _ _ _ _ _ _ _ _ _ _ _ _ _ _ _ _ _ _ = _
          rw [conf_once.l1, if_pos (by omega), if_pos (by omega), if_pos (by omega), if_pos rfl, if_neg (by omega), eJ, conf_has_s, Option.bind_some, conf_has_s, Option.bind_some, hw]
        · by_cases c1 : x.f2.f2[i].f0 ≤ y.f2.f2[j].f0 ∧ y.f2.f2[j].f0 ≤ x.f2.f2[i].f1
          · rw [h4 (fun h => (h rfl c).1 c1)]; exact Ev.pos (decide_eq_true c1) Ev.some'
          · refine Ev.neg (by rw [decide_eq_false c1]; simp) ?_
            by_cases c2 : y.f2.f2[j].f0 ≤ x.f2.f2[i].f0 ∧ x.f2.f2[i].f0 ≤ y.f2.f2[j].f1
            · rw [h4 (fun h => (h rfl c).2 c2)]; exact Ev.pos (decide_eq_true c2) Ev.some'
            · exact Ev.neg (by rw [decide_eq_false c2]; simp) (h3 (fun _ _ => ⟨c1, c2⟩))
    | false =>
      refine Ev.step (fun k => ?_) (h3 (fun h => by cases h))
      show conf_once.l1 (k + 1) _ _ _ _ _ _ _ _ _ _ _ _ _ _ _ _ _ _ _ _ _ _ _ _ _ _ _ _ = _
      rw [conf_once.l1, if_pos (by omega), if_pos (by omega), if_pos (by omega), if_neg (by simp), hw]
  refine loopC (n := y.f2.f2.length) (L := fun k j => conf_once.l1 k same (i : Int) x.f2.f2 (x.f2.f2.length : Int) (i : Int) y.f2.f2 (y.f2.f2.length : Int) j x.f0 x.f1 x.f2.f0 x.f2.f1 x.f2.f2 x.f2.f3 x.f2.f4 x.f2.f5 x.f2.f6 y.f0 y.f1 y.f2.f0 y.f2.f1 y.f2.f2 y.f2.f3 y.f2.f4 y.f2.f5 y.f2.f6 x.f2.f2[i].f0 x.f2.f2[i].f1) (fun j => ∃ h : j < y.f2.f2.length, same = true → i ≠ j → DisjP x.f2.f2[i] y.f2.f2[j]) false (fun j hj hp r h3 => ?_) (fun j hj hp => ?_) (fun h3 => ?_) (fun h3 => ?_)
  · exact E j hj r (fun _ => h3) (fun h => absurd hp.2 h)
  · exact E j hj false (fun h => absurd ⟨hj, h⟩ hp) (fun _ => rfl)
  · refine Ev.step (fun k => ?_) (h1 (fun e j hj => (h3 j hj).2 e))
    show conf_once.l1 (k + 1) _ _ _ _ _ _ _ _ _ _ _ _ _ _ _ _ _ _ _ _ _ _ _ _ _ _ _ _ = _
    rw [conf_once.l1, if_neg (by omega), wrap_next hi (by omega)]
  · obtain ⟨j, hj, hp⟩ := h3
    exact h2 (fun h => hp ⟨hj, fun e => h e j hj⟩)
theorem conf_once_l0 (same : Bool) (x y : Sp) (hx : SmS x.f2) (hy : SmS y.f2) {r : Bool}
    (hr : r = true ↔ (same = true → ∀ i j, (hi : i < x.f2.f2.length) → (hj : j < y.f2.f2.length) → i ≠ j → DisjP x.f2.f2[i] y.f2.f2[j]) ∧
      ∀ i j, (hi : i < x.f2.f3.length) → (hj : j < y.f2.f3.length) → (same = true → i ≠ j) → DifR x.f0 y.f0 x.f2.f3[i] y.f2.f3[j]) : Ev (fun k => conf_once.l0 k same x.f2.f2 (x.f2.f2.length : Int) 0 x.f0 x.f1 x.f2.f0 x.f2.f1 x.f2.f2 x.f2.f3 x.f2.f4 x.f2.f5 x.f2.f6 y.f0 y.f1 y.f2.f0 y.f2.f1 y.f2.f2 y.f2.f3 y.f2.f4 y.f2.f5 y.f2.f6) r := by
  have b1 := hx.1
  have E : ∀ i (hi : i < x.f2.f2.length) (r : Bool), ((same = true → ∀ j, (hj : j < y.f2.f2.length) → i ≠ j → DisjP x.f2.f2[i] y.f2.f2[j]) → Ev (fun k => conf_once.l0 k same x.f2.f2 (x.f2.f2.length : Int) ((i + 1 : Nat) : Int) x.f0 x.f1 x.f2.f0 x.f2.f1 x.f2.f2 x.f2.f3 x.f2.f4 x.f2.f5 x.f2.f6 y.f0 y.f1 y.f2.f0 y.f2.f1 y.f2.f2 y.f2.f3 y.f2.f4 y.f2.f5 y.f2.f6) r) → ((¬ (same = true → ∀ j, (hj : j < y.f2.f2.length) → i ≠ j → DisjP x.f2.f2[i] y.f2.f2[j])) → r = false) → Ev (fun k => conf_once.l0 k same x.f2.f2 (x.f2.f2.length : Int) (i : Int) x.f0 x.f1 x.f2.f0 x.f2.f1 x.f2.f2 x.f2.f3 x.f2.f4 x.f2.f5 x.f2.f6 y.f0 y.f1 y.f2.f0 y.f2.f1 y.f2.f2 y.f2.f3 y.f2.f4 y.f2.f5 y.f2.f6) r := by
    intro i hi r h3 h4
    refine Ev.step (fun k => ?_) (conf_once_l1 same x y hx hy i hi h3 h4)
    show conf_once.l0 (k + 1) _ _ _ _ _ _ _ _ _ _ _ _ _ _ _ _ _ _ _ _ _ _ = _
    rw [conf_once.l0, if_pos (by omega), if_pos (by omega), if_pos (by omega), show rd_T62 x.f2.f2 (i : Int) = x.f2.f2[i] from rd_get hi]
  refine loopC (n := x.f2.f2.length) (L := fun k i => conf_once.l0 k same x.f2.f2 (x.f2.f2.length : Int) i x.f0 x.f1 x.f2.f0 x.f2.f1 x.f2.f2 x.f2.f3 x.f2.f4 x.f2.f5 x.f2.f6 y.f0 y.f1 y.f2.f0 y.f2.f1 y.f2.f2 y.f2.f3 y.f2.f4 y.f2.f5 y.f2.f6) (fun i => ∃ h : i < x.f2.f2.length, same = true → ∀ j, (hj : j < y.f2.f2.length) → i ≠ j → DisjP x.f2.f2[i] y.f2.f2[j]) false (fun i hi hp r h3 => ?_) (fun i hi hp => ?_) (fun h3 => ?_) (fun h3 => ?_)
  · exact E i hi r (fun _ => h3) (fun h => absurd hp.2 h)
  · exact E i hi false (fun h => absurd ⟨hi, h⟩ hp) (fun _ => rfl)
  · refine Ev.step (fun k => ?_) (conf_once_l2 same x y hx hy (r := r) ?_)
    · show conf_once.l0 (k + 1) _ _ _ _ _ _ _ _ _ _ _ _ _ _ _ _ _ _ _ _ _ _ = _
      rw [conf_once.l0, if_neg (by omega)]
    · rw [hr]
      exact ⟨fun h => h.2, fun h => ⟨fun e i j hi hj => (h3 i hi).2 e j hj, h⟩⟩
  · obtain ⟨i, hi, hp⟩ := h3
    cases r with
    | false => rfl
    | true => exact absurd ⟨hi, fun e j hj => (hr.1 rfl).1 e i j hi hj⟩ hp
open Classical in
theorem conf_once_s (x y : Sp) (hx : SmS x.f2) (hy : SmS y.f2) (same : Bool) : Ev (fun k => conf_once.f k x.f0 x.f1 x.f2.f0 x.f2.f1 x.f2.f2 x.f2.f3 x.f2.f4 x.f2.f5 x.f2.f6 y.f0 y.f1 y.f2.f0 y.f2.f1 y.f2.f2 y.f2.f3 y.f2.f4 y.f2.f5 y.f2.f6 same) (decide (OnceP x y same)) := by
  have J : ∀ (b : Bool), (b = true → ¬ OnceP x y same) → (b = false → (same = false → FarS x y)) → Ev (fun k => conf_once.j0 k same b x.f0 x.f1 x.f2.f0 x.f2.f1 x.f2.f2 x.f2.f3 x.f2.f4 x.f2.f5 x.f2.f6 y.f0 y.f1 y.f2.f0 y.f2.f1 y.f2.f2 y.f2.f3 y.f2.f4 y.f2.f5 y.f2.f6) (decide (OnceP x y same)) := by
    intro b hb hc
    cases b with
    | true =>
      rw [decide_eq_false (hb rfl)]
      exact Ev.step (f := fun _ => some false) (fun k => by show conf_once.j0 (k + 1) _ _ _ _ _ _ _ _ _ _ _ _ _ _ _ _ _ _ _ _ = _; rw [conf_once.j0, if_pos rfl]) Ev.some'
    | false =>
      refine Ev.step (fun k => by show conf_once.j0 (k + 1) _ _ _ _ _ _ _ _ _ _ _ _ _ _ _ _ _ _ _ _ = _; rw [conf_once.j0, if_neg (by simp)]) (conf_once_l0 same x y hx hy (r := decide (OnceP x y same)) ?_)
      rw [decide_eq_true_iff]
      exact ⟨fun h => h.2, fun h => ⟨hc rfl, h⟩⟩
  cases same with
  | true =>
    refine Ev.congr (f := fun k => conf_once.j0 k true false x.f0 x.f1 x.f2.f0 x.f2.f1 x.f2.f2 x.f2.f3 x.f2.f4 x.f2.f5 x.f2.f6 y.f0 y.f1 y.f2.f0 y.f2.f1 y.f2.f2 y.f2.f3 y.f2.f4 y.f2.f5 y.f2.f6) (fun k => ?_) (J false (fun h => by cases h) (fun _ h => by cases h))
    unfold conf_once.f
    rw [if_pos rfl]
  | false =>
    refine Ev.congr (f := fun k => if meetB x.f2.f0 x.f2.f1 y.f2.f0 y.f2.f1 = true then conf_once.j0 k false true x.f0 x.f1 x.f2.f0 x.f2.f1 x.f2.f2 x.f2.f3 x.f2.f4 x.f2.f5 x.f2.f6 y.f0 y.f1 y.f2.f0 y.f2.f1 y.f2.f2 y.f2.f3 y.f2.f4 y.f2.f5 y.f2.f6 else (if x.f0 = y.f0 then conf_once.j0 k false false x.f0 x.f1 x.f2.f0 x.f2.f1 x.f2.f2 x.f2.f3 x.f2.f4 x.f2.f5 x.f2.f6 y.f0 y.f1 y.f2.f0 y.f2.f1 y.f2.f2 y.f2.f3 y.f2.f4 y.f2.f5 y.f2.f6 else (if x.f2.f4 = y.f2.f4 then conf_once.j0 k false (decide (x.f2.f4 > 0)) x.f0 x.f1 x.f2.f0 x.f2.f1 x.f2.f2 x.f2.f3 x.f2.f4 x.f2.f5 x.f2.f6 y.f0 y.f1 y.f2.f0 y.f2.f1 y.f2.f2 y.f2.f3 y.f2.f4 y.f2.f5 y.f2.f6 else conf_once.j0 k false false x.f0 x.f1 x.f2.f0 x.f2.f1 x.f2.f2 x.f2.f3 x.f2.f4 x.f2.f5 x.f2.f6 y.f0 y.f1 y.f2.f0 y.f2.f1 y.f2.f2 y.f2.f3 y.f2.f4 y.f2.f5 y.f2.f6))) (fun k => ?_) ?_
    · unfold conf_once.f
      rw [if_neg (by simp), addr_Meet_s, Option.bind_some]
    · by_cases c1 : meetB x.f2.f0 x.f2.f1 y.f2.f0 y.f2.f1 = true
      · refine Ev.pos c1 (J true (fun _ h => ?_) (fun h => by cases h))
        have := (h.1 rfl).1
        rw [show meetC x.f2.f0 x.f2.f1 y.f2.f0 y.f2.f1 = meetB x.f2.f0 x.f2.f1 y.f2.f0 y.f2.f1 from rfl, c1] at this
        cases this
      · have c1' : meetC x.f2.f0 x.f2.f1 y.f2.f0 y.f2.f1 = false := Bool.eq_false_iff.mpr c1
        refine Ev.neg c1 ?_
        by_cases c2 : x.f0 = y.f0
        · exact Ev.pos c2 (J false (fun h => by cases h) (fun _ _ => ⟨c1', fun h => h.1 c2⟩))
        · refine Ev.neg c2 ?_
          by_cases c3 : x.f2.f4 = y.f2.f4
          · exact Ev.pos c3 (J _ (fun h h2 => (h2.1 rfl).2 ⟨c2, c3, of_decide_eq_true h⟩) (fun h _ => ⟨c1', fun h2 => of_decide_eq_false h h2.2.2⟩))
          · exact Ev.neg c3 (J false (fun h => by cases h) (fun _ _ => ⟨c1', fun h => c3 h.2.1⟩))

/-! ### conf.unlike -/
open Classical in
theorem conf_unlike_l1 (l : List Sp) (hl : l.length ≤ 1000) (hS : ∀ (i : Nat) (hi : i < l.length), SmS l[i].f2) (i : Nat) (hi : i < l.length) {r : Bool}
    (h1 : (∀ j, (hj : j < l.length) → OnceP l[i] l[j] (decide (i = j))) → Ev (fun k => conf_unlike.l0 k l l (l.length : Int) ((i + 1 : Nat) : Int)) r) (h2 : (¬ ∀ j, (hj : j < l.length) → OnceP l[i] l[j] (decide (i = j))) → r = false) :
    Ev (fun k => conf_unlike.l1 k l (i : Int) l (l.length : Int) (i : Int) l (l.length : Int) 0 l[i].f0 l[i].f1 l[i].f2.f0 l[i].f2.f1 l[i].f2.f2 l[i].f2.f3 l[i].f2.f4 l[i].f2.f5 l[i].f2.f6) r := by
  have E : ∀ j (hj : j < l.length) (r : Bool), (OnceP l[i] l[j] (decide (i = j)) → Ev (fun k => conf_unlike.l1 k l (i : Int) l (l.length : Int) (i : Int) l (l.length : Int) ((j + 1 : Nat) : Int) l[i].f0 l[i].f1 l[i].f2.f0 l[i].f2.f1 l[i].f2.f2 l[i].f2.f3 l[i].f2.f4 l[i].f2.f5 l[i].f2.f6) r) →
      (¬ OnceP l[i] l[j] (decide (i = j)) → r = false) → Ev (fun k => conf_unlike.l1 k l (i : Int) l (l.length : Int) (i : Int) l (l.length : Int) (j : Int) l[i].f0 l[i].f1 l[i].f2.f0 l[i].f2.f1 l[i].f2.f2 l[i].f2.f3 l[i].f2.f4 l[i].f2.f5 l[i].f2.f6) r := by
    intro j hj r h3 h4
    have eD : ((i : Int) == (j : Int)) = decide (i = j) := by
      by_cases c : i = j
      · subst c; simp
      · rw [decide_eq_false c]; exact beq_eq_false_iff_ne.2 (fun h => c (by omega))
    refine Ev.step (fun k => ?_) (Ev.bind (conf_once_s l[i] l[j] (hS i hi) (hS j hj) (decide (i = j))) (f := fun k t => if t = true then conf_unlike.l1 k l (i : Int) l (l.length : Int) (i : Int) l (l.length : Int) ((j + 1 : Nat) : Int) l[i].f0 l[i].f1 l[i].f2.f0 l[i].f2.f1 l[i].f2.f2 l[i].f2.f3 l[i].f2.f4 l[i].f2.f5 l[i].f2.f6 else some false) ?_)
    · show conf_unlike.l1 (k + 1) _ _ _ _ _ _ _ _ _ _ _ _ _ _ _ _ _ = _
      rw [conf_unlike.l1, if_pos (by omega), if_pos (by omega), if_pos (by omega), show rd_T66 l (j : Int) = l[j] from rd_get hj, wrap_next hj (by omega), eD]
    · by_cases c : OnceP l[i] l[j] (decide (i = j))
      · exact Ev.pos (decide_eq_true c) (h3 c)
      · rw [h4 c]; exact Ev.neg (by rw [decide_eq_false c]; simp) Ev.some'
  refine loopC (n := l.length) (L := fun k j => conf_unlike.l1 k l (i : Int) l (l.length : Int) (i : Int) l (l.length : Int) j l[i].f0 l[i].f1 l[i].f2.f0 l[i].f2.f1 l[i].f2.f2 l[i].f2.f3 l[i].f2.f4 l[i].f2.f5 l[i].f2.f6) (fun j => ∃ h : j < l.length, OnceP l[i] l[j] (decide (i = j))) false (fun j hj hp r h3 => ?_) (fun j hj hp => ?_) (fun h3 => ?_) (fun h3 => ?_)
  · exact E j hj r (fun _ => h3) (fun h => absurd hp.2 h)
  · exact E j hj false (fun h => absurd ⟨hj, h⟩ hp) (fun _ => rfl)
  · refine Ev.step (fun k => ?_) (h1 (fun j hj => (h3 j hj).2))
    show conf_unlike.l1 (k + 1) _ _ _ _ _ _ _ _ _ _ _ _ _ _ _ _ _ = _
    rw [conf_unlike.l1, if_neg (by omega), wrap_next hi (by omega)]
  · obtain ⟨j, hj, hp⟩ := h3
    exact h2 (fun h => hp ⟨hj, h j hj⟩)
open Classical in
theorem conf_unlike_s (a b : Int) (nets : List Nt) (h : Sm nets) : Ev (fun k => conf_unlike.f k a b nets) (decide (UnlikeP (spotsL nets))) := by
  refine Ev.bind (conf_spots_s a b nets h) (f := fun k t => conf_unlike.l0 k t t (t.length : Int) 0) ?_
  have hN : (spotsL nets).length ≤ 1000 := by have := spots_len (n := 0) (fun x hx => (h.2 x hx).1); have := h.1; unfold spotsL; omega
  have hS : ∀ (i : Nat) (hi : i < (spotsL nets).length), SmS (spotsL nets)[i].f2 := fun i hi => (spots_all (F := SmS)).2 (fun n hn s hs => (h.2 n hn).2 s hs) _ (List.getElem_mem hi)
  generalize spotsL nets = l at *
  have E : ∀ i (hi : i < l.length) (r : Bool), ((∀ j, (hj : j < l.length) → OnceP l[i] l[j] (decide (i = j))) → Ev (fun k => conf_unlike.l0 k l l (l.length : Int) ((i + 1 : Nat) : Int)) r) → ((¬ ∀ j, (hj : j < l.length) → OnceP l[i] l[j] (decide (i = j))) → r = false) → Ev (fun k => conf_unlike.l0 k l l (l.length : Int) (i : Int)) r := by
    intro i hi r h3 h4
    refine Ev.step (fun k => ?_) (conf_unlike_l1 l hN hS i hi h3 h4)
    show conf_unlike.l0 (k + 1) _ _ _ _ = _
    rw [conf_unlike.l0, if_pos (by omega), if_pos (by omega), if_pos (by omega), show rd_T66 l (i : Int) = l[i] from rd_get hi]
  refine loopC (n := l.length) (L := fun k i => conf_unlike.l0 k l l (l.length : Int) i) (fun i => ∃ h : i < l.length, ∀ j, (hj : j < l.length) → OnceP l[i] l[j] (decide (i = j))) false (fun i hi hp r h3 => ?_) (fun i hi hp => ?_) (fun h3 => ?_) (fun h3 => ?_)
  · exact E i hi r (fun _ => h3) (fun h => absurd hp.2 h)
  · exact E i hi false (fun h => absurd ⟨hi, h⟩ hp) (fun _ => rfl)
  · rw [decide_eq_true (show UnlikeP l from fun i j hi hj => (h3 i hi).2 j hj)]
    refine Ev.step (f := fun _ => some true) (fun k => ?_) Ev.some'
    show conf_unlike.l0 (k + 1) _ _ _ _ = _
    rw [conf_unlike.l0, if_neg (by omega)]
  · obtain ⟨i, hi, hp⟩ := h3
    exact decide_eq_false (fun h => hp ⟨hi, fun j hj => h i j hi hj⟩)

/-! ### conf.Check -/
open Classical in
theorem conf_Check_s (a b : Int) (nets : List Nt) (h : Sm nets) : Ev (fun k => conf_Check.f k a b nets) (checkI a b nets) := by
  unfold checkI
  refine Ev.bind (conf_form_s a b nets h) (f := fun k t => if t = true then ((conf_placed.f k a b nets).bind fun t193 => (if t193 = true then ((conf_unlike.f k a b nets).bind fun t194 => (if t194 = true then (some 0) else (some 8))) else (some 9))) else (some 1)) ?_
  by_cases c1 : FormP a b nets
  · rw [if_pos c1]
    refine Ev.pos (decide_eq_true c1) (Ev.bind (conf_placed_s a b nets h c1.2.2.2.2.2.2) (f := fun k t193 => (if t193 = true then ((conf_unlike.f k a b nets).bind fun t194 => (if t194 = true then (some 0) else (some 8))) else (some 9))) ?_)
    by_cases c2 : ∀ n ∈ nets, ∀ s ∈ n.f0, PlaceS a s
    · rw [if_pos c2]
      refine Ev.pos (decide_eq_true c2) (Ev.bind (conf_unlike_s a b nets h) (f := fun k t194 => (if t194 = true then (some 0) else (some 8))) ?_)
      by_cases c3 : UnlikeP (spotsL nets)
      · rw [if_pos c3]; exact Ev.pos (decide_eq_true c3) Ev.some'
      · rw [if_neg c3]; exact Ev.neg (by rw [decide_eq_false c3]; simp) Ev.some'
    · rw [if_neg c2]; exact Ev.neg (by rw [decide_eq_false c2]; simp) Ev.some'
  · rw [if_neg c1]; exact Ev.neg (by rw [decide_eq_false c1]; simp) Ev.some'

/-! ### conf.right -/
theorem conf_right_s (a b : Int) (nets : List Nt) (h : Sm nets) : Ev (fun k => conf_right.f k a b nets) (rightL a b nets) := by
  unfold rightL
  refine Ev.bind (conf_Check_s a b nets h) (f := fun k t => if t = 0 then ((conf_spots.f k a b nets).bind fun t197 => (some t197)) else (some ([] : List Sp))) ?_
  by_cases c : checkI a b nets = 0
  · rw [if_pos c]; exact Ev.pos c (Ev.bind (conf_spots_s a b nets h) (f := fun _ t => some t) Ev.some')
  · rw [if_neg c]; exact Ev.neg c Ev.some'

/-! ### conf.KeptFor -/
theorem conf_KeptFor_l1 (l : List Sp) (hl : l.length ≤ 1000) (hS : ∀ x ∈ l, SmS x.f2) (n : Int) (y : ByteArray) (m : Nat) (hm : m < l.length) {r : Int × Bool} (h1 : (if l[m].f0 = n then keptG y l[m].f2 else none) = none → Ev (fun k => conf_KeptFor.l0 k n y l (l.length : Int) ((m + 1 : Nat) : Int)) r) (h2 : ∀ v, (if l[m].f0 = n then keptG y l[m].f2 else none) = some v → r = v) :
    Ev (fun k => conf_KeptFor.l1 k n y l (l.length : Int) (m : Int) l[m].f2.f3 (l[m].f2.f3.length : Int) 0 l[m].f0 l[m].f1 l[m].f2.f0 l[m].f2.f1 l[m].f2.f2 l[m].f2.f3 l[m].f2.f4 l[m].f2.f5 l[m].f2.f6) r := by
  have h20 := (hS _ (List.getElem_mem hm)).2.1
  have eQ : (l[m].f2.f3.findSome? (fun r => if l[m].f0 = n ∧ r.f0.toList = y.toList then some (r.f1, true) else none)) = (if l[m].f0 = n then keptG y l[m].f2 else none) := by
    by_cases c : l[m].f0 = n
    · rw [if_pos c]; unfold keptG; congr 1; funext r; simp [c]
    · rw [if_neg c]; simp [c]
  rw [← eQ] at h1 h2
  refine loopF l[m].f2.f3 (fun r => if l[m].f0 = n ∧ r.f0.toList = y.toList then some (r.f1, true) else none) (L := fun k i => conf_KeptFor.l1 k n y l (l.length : Int) (m : Int) l[m].f2.f3 (l[m].f2.f3.length : Int) i l[m].f0 l[m].f1 l[m].f2.f0 l[m].f2.f1 l[m].f2.f2 l[m].f2.f3 l[m].f2.f4 l[m].f2.f5 l[m].f2.f6) (fun i hi v hv => ?_) (fun i hi hv r h3 => ?_) (fun h3 => ?_) h2
  · by_cases c : l[m].f0 = n ∧ l[m].f2.f3[i].f0.toList = y.toList
    · rw [if_pos c] at hv
      obtain rfl := Option.some.inj hv
      refine Ev.step (f := fun _ => some (l[m].f2.f3[i].f1, true)) (fun k => ?_) Ev.some'
      show conf_KeptFor.l1 (k + 1) _ _ _ _ _ _ _ _ _ _ _ _ _ _ _ _ _ = _
      rw [conf_KeptFor.l1, if_pos (by omega), if_pos (by omega), if_pos (by omega), show rd_T59 l[m].f2.f3 (i : Int) = l[m].f2.f3[i] from rd_get hi, if_pos c.1, if_pos c.2]
    · rw [if_neg c] at hv; cases hv
  · by_cases c : l[m].f0 = n ∧ l[m].f2.f3[i].f0.toList = y.toList
    · rw [if_pos c] at hv; cases hv
    · refine Ev.step (fun k => ?_) h3
      show conf_KeptFor.l1 (k + 1) _ _ _ _ _ _ _ _ _ _ _ _ _ _ _ _ _ = _
      rw [conf_KeptFor.l1, if_pos (by omega), if_pos (by omega), if_pos (by omega), show rd_T59 l[m].f2.f3 (i : Int) = l[m].f2.f3[i] from rd_get hi, wrap_next hi (by omega)]
      by_cases c1 : l[m].f0 = n
      · rw [if_pos c1, if_neg (fun h => c ⟨c1, h⟩)]
      · rw [if_neg c1]
  · refine Ev.step (fun k => ?_) (h1 h3)
    show conf_KeptFor.l1 (k + 1) _ _ _ _ _ _ _ _ _ _ _ _ _ _ _ _ _ = _
    rw [conf_KeptFor.l1, if_neg (by omega), wrap_next hm (by omega)]
theorem conf_KeptFor_s (a b : Int) (nets : List Nt) (h : Sm nets) (n : Int) (y : ByteArray) : Ev (fun k => conf_KeptFor.f k a b nets n y) (keptL a b nets n y) := by
  refine Ev.bind (conf_right_s a b nets h) (f := fun k t => conf_KeptFor.l0 k n y t (t.length : Int) 0) ?_
  have hN := rightL_len (a := a) (b := b) h
  have hS := rightL_sm (a := a) (b := b) h
  unfold keptL
  generalize rightL a b nets = l at *
  have E : ∀ i (hi : i < l.length) (r : Int × Bool), ((if l[i].f0 = n then keptG y l[i].f2 else none) = none → Ev (fun k => conf_KeptFor.l0 k n y l (l.length : Int) ((i + 1 : Nat) : Int)) r) → (∀ v, (if l[i].f0 = n then keptG y l[i].f2 else none) = some v → r = v) → Ev (fun k => conf_KeptFor.l0 k n y l (l.length : Int) (i : Int)) r := by
    intro i hi r h3 h4
    refine Ev.step (fun k => ?_) (conf_KeptFor_l1 l hN hS n y i hi h3 h4)
    show conf_KeptFor.l0 (k + 1) _ _ _ _ _ = _
    rw [conf_KeptFor.l0, if_pos (by omega), if_pos (by omega), if_pos (by omega), show rd_T66 l (i : Int) = l[i] from rd_get hi]
  refine loopF l (fun x => if x.f0 = n then keptG y x.f2 else none) (L := fun k i => conf_KeptFor.l0 k n y l (l.length : Int) i) (fun i hi v hv => E i hi v (fun h => by rw [h] at hv; cases hv) (fun u hu => by rw [hu] at hv; exact (Option.some.inj hv).symm)) (fun i hi hv r h3 => E i hi r (fun _ => h3) (fun u hu => by rw [hv] at hu; cases hu)) (fun h3 => ?_) (fun v hv => getD_some hv)
  rw [getD_none h3]
  refine Ev.step (f := fun _ => some (0, false)) (fun k => ?_) Ev.some'
  show conf_KeptFor.l0 (k + 1) _ _ _ _ _ = _
  rw [conf_KeptFor.l0, if_neg (by omega)]

/-! ### conf.Keeper -/
theorem conf_Keeper_l1 (l : List Sp) (hl : l.length ≤ 1000) (hS : ∀ x ∈ l, SmS x.f2) (x : Int) (m : Nat) (hm : m < l.length) {r : ByteArray × Bool} (h1 : keepG x l[m].f2 = none → Ev (fun k => conf_Keeper.l0 k x l (l.length : Int) ((m + 1 : Nat) : Int)) r) (h2 : ∀ v, keepG x l[m].f2 = some v → r = v) :
    Ev (fun k => conf_Keeper.l1 k x l (l.length : Int) (m : Int) l[m].f2.f3 (l[m].f2.f3.length : Int) 0) r := by
  have h20 := (hS _ (List.getElem_mem hm)).2.1
  refine loopF l[m].f2.f3 (fun r => if r.f1 = x then some (r.f0, true) else none) (L := fun k i => conf_Keeper.l1 k x l (l.length : Int) (m : Int) l[m].f2.f3 (l[m].f2.f3.length : Int) i) (fun i hi v hv => ?_) (fun i hi hv r h3 => ?_) (fun h3 => ?_) h2
  · by_cases c : l[m].f2.f3[i].f1 = x
    · rw [if_pos c] at hv
      obtain rfl := Option.some.inj hv
      refine Ev.step (f := fun _ => some (l[m].f2.f3[i].f0, true)) (fun k => ?_) Ev.some'
      show conf_Keeper.l1 (k + 1) _ _ _ _ _ _ _ = _
      rw [conf_Keeper.l1, if_pos (by omega), if_pos (by omega), if_pos (by omega), show rd_T59 l[m].f2.f3 (i : Int) = l[m].f2.f3[i] from rd_get hi, if_pos c]
    · rw [if_neg c] at hv; cases hv
  · by_cases c : l[m].f2.f3[i].f1 = x
    · rw [if_pos c] at hv; cases hv
    · refine Ev.step (fun k => ?_) h3
      show conf_Keeper.l1 (k + 1) _ _ _ _ _ _ _ = _
      rw [conf_Keeper.l1, if_pos (by omega), if_pos (by omega), if_pos (by omega), show rd_T59 l[m].f2.f3 (i : Int) = l[m].f2.f3[i] from rd_get hi, if_neg c, wrap_next hi (by omega)]
  · refine Ev.step (fun k => ?_) (h1 h3)
    show conf_Keeper.l1 (k + 1) _ _ _ _ _ _ _ = _
    rw [conf_Keeper.l1, if_neg (by omega), wrap_next hm (by omega)]
theorem conf_Keeper_s (a b : Int) (nets : List Nt) (h : Sm nets) (x : Int) : Ev (fun k => conf_Keeper.f k a b nets x) (keepL a b nets x) := by
  refine Ev.bind (conf_right_s a b nets h) (f := fun k t => conf_Keeper.l0 k x t (t.length : Int) 0) ?_
  have hN := rightL_len (a := a) (b := b) h
  have hS := rightL_sm (a := a) (b := b) h
  unfold keepL
  generalize rightL a b nets = l at *
  have E : ∀ i (hi : i < l.length) (r : ByteArray × Bool), (keepG x l[i].f2 = none → Ev (fun k => conf_Keeper.l0 k x l (l.length : Int) ((i + 1 : Nat) : Int)) r) → (∀ v, keepG x l[i].f2 = some v → r = v) → Ev (fun k => conf_Keeper.l0 k x l (l.length : Int) (i : Int)) r := by
    intro i hi r h3 h4
    refine Ev.step (fun k => ?_) (conf_Keeper_l1 l hN hS x i hi h3 h4)
    show conf_Keeper.l0 (k + 1) _ _ _ _ = _
    rw [conf_Keeper.l0, if_pos (by omega), if_pos (by omega), if_pos (by omega), show rd_T66 l (i : Int) = l[i] from rd_get hi]
  refine loopF l (fun y => keepG x y.f2) (L := fun k i => conf_Keeper.l0 k x l (l.length : Int) i) (fun i hi v hv => E i hi v (fun h => by rw [h] at hv; cases hv) (fun u hu => by rw [hu] at hv; exact (Option.some.inj hv).symm)) (fun i hi hv r h3 => E i hi r (fun _ => h3) (fun u hu => by rw [hv] at hu; cases hu)) (fun h3 => ?_) (fun v hv => getD_some hv)
  rw [getD_none h3]
  refine Ev.step (f := fun _ => some (⟨#[]⟩, false)) (fun k => ?_) Ev.some'
  show conf_Keeper.l0 (k + 1) _ _ _ _ = _
  rw [conf_Keeper.l0, if_neg (by omega)]

/-! ### conf.InPool -/
theorem conf_InPool_l1 (l : List Sp) (hl : l.length ≤ 1000) (hS : ∀ x ∈ l, SmS x.f2) (n y : Int) (m : Nat) (hm : m < l.length) {r : Bool} (h1 : (if l[m].f0 = n then poolG y l[m].f2 else none) = none → Ev (fun k => conf_InPool.l0 k n y l (l.length : Int) ((m + 1 : Nat) : Int)) r) (h2 : ∀ v, (if l[m].f0 = n then poolG y l[m].f2 else none) = some v → r = v) :
    Ev (fun k => conf_InPool.l1 k n y l (l.length : Int) (m : Int) l[m].f2.f2 (l[m].f2.f2.length : Int) 0 l[m].f0 l[m].f1 l[m].f2.f0 l[m].f2.f1 l[m].f2.f2 l[m].f2.f3 l[m].f2.f4 l[m].f2.f5 l[m].f2.f6) r := by
  have h20 := (hS _ (List.getElem_mem hm)).1
  have eQ : (l[m].f2.f2.findSome? (fun p => if l[m].f0 = n ∧ (p.f0 ≤ y ∧ y ≤ p.f1) then some true else none)) = (if l[m].f0 = n then poolG y l[m].f2 else none) := by
    by_cases c : l[m].f0 = n
    · rw [if_pos c]; unfold poolG; congr 1; funext r; simp [c]
    · rw [if_neg c]; simp [c]
  rw [← eQ] at h1 h2
  refine loopF l[m].f2.f2 (fun p => if l[m].f0 = n ∧ (p.f0 ≤ y ∧ y ≤ p.f1) then some true else none) (L := fun k i => conf_InPool.l1 k n y l (l.length : Int) (m : Int) l[m].f2.f2 (l[m].f2.f2.length : Int) i l[m].f0 l[m].f1 l[m].f2.f0 l[m].f2.f1 l[m].f2.f2 l[m].f2.f3 l[m].f2.f4 l[m].f2.f5 l[m].f2.f6) (fun i hi v hv => ?_) (fun i hi hv r h3 => ?_) (fun h3 => ?_) h2
  · by_cases c : l[m].f0 = n ∧ (l[m].f2.f2[i].f0 ≤ y ∧ y ≤ l[m].f2.f2[i].f1)
    · rw [if_pos c] at hv
      obtain rfl := Option.some.inj hv
      refine Ev.step (f := fun _ => some true) (fun k => ?_) Ev.some'
      show conf_InPool.l1 (k + 1) _ _ _ _ _ _ _ _ _ _ _ _ _ _ _ _ _ = _
      rw [conf_InPool.l1, if_pos (by omega), if_pos (by omega), if_pos (by omega), show rd_T62 l[m].f2.f2 (i : Int) = l[m].f2.f2[i] from rd_get hi, if_pos c.1, conf_has_s, Option.bind_some, if_pos (decide_eq_true c.2)]
    · rw [if_neg c] at hv; cases hv
  · by_cases c : l[m].f0 = n ∧ (l[m].f2.f2[i].f0 ≤ y ∧ y ≤ l[m].f2.f2[i].f1)
    · rw [if_pos c] at hv; cases hv
    · refine Ev.step (fun k => ?_) h3
      show conf_InPool.l1 (k + 1) _ _ _ _ _ _ _ _ _ _ _ _ _ _ _ _ _ = _
      rw [conf_InPool.l1, if_pos (by omega), if_pos (by omega), if_pos (by omega), show rd_T62 l[m].f2.f2 (i : Int) = l[m].f2.f2[i] from rd_get hi, wrap_next hi (by omega)]
      by_cases c1 : l[m].f0 = n
      · rw [if_pos c1, conf_has_s, Option.bind_some, if_neg (by rw [decide_eq_true_iff]; exact fun h => c ⟨c1, h⟩)]
      · rw [if_neg c1]
  · refine Ev.step (fun k => ?_) (h1 h3)
    show conf_InPool.l1 (k + 1) _ _ _ _ _ _ _ _ _ _ _ _ _ _ _ _ _ = _
    rw [conf_InPool.l1, if_neg (by omega), wrap_next hm (by omega)]
theorem conf_InPool_s (a b : Int) (nets : List Nt) (h : Sm nets) (n y : Int) : Ev (fun k => conf_InPool.f k a b nets n y) (poolL a b nets n y) := by
  refine Ev.bind (conf_right_s a b nets h) (f := fun k t => conf_InPool.l0 k n y t (t.length : Int) 0) ?_
  have hN := rightL_len (a := a) (b := b) h
  have hS := rightL_sm (a := a) (b := b) h
  unfold poolL
  generalize rightL a b nets = l at *
  have E : ∀ i (hi : i < l.length) (r : Bool), ((if l[i].f0 = n then poolG y l[i].f2 else none) = none → Ev (fun k => conf_InPool.l0 k n y l (l.length : Int) ((i + 1 : Nat) : Int)) r) → (∀ v, (if l[i].f0 = n then poolG y l[i].f2 else none) = some v → r = v) → Ev (fun k => conf_InPool.l0 k n y l (l.length : Int) (i : Int)) r := by
    intro i hi r h3 h4
    refine Ev.step (fun k => ?_) (conf_InPool_l1 l hN hS n y i hi h3 h4)
    show conf_InPool.l0 (k + 1) _ _ _ _ _ = _
    rw [conf_InPool.l0, if_pos (by omega), if_pos (by omega), if_pos (by omega), show rd_T66 l (i : Int) = l[i] from rd_get hi]
  refine loopF l (fun x => if x.f0 = n then poolG y x.f2 else none) (L := fun k i => conf_InPool.l0 k n y l (l.length : Int) i) (fun i hi v hv => E i hi v (fun h => by rw [h] at hv; cases hv) (fun u hu => by rw [hu] at hv; exact (Option.some.inj hv).symm)) (fun i hi hv r h3 => E i hi r (fun _ => h3) (fun u hu => by rw [hv] at hu; cases hu)) (fun h3 => ?_) (fun v hv => getD_some hv)
  rw [getD_none h3]
  refine Ev.step (f := fun _ => some false) (fun k => ?_) Ev.some'
  show conf_InPool.l0 (k + 1) _ _ _ _ _ = _
  rw [conf_InPool.l0, if_neg (by omega)]

/-! ### conf.Find -/
/-! ### boarderlaw13.knows -/
theorem boarderlaw13_knows_s : Ev (fun k => boarderlaw13_knows.f k) true := Ev.of (k := 400) boarderlaw13_knows.mono (by kernel_rfl)

end Go.Proofs.Ytdcabfonjmeajaa.PConf
