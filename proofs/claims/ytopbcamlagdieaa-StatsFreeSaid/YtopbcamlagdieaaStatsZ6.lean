/- What this claim rests on, part 6: abstract values, walks of the code over them, what the functions come to; each under its theorem's own conditions. -/
import Derived.Test.YtopbcamlagdieaaStatsZ5
set_option linter.unusedVariables false
set_option linter.unusedSimpArgs false
namespace Go.Proofs.Ytopbcamlagdieaa.PStats
open Go.RowKit Go.Proofs.YtopbcamlagdieaaW.PrintWords Go.Proofs.YtopbcamlagdieaaW.PrintLast Go.Proofs.YtopbcamlagdieaaW.PrintMore

/-! ### addr.Meet -/
/-- Do two prefixes meet? -/
def meetB (b n c m : Int) : Bool := Com.fairB b n && (Com.fairB c m && (decide (b ≤ c ∧ c < b + Com.sz n) || decide (c ≤ b ∧ b < c + Com.sz m)))
theorem addr_Meet_s (b n c m : Int) : addr_Meet.f b n c m = some (meetB b n c m) := by
  unfold addr_Meet.f meetB
  rw [addr_Fair_s, addr_Fair_s, addr_Has_s, addr_Has_s]
  unfold Com.hasB
  simp only [Option.bind_some]
  cases Com.fairB b n <;> cases Com.fairB c m <;> cases decide (b ≤ c ∧ c < b + Com.sz n) <;> simp

end Go.Proofs.Ytopbcamlagdieaa.PStats
set_option linter.unusedVariables false
set_option linter.unusedSimpArgs false
namespace Go.Proofs.Ytopbcamlagdieaa.PStats
open Go.RowKit Go.Proofs.YtopbcamlagdieaaW.PrintWords Go.Proofs.YtopbcamlagdieaaW.PrintLast Go.Proofs.YtopbcamlagdieaaW.PrintMore

/-! ### conf.once -/
theorem conf_once_l3 (same : Bool) (x y : Sp) (hx : SmS x.f2) (hy : SmS y.f2) (i : Nat) (hi : i < x.f2.f3.length) {r : Bool}
    (h1 : (∀ j, (hj : j < y.f2.f3.length) → (same = true → i ≠ j) → DifR x.f0 y.f0 x.f2.f3[i] y.f2.f3[j]) → Ev (fun k => conf_once.l2 k same x.f2.f3 (x.f2.f3.length : Int) ((i + 1 : Nat) : Int) x.f0 x.f1 x.f2.f0 x.f2.f1 x.f2.f2 x.f2.f3 x.f2.f4 x.f2.f5 x.f2.f6 y.f0 y.f1 y.f2.f0 y.f2.f1 y.f2.f2 y.f2.f3 y.f2.f4 y.f2.f5 y.f2.f6) r)
    (h2 : (¬ ∀ j, (hj : j < y.f2.f3.length) → (same = true → i ≠ j) → DifR x.f0 y.f0 x.f2.f3[i] y.f2.f3[j]) → r = false) : Ev (fun k => conf_once.l3 k same (i : Int) x.f2.f3 (x.f2.f3.length : Int) (i : Int) y.f2.f3 (y.f2.f3.length : Int) 0 x.f0 x.f1 x.f2.f0 x.f2.f1 x.f2.f2 x.f2.f3 x.f2.f4 x.f2.f5 x.f2.f6 y.f0 y.f1 y.f2.f0 y.f2.f1 y.f2.f2 y.f2.f3 y.f2.f4 y.f2.f5 y.f2.f6 x.f2.f3[i].f0 x.f2.f3[i].f1) r := by
  have b1 := hx.2.1
  have b2 := hy.2.1
  have E : ∀ j (hj : j < y.f2.f3.length) (r : Bool), (((same = true → i ≠ j) → DifR x.f0 y.f0 x.f2.f3[i] y.f2.f3[j]) → Ev (fun k => conf_once.l3 k same (i : Int) x.f2.f3 (x.f2.f3.length : Int) (i : Int) y.f2.f3 (y.f2.f3.length : Int) ((j + 1 : Nat) : Int) x.f0 x.f1 x.f2.f0 x.f2.f1 x.f2.f2 x.f2.f3 x.f2.f4 x.f2.f5 x.f2.f6 y.f0 y.f1 y.f2.f0 y.f2.f1 y.f2.f2 y.f2.f3 y.f2.f4 y.f2.f5 y.f2.f6 x.f2.f3[i].f0 x.f2.f3[i].f1) r) → ((¬ ((same = true → i ≠ j) → DifR x.f0 y.f0 x.f2.f3[i] y.f2.f3[j])) → r = false) → Ev (fun k => conf_once.l3 k same (i : Int) x.f2.f3 (x.f2.f3.length : Int) (i : Int) y.f2.f3 (y.f2.f3.length : Int) (j : Int) x.f0 x.f1 x.f2.f0 x.f2.f1 x.f2.f2 x.f2.f3 x.f2.f4 x.f2.f5 x.f2.f6 y.f0 y.f1 y.f2.f0 y.f2.f1 y.f2.f2 y.f2.f3 y.f2.f4 y.f2.f5 y.f2.f6 x.f2.f3[i].f0 x.f2.f3[i].f1) r := by
    intro j hj r h3 h4
    have hw : wrap64 ((j : Int) + 1) = ((j + 1 : Nat) : Int) := wrap_next hj (by omega)
    have eJ : rd_T65 y.f2.f3 (j : Int) = y.f2.f3[j] := rd_get hj
    have tail : (same = true → i ≠ j) → Ev (fun k => if x.f2.f3[i].f1 = y.f2.f3[j].f1 then some false else if x.f0 = y.f0 then (if x.f2.f3[i].f0.toList = y.f2.f3[j].f0.toList then some false else conf_once.l3 k same (i : Int) x.f2.f3 (x.f2.f3.length : Int) (i : Int) y.f2.f3 (y.f2.f3.length : Int) ((j + 1 : Nat) : Int) x.f0 x.f1 x.f2.f0 x.f2.f1 x.f2.f2 x.f2.f3 x.f2.f4 x.f2.f5 x.f2.f6 y.f0 y.f1 y.f2.f0 y.f2.f1 y.f2.f2 y.f2.f3 y.f2.f4 y.f2.f5 y.f2.f6 x.f2.f3[i].f0 x.f2.f3[i].f1) else conf_once.l3 k same (i : Int) x.f2.f3 (x.f2.f3.length : Int) (i : Int) y.f2.f3 (y.f2.f3.length : Int) ((j + 1 : Nat) : Int) x.f0 x.f1 x.f2.f0 x.f2.f1 x.f2.f2 x.f2.f3 x.f2.f4 x.f2.f5 x.f2.f6 y.f0 y.f1 y.f2.f0 y.f2.f1 y.f2.f2 y.f2.f3 y.f2.f4 y.f2.f5 y.f2.f6 x.f2.f3[i].f0 x.f2.f3[i].f1) r := by
      intro hs
      by_cases c1 : x.f2.f3[i].f1 = y.f2.f3[j].f1
      · rw [h4 (fun h => (h hs).1 c1)]; exact Ev.pos c1 Ev.some'
      · refine Ev.neg c1 ?_
        by_cases c2 : x.f0 = y.f0
        · refine Ev.pos c2 ?_
          by_cases c3 : x.f2.f3[i].f0.toList = y.f2.f3[j].f0.toList
          · rw [h4 (fun h => (h hs).2 ⟨c2, c3⟩)]; exact Ev.pos c3 Ev.some'
          · exact Ev.neg c3 (h3 (fun _ => ⟨c1, fun h => c3 h.2⟩))
        · exact Ev.neg c2 (h3 (fun _ => ⟨c1, fun h => c2 h.1⟩))
    cases same with
    | true =>
      by_cases c : i = j
      · refine Ev.step (fun k => ?_) (h3 (fun h => absurd c (h rfl)))
        show conf_once.l3 (k + 1) _ _ _ _ _ _ _ _ _ _ _ _ _ _ _ _ _ _ _ _ _ _ _ _ _ _ _ _ = _
        rw [conf_once.l3, if_pos (by omega), if_pos (by omega), if_pos (by omega), if_pos rfl, if_pos (by omega), hw]
      · refine Ev.step (fun k => ?_) (tail (fun _ => c))
        show conf_once.l3 (k + 1) _ _ _ _ _ _ _ _ _ _ _ _ _ _ _ _ _ _ _ _ _ _ _ _ _ _ _ _ = _
        rw [conf_once.l3, if_pos (by omega), if_pos (by omega), if_pos (by omega), if_pos rfl, if_neg (by omega), hw, eJ]
    | false =>
      refine Ev.step (fun k => ?_) (tail (fun h => by cases h))
      show conf_once.l3 (k + 1) _ _ _ _ _ _ _ _ _ _ _ _ _ _ _ _ _ _ _ _ _ _ _ _ _ _ _ _ = _
      rw [conf_once.l3, if_pos (by omega), if_pos (by omega), if_pos (by omega), if_neg (by simp), hw, eJ]
  refine loopC (n := y.f2.f3.length) (L := fun k j => conf_once.l3 k same (i : Int) x.f2.f3 (x.f2.f3.length : Int) (i : Int) y.f2.f3 (y.f2.f3.length : Int) j x.f0 x.f1 x.f2.f0 x.f2.f1 x.f2.f2 x.f2.f3 x.f2.f4 x.f2.f5 x.f2.f6 y.f0 y.f1 y.f2.f0 y.f2.f1 y.f2.f2 y.f2.f3 y.f2.f4 y.f2.f5 y.f2.f6 x.f2.f3[i].f0 x.f2.f3[i].f1) (fun j => ∃ h : j < y.f2.f3.length, (same = true → i ≠ j) → DifR x.f0 y.f0 x.f2.f3[i] y.f2.f3[j]) false (fun j hj hp r h3 => ?_) (fun j hj hp => ?_) (fun h3 => ?_) (fun h3 => ?_)
  · exact E j hj r (fun _ => h3) (fun h => absurd hp.2 h)
  · exact E j hj false (fun h => absurd ⟨hj, h⟩ hp) (fun _ => rfl)
  · refine Ev.step (fun k => ?_) (h1 (fun j hj => (h3 j hj).2))
    show conf_once.l3 (k + 1) _ _ _ _ _ _ _ _ _ _ _ _ _ _ _ _ _ _ _ _ _ _ _ _ _ _ _ _ = _
    rw [conf_once.l3, if_neg (by omega), wrap_next hi (by omega)]
  · obtain ⟨j, hj, hp⟩ := h3
    exact h2 (fun h => hp ⟨hj, h j hj⟩)
theorem conf_once_l2 (same : Bool) (x y : Sp) (hx : SmS x.f2) (hy : SmS y.f2) {r : Bool}
    (hr : r = true ↔ ∀ i j, (hi : i < x.f2.f3.length) → (hj : j < y.f2.f3.length) → (same = true → i ≠ j) → DifR x.f0 y.f0 x.f2.f3[i] y.f2.f3[j]) : Ev (fun k => conf_once.l2 k same x.f2.f3 (x.f2.f3.length : Int) 0 x.f0 x.f1 x.f2.f0 x.f2.f1 x.f2.f2 x.f2.f3 x.f2.f4 x.f2.f5 x.f2.f6 y.f0 y.f1 y.f2.f0 y.f2.f1 y.f2.f2 y.f2.f3 y.f2.f4 y.f2.f5 y.f2.f6) r := by
  have b1 := hx.2.1
  have E : ∀ i (hi : i < x.f2.f3.length) (r : Bool), ((∀ j, (hj : j < y.f2.f3.length) → (same = true → i ≠ j) → DifR x.f0 y.f0 x.f2.f3[i] y.f2.f3[j]) → Ev (fun k => conf_once.l2 k same x.f2.f3 (x.f2.f3.length : Int) ((i + 1 : Nat) : Int) x.f0 x.f1 x.f2.f0 x.f2.f1 x.f2.f2 x.f2.f3 x.f2.f4 x.f2.f5 x.f2.f6 y.f0 y.f1 y.f2.f0 y.f2.f1 y.f2.f2 y.f2.f3 y.f2.f4 y.f2.f5 y.f2.f6) r) → ((¬ ∀ j, (hj : j < y.f2.f3.length) → (same = true → i ≠ j) → DifR x.f0 y.f0 x.f2.f3[i] y.f2.f3[j]) → r = false) → Ev (fun k => conf_once.l2 k same x.f2.f3 (x.f2.f3.length : Int) (i : Int) x.f0 x.f1 x.f2.f0 x.f2.f1 x.f2.f2 x.f2.f3 x.f2.f4 x.f2.f5 x.f2.f6 y.f0 y.f1 y.f2.f0 y.f2.f1 y.f2.f2 y.f2.f3 y.f2.f4 y.f2.f5 y.f2.f6) r := by
    intro i hi r h3 h4
    refine Ev.step (fun k => ?_) (conf_once_l3 same x y hx hy i hi h3 h4)
    show conf_once.l2 (k + 1) _ _ _ _ _ _ _ _ _ _ _ _ _ _ _ _ _ _ _ _ _ _ = _
    rw [conf_once.l2, if_pos (by omega), if_pos (by omega), if_pos (by omega), show rd_T65 x.f2.f3 (i : Int) = x.f2.f3[i] from rd_get hi]
  refine loopC (n := x.f2.f3.length) (L := fun k i => conf_once.l2 k same x.f2.f3 (x.f2.f3.length : Int) i x.f0 x.f1 x.f2.f0 x.f2.f1 x.f2.f2 x.f2.f3 x.f2.f4 x.f2.f5 x.f2.f6 y.f0 y.f1 y.f2.f0 y.f2.f1 y.f2.f2 y.f2.f3 y.f2.f4 y.f2.f5 y.f2.f6) (fun i => ∃ h : i < x.f2.f3.length, ∀ j, (hj : j < y.f2.f3.length) → (same = true → i ≠ j) → DifR x.f0 y.f0 x.f2.f3[i] y.f2.f3[j]) false (fun i hi hp r h3 => ?_) (fun i hi hp => ?_) (fun h3 => ?_) (fun h3 => ?_)
  · exact E i hi r (fun _ => h3) (fun h => absurd hp.2 h)
  · exact E i hi false (fun h => absurd ⟨hi, h⟩ hp) (fun _ => rfl)
  · rw [hr.2 (fun i j hi hj => (h3 i hi).2 j hj)]
    refine Ev.step (f := fun _ => some true) (fun k => ?_) Ev.some'
    show conf_once.l2 (k + 1) _ _ _ _ _ _ _ _ _ _ _ _ _ _ _ _ _ _ _ _ _ _ = _
    rw [conf_once.l2, if_neg (by omega)]
  · obtain ⟨i, hi, hp⟩ := h3
    cases r with
    | false => rfl
    | true => exact absurd ⟨hi, fun j hj => hr.1 rfl i j hi hj⟩ hp
theorem conf_once_l1 (same : Bool) (x y : Sp) (hx : SmS x.f2) (hy : SmS y.f2) (i : Nat) (hi : i < x.f2.f2.length) {r : Bool}
    (h1 : (same = true → ∀ j, (hj : j < y.f2.f2.length) → i ≠ j → DisjP x.f2.f2[i] y.f2.f2[j]) → Ev (fun k => conf_once.l0 k same x.f2.f2 (x.f2.f2.length : Int) ((i + 1 : Nat) : Int) x.f0 x.f1 x.f2.f0 x.f2.f1 x.f2.f2 x.f2.f3 x.f2.f4 x.f2.f5 x.f2.f6 y.f0 y.f1 y.f2.f0 y.f2.f1 y.f2.f2 y.f2.f3 y.f2.f4 y.f2.f5 y.f2.f6) r)
    (h2 : (¬ (same = true → ∀ j, (hj : j < y.f2.f2.length) → i ≠ j → DisjP x.f2.f2[i] y.f2.f2[j])) → r = false) : Ev (fun k => conf_once.l1 k same (i : Int) x.f2.f2 (x.f2.f2.length : Int) (i : Int) y.f2.f2 (y.f2.f2.length : Int) 0 x.f0 x.f1 x.f2.f0 x.f2.f1 x.f2.f2 x.f2.f3 x.f2.f4 x.f2.f5 x.f2.f6 y.f0 y.f1 y.f2.f0 y.f2.f1 y.f2.f2 y.f2.f3 y.f2.f4 y.f2.f5 y.f2.f6 x.f2.f2[i].f0 x.f2.f2[i].f1) r := by
  have b1 := hx.1
  have b2 := hy.1
  have E : ∀ j (hj : j < y.f2.f2.length) (r : Bool), ((same = true → i ≠ j → DisjP x.f2.f2[i] y.f2.f2[j]) → Ev (fun k => conf_once.l1 k same (i : Int) x.f2.f2 (x.f2.f2.length : Int) (i : Int) y.f2.f2 (y.f2.f2.length : Int) ((j + 1 : Nat) : Int) x.f0 x.f1 x.f2.f0 x.f2.f1 x.f2.f2 x.f2.f3 x.f2.f4 x.f2.f5 x.f2.f6 y.f0 y.f1 y.f2.f0 y.f2.f1 y.f2.f2 y.f2.f3 y.f2.f4 y.f2.f5 y.f2.f6 x.f2.f2[i].f0 x.f2.f2[i].f1) r) → ((¬ (same = true → i ≠ j → DisjP x.f2.f2[i] y.f2.f2[j])) → r = false) → Ev (fun k => conf_once.l1 k same (i : Int) x.f2.f2 (x.f2.f2.length : Int) (i : Int) y.f2.f2 (y.f2.f2.length : Int) (j : Int) x.f0 x.f1 x.f2.f0 x.f2.f1 x.f2.f2 x.f2.f3 x.f2.f4 x.f2.f5 x.f2.f6 y.f0 y.f1 y.f2.f0 y.f2.f1 y.f2.f2 y.f2.f3 y.f2.f4 y.f2.f5 y.f2.f6 x.f2.f2[i].f0 x.f2.f2[i].f1) r := by
    intro j hj r h3 h4
    have hw : wrap64 ((j : Int) + 1) = ((j + 1 : Nat) : Int) := wrap_next hj (by omega)
    have eJ : rd_T76 y.f2.f2 (j : Int) = y.f2.f2[j] := rd_get hj
    cases same with
    | true =>
      by_cases c : i = j
      · refine Ev.step (fun k => ?_) (h3 (fun _ h => absurd c h))
        show conf_once.l1 (k + 1) _ _ _ _ _ _ _ _ _ _ _ _ _ _ _ _ _ _ _ _ _ _ _ _ _ _ _ _ = _
        rw [conf_once.l1, if_pos (by omega), if_pos (by omega), if_pos (by omega), if_pos rfl, if_pos (by omega), hw]
      · refine Ev.step (f := fun k => if decide (x.f2.f2[i].f0 ≤ y.f2.f2[j].f0 ∧ y.f2.f2[j].f0 ≤ x.f2.f2[i].f1) = true then some false else (if decide (y.f2.f2[j].f0 ≤ x.f2.f2[i].f0 ∧ x.f2.f2[i].f0 ≤ y.f2.f2[j].f1) = true then some false else conf_once.l1 k true (i : Int) x.f2.f2 (x.f2.f2.length : Int) (i : Int) y.f2.f2 (y.f2.f2.length : Int) ((j + 1 : Nat) : Int) x.f0 x.f1 x.f2.f0 x.f2.f1 x.f2.f2 x.f2.f3 x.f2.f4 x.f2.f5 x.f2.f6 y.f0 y.f1 y.f2.f0 y.f2.f1 y.f2.f2 y.f2.f3 y.f2.f4 y.f2.f5 y.f2.f6 x.f2.f2[i].f0 x.f2.f2[i].f1)) (fun k => ?_) ?_
        · show conf_once.l1 (k + 1) _ _ _ _ _ _ _ _ _ _ _ _ _ _ _ _ _ _ _ _ _ _ _ _ _ _ _ _ = _
          rw [conf_once.l1, if_pos (by omega), if_pos (by omega), if_pos (by omega), if_pos rfl, if_neg (by omega), eJ, conf_has_s, Option.bind_some, conf_has_s, Option.bind_some, hw]
        · by_cases c1 : x.f2.f2[i].f0 ≤ y.f2.f2[j].f0 ∧ y.f2.f2[j].f0 ≤ x.f2.f2[i].f1
          · rw [h4 (fun h => (h rfl c).1 c1)]; exact Ev.pos (decide_eq_true c1) Ev.some'
          · refine Ev.neg (by rw [decide_eq_false c1]; simp) ?_
            by_cases c2 : y.f2.f2[j].f0 ≤ x.f2.f2[i].f0 ∧ x.f2.f2[i].f0 ≤ y.f2.f2[j].f1
            · rw [h4 (fun h => (h rfl c).2 c2)]; exact Ev.pos (decide_eq_true c2) Ev.some'
            · exact Ev.neg (by rw [decide_eq_false c2]; simp) (h3 (fun _ _ => ⟨c1, c2⟩))
    | false =>
      refine Ev.step (fun k => ?_) (h3 (fun h => by cases h))
      show conf_once.l1 (k + 1) _ _ _ _ _ _ _ _ _ _ _ _ _ _ _ _ _ _ _ _ _ _ _ _ _ _ _ _ = _
      rw [conf_once.l1, if_pos (by omega), if_pos (by omega), if_pos (by omega), if_neg (by simp), hw]
  refine loopC (n := y.f2.f2.length) (L := fun k j => conf_once.l1 k same (i : Int) x.f2.f2 (x.f2.f2.length : Int) (i : Int) y.f2.f2 (y.f2.f2.length : Int) j x.f0 x.f1 x.f2.f0 x.f2.f1 x.f2.f2 x.f2.f3 x.f2.f4 x.f2.f5 x.f2.f6 y.f0 y.f1 y.f2.f0 y.f2.f1 y.f2.f2 y.f2.f3 y.f2.f4 y.f2.f5 y.f2.f6 x.f2.f2[i].f0 x.f2.f2[i].f1) (fun j => ∃ h : j < y.f2.f2.length, same = true → i ≠ j → DisjP x.f2.f2[i] y.f2.f2[j]) false (fun j hj hp r h3 => ?_) (fun j hj hp => ?_) (fun h3 => ?_) (fun h3 => ?_)
  · exact E j hj r (fun _ => h3) (fun h => absurd hp.2 h)
  · exact E j hj false (fun h => absurd ⟨hj, h⟩ hp) (fun _ => rfl)
  · refine Ev.step (fun k => ?_) (h1 (fun e j hj => (h3 j hj).2 e))
    show conf_once.l1 (k + 1) _ _ _ _ _ _ _ _ _ _ _ _ _ _ _ _ _ _ _ _ _ _ _ _ _ _ _ _ = _
    rw [conf_once.l1, if_neg (by omega), wrap_next hi (by omega)]
  · obtain ⟨j, hj, hp⟩ := h3
    exact h2 (fun h => hp ⟨hj, fun e => h e j hj⟩)
theorem conf_once_l0 (same : Bool) (x y : Sp) (hx : SmS x.f2) (hy : SmS y.f2) {r : Bool}
    (hr : r = true ↔ (same = true → ∀ i j, (hi : i < x.f2.f2.length) → (hj : j < y.f2.f2.length) → i ≠ j → DisjP x.f2.f2[i] y.f2.f2[j]) ∧
      ∀ i j, (hi : i < x.f2.f3.length) → (hj : j < y.f2.f3.length) → (same = true → i ≠ j) → DifR x.f0 y.f0 x.f2.f3[i] y.f2.f3[j]) : Ev (fun k => conf_once.l0 k same x.f2.f2 (x.f2.f2.length : Int) 0 x.f0 x.f1 x.f2.f0 x.f2.f1 x.f2.f2 x.f2.f3 x.f2.f4 x.f2.f5 x.f2.f6 y.f0 y.f1 y.f2.f0 y.f2.f1 y.f2.f2 y.f2.f3 y.f2.f4 y.f2.f5 y.f2.f6) r := by
  have b1 := hx.1
  have E : ∀ i (hi : i < x.f2.f2.length) (r : Bool), ((same = true → ∀ j, (hj : j < y.f2.f2.length) → i ≠ j → DisjP x.f2.f2[i] y.f2.f2[j]) → Ev (fun k => conf_once.l0 k same x.f2.f2 (x.f2.f2.length : Int) ((i + 1 : Nat) : Int) x.f0 x.f1 x.f2.f0 x.f2.f1 x.f2.f2 x.f2.f3 x.f2.f4 x.f2.f5 x.f2.f6 y.f0 y.f1 y.f2.f0 y.f2.f1 y.f2.f2 y.f2.f3 y.f2.f4 y.f2.f5 y.f2.f6) r) → ((¬ (same = true → ∀ j, (hj : j < y.f2.f2.length) → i ≠ j → DisjP x.f2.f2[i] y.f2.f2[j])) → r = false) → Ev (fun k => conf_once.l0 k same x.f2.f2 (x.f2.f2.length : Int) (i : Int) x.f0 x.f1 x.f2.f0 x.f2.f1 x.f2.f2 x.f2.f3 x.f2.f4 x.f2.f5 x.f2.f6 y.f0 y.f1 y.f2.f0 y.f2.f1 y.f2.f2 y.f2.f3 y.f2.f4 y.f2.f5 y.f2.f6) r := by
    intro i hi r h3 h4
    refine Ev.step (fun k => ?_) (conf_once_l1 same x y hx hy i hi h3 h4)
    show conf_once.l0 (k + 1) _ _ _ _ _ _ _ _ _ _ _ _ _ _ _ _ _ _ _ _ _ _ = _
    rw [conf_once.l0, if_pos (by omega), if_pos (by omega), if_pos (by omega), show rd_T76 x.f2.f2 (i : Int) = x.f2.f2[i] from rd_get hi]
  refine loopC (n := x.f2.f2.length) (L := fun k i => conf_once.l0 k same x.f2.f2 (x.f2.f2.length : Int) i x.f0 x.f1 x.f2.f0 x.f2.f1 x.f2.f2 x.f2.f3 x.f2.f4 x.f2.f5 x.f2.f6 y.f0 y.f1 y.f2.f0 y.f2.f1 y.f2.f2 y.f2.f3 y.f2.f4 y.f2.f5 y.f2.f6) (fun i => ∃ h : i < x.f2.f2.length, same = true → ∀ j, (hj : j < y.f2.f2.length) → i ≠ j → DisjP x.f2.f2[i] y.f2.f2[j]) false (fun i hi hp r h3 => ?_) (fun i hi hp => ?_) (fun h3 => ?_) (fun h3 => ?_)
  · exact E i hi r (fun _ => h3) (fun h => absurd hp.2 h)
  · exact E i hi false (fun h => absurd ⟨hi, h⟩ hp) (fun _ => rfl)
  · refine Ev.step (fun k => ?_) (conf_once_l2 same x y hx hy (r := r) ?_)
    · show conf_once.l0 (k + 1) _ _ _ _ _ _ _ _ _ _ _ _ _ _ _ _ _ _ _ _ _ _ = _
      rw [conf_once.l0, if_neg (by omega)]
    · rw [hr]
      exact ⟨fun h => h.2, fun h => ⟨fun e i j hi hj => (h3 i hi).2 e j hj, h⟩⟩
  · obtain ⟨i, hi, hp⟩ := h3
    cases r with
    | false => rfl
    | true => exact absurd ⟨hi, fun e j hj => (hr.1 rfl).1 e i j hi hj⟩ hp
open Classical in
theorem conf_once_s (x y : Sp) (hx : SmS x.f2) (hy : SmS y.f2) (same : Bool) : Ev (fun k => conf_once.f k x.f0 x.f1 x.f2.f0 x.f2.f1 x.f2.f2 x.f2.f3 x.f2.f4 x.f2.f5 x.f2.f6 y.f0 y.f1 y.f2.f0 y.f2.f1 y.f2.f2 y.f2.f3 y.f2.f4 y.f2.f5 y.f2.f6 same) (decide (OnceP x y same)) := by
  have J : ∀ (b : Bool), (b = true → ¬ OnceP x y same) → (b = false → (same = false → FarS x y)) → Ev (fun k => conf_once.j0 k same b x.f0 x.f1 x.f2.f0 x.f2.f1 x.f2.f2 x.f2.f3 x.f2.f4 x.f2.f5 x.f2.f6 y.f0 y.f1 y.f2.f0 y.f2.f1 y.f2.f2 y.f2.f3 y.f2.f4 y.f2.f5 y.f2.f6) (decide (OnceP x y same)) := by
    intro b hb hc
    cases b with
    | true =>
      rw [decide_eq_false (hb rfl)]
      exact Ev.step (f := fun _ => some false) (fun k => by show conf_once.j0 (k + 1) _ _ _ _ _ _ _ _ _ _ _ _ _ _ _ _ _ _ _ _ = _; rw [conf_once.j0, if_pos rfl]) Ev.some'
    | false =>
      refine Ev.step (fun k => by show conf_once.j0 (k + 1) _ _ _ _ _ _ _ _ _ _ _ _ _ _ _ _ _ _ _ _ = _; rw [conf_once.j0, if_neg (by simp)]) (conf_once_l0 same x y hx hy (r := decide (OnceP x y same)) ?_)
      rw [decide_eq_true_iff]
      exact ⟨fun h => h.2, fun h => ⟨hc rfl, h⟩⟩
  cases same with
  | true =>
    refine Ev.congr (f := fun k => conf_once.j0 k true false x.f0 x.f1 x.f2.f0 x.f2.f1 x.f2.f2 x.f2.f3 x.f2.f4 x.f2.f5 x.f2.f6 y.f0 y.f1 y.f2.f0 y.f2.f1 y.f2.f2 y.f2.f3 y.f2.f4 y.f2.f5 y.f2.f6) (fun k => ?_) (J false (fun h => by cases h) (fun _ h => by cases h))
    unfold conf_once.f
    rw [if_pos rfl]
  | false =>
    refine Ev.congr (f := fun k => if meetB x.f2.f0 x.f2.f1 y.f2.f0 y.f2.f1 = true then conf_once.j0 k false true x.f0 x.f1 x.f2.f0 x.f2.f1 x.f2.f2 x.f2.f3 x.f2.f4 x.f2.f5 x.f2.f6 y.f0 y.f1 y.f2.f0 y.f2.f1 y.f2.f2 y.f2.f3 y.f2.f4 y.f2.f5 y.f2.f6 else (if x.f0 = y.f0 then conf_once.j0 k false false x.f0 x.f1 x.f2.f0 x.f2.f1 x.f2.f2 x.f2.f3 x.f2.f4 x.f2.f5 x.f2.f6 y.f0 y.f1 y.f2.f0 y.f2.f1 y.f2.f2 y.f2.f3 y.f2.f4 y.f2.f5 y.f2.f6 else (if x.f2.f4 = y.f2.f4 then conf_once.j0 k false (decide (x.f2.f4 > 0)) x.f0 x.f1 x.f2.f0 x.f2.f1 x.f2.f2 x.f2.f3 x.f2.f4 x.f2.f5 x.f2.f6 y.f0 y.f1 y.f2.f0 y.f2.f1 y.f2.f2 y.f2.f3 y.f2.f4 y.f2.f5 y.f2.f6 else conf_once.j0 k false false x.f0 x.f1 x.f2.f0 x.f2.f1 x.f2.f2 x.f2.f3 x.f2.f4 x.f2.f5 x.f2.f6 y.f0 y.f1 y.f2.f0 y.f2.f1 y.f2.f2 y.f2.f3 y.f2.f4 y.f2.f5 y.f2.f6))) (fun k => ?_) ?_
    · unfold conf_once.f
      rw [if_neg (by simp), addr_Meet_s, Option.bind_some]
    · by_cases c1 : meetB x.f2.f0 x.f2.f1 y.f2.f0 y.f2.f1 = true
      · refine Ev.pos c1 (J true (fun _ h => ?_) (fun h => by cases h))
        have := (h.1 rfl).1
        rw [show meetC x.f2.f0 x.f2.f1 y.f2.f0 y.f2.f1 = meetB x.f2.f0 x.f2.f1 y.f2.f0 y.f2.f1 from rfl, c1] at this
        cases this
      · have c1' : meetC x.f2.f0 x.f2.f1 y.f2.f0 y.f2.f1 = false := Bool.eq_false_iff.mpr c1
        refine Ev.neg c1 ?_
        by_cases c2 : x.f0 = y.f0
        · exact Ev.pos c2 (J false (fun h => by cases h) (fun _ _ => ⟨c1', fun h => h.1 c2⟩))
        · refine Ev.neg c2 ?_
          by_cases c3 : x.f2.f4 = y.f2.f4
          · exact Ev.pos c3 (J _ (fun h h2 => (h2.1 rfl).2 ⟨c2, c3, of_decide_eq_true h⟩) (fun h _ => ⟨c1', fun h2 => of_decide_eq_false h h2.2.2⟩))
          · exact Ev.neg c3 (J false (fun h => by cases h) (fun _ _ => ⟨c1', fun h => c3 h.2.1⟩))

end Go.Proofs.Ytopbcamlagdieaa.PStats
set_option linter.unusedVariables false
set_option linter.unusedSimpArgs false
namespace Go.Proofs.Ytopbcamlagdieaa.PStats
open Go.RowKit Go.Proofs.YtopbcamlagdieaaW.PrintWords Go.Proofs.YtopbcamlagdieaaW.PrintLast Go.Proofs.YtopbcamlagdieaaW.PrintMore

/-! ### conf.unlike -/
open Classical in
theorem conf_unlike_l1 (l : List Sp) (hl : l.length ≤ 1000) (hS : ∀ (i : Nat) (hi : i < l.length), SmS l[i].f2) (i : Nat) (hi : i < l.length) {r : Bool}
    (h1 : (∀ j, (hj : j < l.length) → OnceP l[i] l[j] (decide (i = j))) → Ev (fun k => conf_unlike.l0 k l l (l.length : Int) ((i + 1 : Nat) : Int)) r) (h2 : (¬ ∀ j, (hj : j < l.length) → OnceP l[i] l[j] (decide (i = j))) → r = false) :
    Ev (fun k => conf_unlike.l1 k l (i : Int) l (l.length : Int) (i : Int) l (l.length : Int) 0 l[i].f0 l[i].f1 l[i].f2.f0 l[i].f2.f1 l[i].f2.f2 l[i].f2.f3 l[i].f2.f4 l[i].f2.f5 l[i].f2.f6) r := by
  have E : ∀ j (hj : j < l.length) (r : Bool), (OnceP l[i] l[j] (decide (i = j)) → Ev (fun k => conf_unlike.l1 k l (i : Int) l (l.length : Int) (i : Int) l (l.length : Int) ((j + 1 : Nat) : Int) l[i].f0 l[i].f1 l[i].f2.f0 l[i].f2.f1 l[i].f2.f2 l[i].f2.f3 l[i].f2.f4 l[i].f2.f5 l[i].f2.f6) r) →
      (¬ OnceP l[i] l[j] (decide (i = j)) → r = false) → Ev (fun k => conf_unlike.l1 k l (i : Int) l (l.length : Int) (i : Int) l (l.length : Int) (j : Int) l[i].f0 l[i].f1 l[i].f2.f0 l[i].f2.f1 l[i].f2.f2 l[i].f2.f3 l[i].f2.f4 l[i].f2.f5 l[i].f2.f6) r := by
    intro j hj r h3 h4
    have eD : ((i : Int) == (j : Int)) = decide (i = j) := by
      by_cases c : i = j
      · subst c; simp
      · rw [decide_eq_false c]; exact beq_eq_false_iff_ne.2 (fun h => c (by omega))
    refine Ev.step (fun k => ?_) (Ev.bind (conf_once_s l[i] l[j] (hS i hi) (hS j hj) (decide (i = j))) (f := fun k t => if t = true then conf_unlike.l1 k l (i : Int) l (l.length : Int) (i : Int) l (l.length : Int) ((j + 1 : Nat) : Int) l[i].f0 l[i].f1 l[i].f2.f0 l[i].f2.f1 l[i].f2.f2 l[i].f2.f3 l[i].f2.f4 l[i].f2.f5 l[i].f2.f6 else some false) ?_)
    · show conf_unlike.l1 (k + 1) _ _ _ _ _ _ _ _ _ _ _ _ _ _ _ _ _ = _
      rw [conf_unlike.l1, if_pos (by omega), if_pos (by omega), if_pos (by omega), show rd_T86 l (j : Int) = l[j] from rd_get hj, wrap_next hj (by omega), eD]
    · by_cases c : OnceP l[i] l[j] (decide (i = j))
      · exact Ev.pos (decide_eq_true c) (h3 c)
      · rw [h4 c]; exact Ev.neg (by rw [decide_eq_false c]; simp) Ev.some'
  refine loopC (n := l.length) (L := fun k j => conf_unlike.l1 k l (i : Int) l (l.length : Int) (i : Int) l (l.length : Int) j l[i].f0 l[i].f1 l[i].f2.f0 l[i].f2.f1 l[i].f2.f2 l[i].f2.f3 l[i].f2.f4 l[i].f2.f5 l[i].f2.f6) (fun j => ∃ h : j < l.length, OnceP l[i] l[j] (decide (i = j))) false (fun j hj hp r h3 => ?_) (fun j hj hp => ?_) (fun h3 => ?_) (fun h3 => ?_)
  · exact E j hj r (fun _ => h3) (fun h => absurd hp.2 h)
  · exact E j hj false (fun h => absurd ⟨hj, h⟩ hp) (fun _ => rfl)
  · refine Ev.step (fun k => ?_) (h1 (fun j hj => (h3 j hj).2))
    show conf_unlike.l1 (k + 1) _ _ _ _ _ _ _ _ _ _ _ _ _ _ _ _ _ = _
    rw [conf_unlike.l1, if_neg (by omega), wrap_next hi (by omega)]
  · obtain ⟨j, hj, hp⟩ := h3
    exact h2 (fun h => hp ⟨hj, h j hj⟩)
open Classical in
theorem conf_unlike_s (a b : Int) (nets : List Nt) (h : Sm nets) : Ev (fun k => conf_unlike.f k a b nets) (decide (UnlikeP (spotsL nets))) := by
  refine Ev.bind (conf_spots_s a b nets h) (f := fun k t => conf_unlike.l0 k t t (t.length : Int) 0) ?_
  have hN : (spotsL nets).length ≤ 1000 := by have := spots_len (n := 0) (fun x hx => (h.2 x hx).1); have := h.1; unfold spotsL; omega
  have hS : ∀ (i : Nat) (hi : i < (spotsL nets).length), SmS (spotsL nets)[i].f2 := fun i hi => (spots_all (F := SmS)).2 (fun n hn s hs => (h.2 n hn).2 s hs) _ (List.getElem_mem hi)
  generalize spotsL nets = l at *
  have E : ∀ i (hi : i < l.length) (r : Bool), ((∀ j, (hj : j < l.length) → OnceP l[i] l[j] (decide (i = j))) → Ev (fun k => conf_unlike.l0 k l l (l.length : Int) ((i + 1 : Nat) : Int)) r) → ((¬ ∀ j, (hj : j < l.length) → OnceP l[i] l[j] (decide (i = j))) → r = false) → Ev (fun k => conf_unlike.l0 k l l (l.length : Int) (i : Int)) r := by
    intro i hi r h3 h4
    refine Ev.step (fun k => ?_) (conf_unlike_l1 l hN hS i hi h3 h4)
    show conf_unlike.l0 (k + 1) _ _ _ _ = _
    rw [conf_unlike.l0, if_pos (by omega), if_pos (by omega), if_pos (by omega), show rd_T86 l (i : Int) = l[i] from rd_get hi]
  refine loopC (n := l.length) (L := fun k i => conf_unlike.l0 k l l (l.length : Int) i) (fun i => ∃ h : i < l.length, ∀ j, (hj : j < l.length) → OnceP l[i] l[j] (decide (i = j))) false (fun i hi hp r h3 => ?_) (fun i hi hp => ?_) (fun h3 => ?_) (fun h3 => ?_)
  · exact E i hi r (fun _ => h3) (fun h => absurd hp.2 h)
  · exact E i hi false (fun h => absurd ⟨hi, h⟩ hp) (fun _ => rfl)
  · rw [decide_eq_true (show UnlikeP l from fun i j hi hj => (h3 i hi).2 j hj)]
    refine Ev.step (f := fun _ => some true) (fun k => ?_) Ev.some'
    show conf_unlike.l0 (k + 1) _ _ _ _ = _
    rw [conf_unlike.l0, if_neg (by omega)]
  · obtain ⟨i, hi, hp⟩ := h3
    exact decide_eq_false (fun h => hp ⟨hi, fun j hj => h i j hi hj⟩)

end Go.Proofs.Ytopbcamlagdieaa.PStats
set_option linter.unusedVariables false
set_option linter.unusedSimpArgs false
namespace Go.Proofs.Ytopbcamlagdieaa.PStats
open Go.RowKit Go.Proofs.YtopbcamlagdieaaW.PrintWords Go.Proofs.YtopbcamlagdieaaW.PrintLast Go.Proofs.YtopbcamlagdieaaW.PrintMore

/-! ### conf.Check -/
open Classical in
theorem conf_Check_s (a b : Int) (nets : List Nt) (h : Sm nets) : Ev (fun k => conf_Check.f k a b nets) (checkI a b nets) := by
  unfold checkI
  refine Ev.bind (conf_form_s a b nets h) (f := fun k t => if t = true then ((conf_placed.f k a b nets).bind fun t193 => (if t193 = true then ((conf_unlike.f k a b nets).bind fun t194 => (if t194 = true then (some 0) else (some 8))) else (some 9))) else (some 1)) ?_
  by_cases c1 : FormP a b nets
  · rw [if_pos c1]
    refine Ev.pos (decide_eq_true c1) (Ev.bind (conf_placed_s a b nets h c1.2.2.2.2.2.2) (f := fun k t193 => (if t193 = true then ((conf_unlike.f k a b nets).bind fun t194 => (if t194 = true then (some 0) else (some 8))) else (some 9))) ?_)
    by_cases c2 : ∀ n ∈ nets, ∀ s ∈ n.f0, PlaceS a s
    · rw [if_pos c2]
      refine Ev.pos (decide_eq_true c2) (Ev.bind (conf_unlike_s a b nets h) (f := fun k t194 => (if t194 = true then (some 0) else (some 8))) ?_)
      by_cases c3 : UnlikeP (spotsL nets)
      · rw [if_pos c3]; exact Ev.pos (decide_eq_true c3) Ev.some'
      · rw [if_neg c3]; exact Ev.neg (by rw [decide_eq_false c3]; simp) Ev.some'
    · rw [if_neg c2]; exact Ev.neg (by rw [decide_eq_false c2]; simp) Ev.some'
  · rw [if_neg c1]; exact Ev.neg (by rw [decide_eq_false c1]; simp) Ev.some'

end Go.Proofs.Ytopbcamlagdieaa.PStats
set_option linter.unusedVariables false
set_option linter.unusedSimpArgs false
namespace Go.Proofs.Ytopbcamlagdieaa.PStats
open Go.RowKit Go.Proofs.YtopbcamlagdieaaW.PrintWords Go.Proofs.YtopbcamlagdieaaW.PrintLast Go.Proofs.YtopbcamlagdieaaW.PrintMore

/-! ### record.Right -/
theorem record_Right_s (l : Le) (hs : l.f3.size ≤ maxLen) : record_Right.f l.f0 l.f1 l.f2 l.f3 = some (leaseB l) := by
  unfold record_Right.f leaseB
  rw [addr_Right_s, key_Right_s l.f3 hs]
  simp only [Option.bind_some]
  by_cases h0 : 0 ≤ l.f0 ∧ l.f0 ≤ 4294967295
  · rw [decide_eq_true h0, if_pos rfl]
    by_cases h1 : l.f1 ≥ 1
    · rw [if_pos h1]
      by_cases h2 : l.f1 ≤ 3
      · rw [if_pos h2]
        by_cases h3 : l.f2 ≥ 0
        · rw [if_pos h3]
          by_cases h4 : l.f2 ≤ 1125899906842624
          · rw [if_pos h4, decide_eq_true ⟨h0.1, h0.2, h1, h2, h3, h4⟩, Bool.true_and]
          · rw [if_neg h4, decide_eq_false (fun h => h4 h.2.2.2.2.2)]; rfl
        · rw [if_neg h3, decide_eq_false (fun h => h3 h.2.2.2.2.1)]; rfl
      · rw [if_neg h2, decide_eq_false (fun h => h2 h.2.2.2.1)]; rfl
    · rw [if_neg h1, decide_eq_false (fun h => h1 h.2.2.1)]; rfl
  · rw [decide_eq_false h0, if_neg (by simp), decide_eq_false (fun h => h0 ⟨h.1, h.2.1⟩)]; rfl

end Go.Proofs.Ytopbcamlagdieaa.PStats
set_option linter.unusedVariables false
set_option linter.unusedSimpArgs false
namespace Go.Proofs.Ytopbcamlagdieaa.PStats
open Go.RowKit Go.Proofs.YtopbcamlagdieaaW.PrintWords Go.Proofs.YtopbcamlagdieaaW.PrintLast Go.Proofs.YtopbcamlagdieaaW.PrintMore

/-! ### table.Right -/
open Classical in
theorem table_Right_l (t : List Le) (ht : t.length ≤ 500) (hk : ∀ l ∈ t, l.f3.size ≤ maxLen) (d : Nat) : ∀ (i : Nat) (k : Nat), i + d = t.length → d < k →
    table_Right.l0 k t t (t.length : Int) i = some (decide (t.length ≤ 64 ∧ ∀ j, i ≤ j → j < t.length → leaseB (atL t j) = true ∧ (0 < j → (atL t (j - 1)).f0 < (atL t j).f0))) := by
  induction d with
  | zero =>
    intro i k hi hk
    obtain ⟨k, rfl⟩ : ∃ m, k = m + 1 := ⟨k - 1, by omega⟩
    rw [table_Right.l0, if_neg (by omega)]
    congr 1; exact decide_eq_decide.2 ⟨fun h => ⟨by omega, fun j a b => by omega⟩, fun h => by omega⟩
  | succ d ih =>
    intro i k hi hkk
    obtain ⟨k, rfl⟩ : ∃ m, k = m + 1 := ⟨k - 1, by omega⟩
    have hw : wrap64 ((i : Int) + 1) = ((i + 1 : Nat) : Int) := by unfold wrap64; omega
    have ihh := ih (i + 1) k (by omega) (by omega)
    rw [table_Right.l0, if_pos (by omega), if_pos (by omega), if_pos (by omega), show rd_T68 t (i : Int) = atL t i from rfl, record_Right_s _ (hk _ (atL_mem (by omega)))]
    simp only [Option.bind_some]
    by_cases h : leaseB (atL t i) = true
    · rw [if_pos h]
      by_cases h0 : (i : Int) > 0
      · have hw2 : wrap64 ((i : Int) - 1) = ((i - 1 : Nat) : Int) := by unfold wrap64; omega
        rw [if_pos h0, hw2, if_pos (by omega), if_pos (by omega), show rd_T68 t ((i - 1 : Nat) : Int) = atL t (i - 1) from rfl]
        by_cases h1 : (atL t (i - 1)).f0 ≥ (atL t i).f0
        · rw [if_pos h1, decide_eq_false]
          rintro ⟨_, h2⟩
          have := (h2 i (by omega) (by omega)).2 (by omega)
          omega
        · rw [if_neg h1, hw, ihh]
          congr 1
          refine decide_eq_decide.2 ⟨fun h2 => ⟨h2.1, fun j a b => ?_⟩, fun h2 => ⟨h2.1, fun j a b => h2.2 j (by omega) b⟩⟩
          rcases Nat.eq_or_lt_of_le a with c | c
          · subst c; exact ⟨h, fun _ => by omega⟩
          · exact h2.2 j (by omega) b
      · rw [if_neg h0, hw, ihh]
        congr 1
        refine decide_eq_decide.2 ⟨fun h2 => ⟨h2.1, fun j a b => ?_⟩, fun h2 => ⟨h2.1, fun j a b => h2.2 j (by omega) b⟩⟩
        rcases Nat.eq_or_lt_of_le a with c | c
        · subst c; exact ⟨h, fun _ => by omega⟩
        · exact h2.2 j (by omega) b
    · rw [if_neg h, decide_eq_false]
      rintro ⟨_, h2⟩
      exact h (h2 i (by omega) (by omega)).1
theorem table_Right_s (t : List Le) (h : Small t) (k : Nat) (hk : t.length < k) : table_Right.f k t = some (decide (Tab t)) := by
  have e := table_Right_l t h.1 h.2 t.length 0 k (by omega) hk
  unfold table_Right.f
  rw [show table_Right.l0 k t t (t.length : Int) 0 = table_Right.l0 k t t (t.length : Int) ((0 : Nat) : Int) from rfl, e]
  congr 1
  refine decide_eq_decide.2 ?_
  rw [tab_iff]
  exact ⟨fun h => ⟨h.1, fun j b => h.2 j (by omega) b⟩, fun h => ⟨h.1, fun j _ b => h.2 j b⟩⟩

end Go.Proofs.Ytopbcamlagdieaa.PStats
set_option linter.unusedVariables false
set_option linter.unusedSimpArgs false
namespace Go.Proofs.Ytopbcamlagdieaa.PStats
open Go.RowKit Go.Proofs.YtopbcamlagdieaaW.PrintWords Go.Proofs.YtopbcamlagdieaaW.PrintLast Go.Proofs.YtopbcamlagdieaaW.PrintMore

/-! ### table.Holds -/
theorem table_Holds_s (l : Le) (now : Int) : table_Holds.f l.f0 l.f1 l.f2 l.f3 now = some (holdsB l now) := by
  unfold table_Holds.f holdsB
  by_cases c : l.f1 = 1
  · rw [if_pos c]; congr 1; exact decide_eq_decide.2 ⟨fun h => ⟨c, h⟩, fun h => h.2⟩
  · rw [if_neg c, decide_eq_false (fun h => c h.1)]

end Go.Proofs.Ytopbcamlagdieaa.PStats
set_option linter.unusedVariables false
set_option linter.unusedSimpArgs false
namespace Go.Proofs.Ytopbcamlagdieaa.PStats
open Go.RowKit Go.Proofs.YtopbcamlagdieaaW.PrintWords Go.Proofs.YtopbcamlagdieaaW.PrintLast Go.Proofs.YtopbcamlagdieaaW.PrintMore

/-! ### table.Rests -/
theorem table_Rests_s (l : Le) (now : Int) : table_Rests.f l.f0 l.f1 l.f2 l.f3 now = some (restsB l now) := by
  unfold table_Rests.f restsB
  by_cases c : l.f1 = 3
  · rw [if_pos c]; congr 1; exact decide_eq_decide.2 ⟨fun h => ⟨c, h⟩, fun h => h.2⟩
  · rw [if_neg c, decide_eq_false (fun h => c h.1)]

end Go.Proofs.Ytopbcamlagdieaa.PStats
set_option linter.unusedVariables false
set_option linter.unusedSimpArgs false
namespace Go.Proofs.Ytopbcamlagdieaa.PStats
open Go.RowKit Go.Proofs.YtopbcamlagdieaaW.PrintWords Go.Proofs.YtopbcamlagdieaaW.PrintLast Go.Proofs.YtopbcamlagdieaaW.PrintMore

/-! ### table.good -/
theorem table_good_s (t : List Le) (h : Small t) (k : Nat) (hk : t.length < k) : table_good.f k t = some (goodL t) := by
  unfold table_good.f goodL
  have := h.1
  rw [table_Right_s t h k hk]
  simp only [Option.bind_some]
  by_cases c : Tab t
  · rw [decide_eq_true c, if_pos rfl, if_pos c, if_pos (by simp; omega)]; simp
  · rw [decide_eq_false c, if_neg (by simp), if_neg c]
end Go.Proofs.Ytopbcamlagdieaa.PStats
set_option linter.unusedVariables false
set_option linter.unusedSimpArgs false
namespace Go.Proofs.Ytopbcamlagdieaa.PStats
open Go.RowKit Go.Proofs.YtopbcamlagdieaaW.PrintWords Go.Proofs.YtopbcamlagdieaaW.PrintLast Go.Proofs.YtopbcamlagdieaaW.PrintMore

/-! ### table.place -/
/-- What a place is: all addresses below it are less; and the one at it is that, or all from it on are greater. -/
def PlaceOf (t : List Le) (a : Int) (p : Nat) (b : Bool) : Prop :=
  p ≤ t.length ∧ (∀ j, j < p → (atL t j).f0 < a) ∧ (b = true → p < t.length ∧ (atL t p).f0 = a) ∧ (b = false → ∀ j, p ≤ j → j < t.length → a < (atL t j).f0)
theorem table_place_l (t : List Le) (ht : t.length ≤ 500) (hs : Asc t) (a : Int) (d : Nat) : ∀ (lo hi : Nat) (k : Nat), hi ≤ lo + d → lo ≤ hi → hi ≤ t.length → d < k → (∀ j, j < lo → (atL t j).f0 < a) → (∀ j, hi ≤ j → j < t.length → a < (atL t j).f0) →
    ∃ (p : Nat) (b : Bool), table_place.l0 k t a lo hi = some ((p : Int), b) ∧ PlaceOf t a p b := by
  induction d using Nat.strongRecOn with
  | _ d ih =>
    intro lo hi k hd hle hhi hk h1 h2
    obtain ⟨k, rfl⟩ : ∃ m, k = m + 1 := ⟨k - 1, by omega⟩
    rw [table_place.l0]
    by_cases c : (lo : Int) < hi
    · have hm : wrap64 (Int.tdiv (wrap64 ((lo : Int) + hi)) 2) = (((lo + hi) / 2 : Nat) : Int) := by
        rw [show wrap64 ((lo : Int) + hi) = (lo : Int) + hi from by unfold wrap64; omega, Int.tdiv_eq_ediv_of_nonneg (by omega)]; unfold wrap64; omega
      rw [if_pos c, hm, if_pos (by omega), if_pos (by omega), show rd_T68 t (((lo + hi) / 2 : Nat) : Int) = atL t ((lo + hi) / 2) from rfl]
      clear hm
      generalize hmid : (lo + hi) / 2 = m
      have hm1 : lo ≤ m := by omega
      have hm2 : m < hi := by omega
      clear hmid
      by_cases e : (atL t m).f0 = a
      · rw [if_pos e]
        refine ⟨m, true, by rw [beq_iff_eq.2 e], by omega, fun j hj => by rw [← e]; exact asc_at hs hj (by omega), fun _ => ⟨by omega, e⟩, fun h => (by cases h)⟩
      · rw [if_neg e]
        by_cases l : (atL t m).f0 < a
        · rw [if_pos l, show wrap64 ((m : Int) + 1) = ((m + 1 : Nat) : Int) from by unfold wrap64; omega]
          refine ih (hi - (m + 1)) (by omega) (m + 1) hi k (by omega) (by omega) hhi (by omega) (fun j hj => ?_) h2
          rcases Nat.lt_or_ge j m with c | c
          · exact Int.lt_trans (asc_at hs c (by omega)) l
          · obtain rfl : j = m := by omega
            exact l
        · rw [if_neg l]
          refine ih (m - lo) (by omega) lo m k (by omega) (by omega) (by omega) (by omega) h1 (fun j a1 b1 => ?_)
          rcases Nat.eq_or_lt_of_le a1 with c | c
          · subst c; omega
          · have := asc_at hs c b1; omega
    · obtain rfl : lo = hi := by omega
      rw [if_neg c]
      by_cases n : (lo : Int) < (t.length : Int)
      · rw [if_pos n, if_pos (by omega), show rd_T68 t (lo : Int) = atL t lo from rfl]
        have := h2 lo (by omega) (by omega)
        refine ⟨lo, false, by rw [beq_eq_false_iff_ne.2 (by omega)], by omega, h1, fun h => (by cases h), fun _ => h2⟩
      · rw [if_neg n]
        exact ⟨lo, false, rfl, by omega, h1, fun h => (by cases h), fun _ => h2⟩
theorem table_place_s (t : List Le) (ht : t.length ≤ 500) (hs : Asc t) (a : Int) (k : Nat) (hk : t.length < k) : ∃ (p : Nat) (b : Bool), table_place.f k t a = some ((p : Int), b) ∧ PlaceOf t a p b := by
  unfold table_place.f
  exact table_place_l t ht hs a t.length 0 t.length k (by omega) (by omega) (by omega) hk (fun j h => by omega) (fun j h1 h2 => by omega)

end Go.Proofs.Ytopbcamlagdieaa.PStats
set_option linter.unusedVariables false
set_option linter.unusedSimpArgs false
namespace Go.Proofs.Ytopbcamlagdieaa.PStats
open Go.RowKit Go.Proofs.YtopbcamlagdieaaW.PrintWords Go.Proofs.YtopbcamlagdieaaW.PrintLast Go.Proofs.YtopbcamlagdieaaW.PrintMore

/-! ### table.Get -/
theorem table_Get_s (t : List Le) (h : Small t) (a : Int) (k : Nat) (hk : t.length + 1 < k) : table_Get.f k t a = some (ans (getL (goodL t) a)) := by
  unfold table_Get.f
  have hg := goodL_tab t
  have hgl : (goodL t).length ≤ t.length := by unfold goodL; split <;> simp
  rw [table_good_s t h k (by omega)]
  simp only [Option.bind_some]
  generalize goodL t = g at *
  have hg64 := hg.1
  obtain ⟨p, b, hp, hp1, hp2, hp3, hp4⟩ := table_place_s g (by omega) hg.2.2 a k (by omega)
  rw [hp]
  simp only [Option.bind_some]
  cases b with
  | true =>
    obtain ⟨q1, q2⟩ := hp3 rfl
    rw [if_pos rfl, if_pos (by omega), if_pos (by omega), ← q2, getL_some hg.2.2 (atL_mem q1)]
    rfl
  | false =>
    rw [if_neg (by simp), getL_none]
    · rfl
    · intro l hl
      obtain ⟨j, hj, rfl⟩ := mem_atL hl
      rcases Nat.lt_or_ge j p with c | c
      · have := hp2 j c; omega
      · have := hp4 rfl j c hj; omega

end Go.Proofs.Ytopbcamlagdieaa.PStats
set_option linter.unusedVariables false
set_option linter.unusedSimpArgs false
namespace Go.Proofs.Ytopbcamlagdieaa.PStats
open Go.RowKit Go.Proofs.YtopbcamlagdieaaW.PrintWords Go.Proofs.YtopbcamlagdieaaW.PrintLast Go.Proofs.YtopbcamlagdieaaW.PrintMore

/-! ### stats.some -/
section
set_option linter.unusedSectionVars false
variable {nets : List Nt} (h : Sm nets) {t : List Le} (ht : Small t) (hT : Tab t) (a b : Int)
include h ht hT
theorem stats_some_l3 (n j : Nat) (hn : n < nets.length) (hj : j < nets[n].f0.length) (v : List Int) (hv : v.length ≤ 10000) {r : List Int} (h1 : Ev (fun k => stats_some.l2 k nets (n : Int) t ((j + 1 : Nat) : Int) (v ++ resS t nets[n].f0[j])) r) :
    Ev (fun k => stats_some.l3 k nets (n : Int) (j : Int) t 0 v) r := by
  have hS := (h.2 _ (List.getElem_mem hn)).2 _ (List.getElem_mem hj)
  have h10 := (h.2 _ (List.getElem_mem hn)).1
  have eN : rd_T56 nets (n : Int) = nets[n] := rd_get hn
  have eS : rd_T60 nets[n].f0 (j : Int) = nets[n].f0[j] := rd_get hj
  have h20 := hS.2.1
  generalize nets[n].f0[j] = s at *
  have key : s.f3.foldl (fun v r => if (getL t r.f1).isSome = true then v else v ++ [r.f1]) v = v ++ resS t s := by
    unfold resS
    clear h1 hv eS hS h20
    induction s.f3 generalizing v with
    | nil => simp
    | cons r l ih =>
      rw [List.foldl_cons, ih, List.filter_cons]
      cases (getL t r.f1).isSome
      · simp
      · simp
  rw [← key] at h1
  refine loopL s.f3 (fun v r => if (getL t r.f1).isSome = true then v else v ++ [r.f1]) (fun i v => v.length ≤ 10000 + i) (L := fun k i v => stats_some.l3 k nets (n : Int) (j : Int) t i v) (by omega) (fun i hi v hp => ?_) (fun i hi v hp h3 => ?_) (fun _ => ?_)
  · split
    · omega
    · simp; omega
  · have eT : rd_T65 s.f3 (i : Int) = s.f3[i] := rd_get hi
    refine Ev.step (fun k => by show stats_some.l3 (k + 1) _ _ _ _ _ _ = _; rw [stats_some.l3, eN, eS, if_pos (by omega), if_pos (by omega), eT, wrap_next hi (by omega)]) ?_
    refine Ev.bind (a := ans (getL (goodL t) s.f3[i].f1)) ⟨t.length + 2, fun k hk => table_Get_s t ht _ k (by omega)⟩ ?_
    rw [goodL_of hT]
    cases c : getL t s.f3[i].f1 with
    | none => rw [c] at h3; exact Ev.pos rfl (Ev.pos (by omega) h3)
    | some l => rw [c] at h3; exact Ev.neg (by simp [ans]) h3
  · exact Ev.step (fun k => by show stats_some.l3 (k + 1) _ _ _ _ _ _ = _; rw [stats_some.l3, eN, eS, if_neg (by omega), wrap_next hj (by omega)]) h1
theorem resS_len {s : Sb} (hs : SmS s) : (resS t s).length ≤ 20 := by
  unfold resS
  rw [List.length_map]
  exact Nat.le_trans (List.length_filter_le _ _) hs.2.1
theorem stats_some_l2 (n : Nat) (hn : n < nets.length) (v : List Int) (hv : v.length ≤ 5000) {r : List Int} (h1 : Ev (fun k => stats_some.l1 k nets t ((n + 1 : Nat) : Int) (v ++ nets[n].f0.flatMap (resS t))) r) :
    Ev (fun k => stats_some.l2 k nets (n : Int) t 0 v) r := by
  have hN := h.2 _ (List.getElem_mem hn)
  have h10 := h.1
  have eN : rd_T56 nets (n : Int) = nets[n] := rd_get hn
  have key : ∀ (l : List Sb) v, l.foldl (fun v s => v ++ resS t s) v = v ++ l.flatMap (resS t) := by
    intro l
    induction l with
    | nil => intro v; simp
    | cons s l ih => intro v; rw [List.foldl_cons, ih, List.flatMap_cons, List.append_assoc]
  rw [← key] at h1
  refine loopL nets[n].f0 (fun v s => v ++ resS t s) (fun i v => v.length ≤ 5000 + 20 * i) (L := fun k i v => stats_some.l2 k nets (n : Int) t i v) (by omega) (fun i hi v hp => ?_) (fun i hi v hp h3 => ?_) (fun _ => ?_)
  · have := resS_len h ht hT (hN.2 _ (List.getElem_mem hi))
    rw [List.length_append]; omega
  · have := hN.1
    refine Ev.step (fun k => by show stats_some.l2 (k + 1) _ _ _ _ _ = _; rw [stats_some.l2, eN, if_pos (by omega), if_pos (by omega)]) ?_
    exact stats_some_l3 h ht hT n i hn hi v (by omega) h3
  · exact Ev.step (fun k => by show stats_some.l2 (k + 1) _ _ _ _ _ = _; rw [stats_some.l2, eN, if_neg (by omega), wrap_next hn (by omega)]) h1
theorem nets_res_len {m : List Nt} (hm : ∀ n ∈ m, n.f0.length ≤ 10 ∧ ∀ s ∈ n.f0, SmS s) : ∀ n ∈ m, (n.f0.flatMap (resS t)).length ≤ 200 := by
  intro n hn
  obtain ⟨p, q⟩ := hm n hn
  have key : ∀ l : List Sb, (∀ s ∈ l, SmS s) → (l.flatMap (resS t)).length ≤ 20 * l.length := by
    intro l
    induction l with
    | nil => intro _; simp
    | cons s l ih =>
      intro hl
      rw [List.flatMap_cons, List.length_append, List.length_cons]
      have := ih (fun s hs => hl s (List.mem_cons_of_mem _ hs))
      have := resS_len h ht hT (hl s List.mem_cons_self)
      omega
  have := key n.f0 q
  omega
theorem stats_some_s : Ev (fun k => stats_some.f k a b nets t) (someL nets t) := by
  have hl : t.length ≤ 500 := ht.1
  have h10 := h.1
  have key1 : ∀ (l : List Le) (v : List Int), l.foldl (fun v l => v ++ [l.f0]) v = v ++ l.map (·.f0) := by
    intro l
    induction l with
    | nil => intro v; simp
    | cons s l ih => intro v; rw [List.foldl_cons, ih, List.map_cons, List.append_assoc]; rfl
  have key2 : ∀ (l : List Nt) (v : List Int), l.foldl (fun v n => v ++ n.f0.flatMap (resS t)) v = v ++ l.flatMap (fun n => n.f0.flatMap (resS t)) := by
    intro l
    induction l with
    | nil => intro v; simp
    | cons s l ih => intro v; rw [List.foldl_cons, ih, List.flatMap_cons, List.append_assoc]
  refine loopL t (fun v l => v ++ [l.f0]) (fun i v => v.length ≤ i) (L := fun k i v => stats_some.l0 k t nets i v) (s := []) (by simp) (fun i hi v hp => by simp; omega) (fun i hi v hp h3 => ?_) (fun hp => ?_)
  · have eT : rd_T68 t (i : Int) = t[i] := rd_get hi
    exact Ev.step (fun k => by show stats_some.l0 (k + 1) _ _ _ _ = _; rw [stats_some.l0, if_pos (by omega), if_pos (by omega), if_pos (by omega), eT, wrap_next hi (by omega)]) h3
  · rw [key1, List.nil_append] at hp ⊢
    refine Ev.step (fun k => by show stats_some.l0 (k + 1) _ _ _ _ = _; rw [stats_some.l0, if_neg (by omega)]) ?_
    refine Ev.eqv ?_ (key2 nets (t.map (·.f0)))
    refine loopL nets (fun v n => v ++ n.f0.flatMap (resS t)) (fun i v => v.length ≤ 500 + 200 * i) (L := fun k i v => stats_some.l1 k nets t i v) (by omega) (fun i hi v hp => ?_) (fun i hi v hp h3 => ?_) (fun _ => ?_)
    · have := nets_res_len h ht hT h.2 _ (List.getElem_mem hi)
      rw [List.length_append]; omega
    · exact Ev.step (fun k => by show stats_some.l1 (k + 1) _ _ _ _ = _; rw [stats_some.l1, if_pos (by omega), if_pos (by omega)]) (stats_some_l2 h ht hT i hi v (by omega) h3)
    · exact Ev.step (fun k => by show stats_some.l1 (k + 1) _ _ _ _ = _; rw [stats_some.l1, if_neg (by omega)]) Ev.some'
end

end Go.Proofs.Ytopbcamlagdieaa.PStats
set_option linter.unusedVariables false
set_option linter.unusedSimpArgs false
namespace Go.Proofs.Ytopbcamlagdieaa.PStats
open Go.RowKit Go.Proofs.YtopbcamlagdieaaW.PrintWords Go.Proofs.YtopbcamlagdieaaW.PrintLast Go.Proofs.YtopbcamlagdieaaW.PrintMore

/-! ### stats.in -/
theorem stats_in_s (s : Sb) (h : SmS s) (x : Int) : Ev (fun k => stats_in.f k s.f0 s.f1 s.f2 s.f3 s.f4 s.f5 s.f6 x) (inS s x) := by
  have h20 := h.1
  have e : inS s x = s.f2.foldr (fun p r => if p.f0 ≤ x ∧ x ≤ p.f1 then true else r) false := by
    unfold inS
    induction s.f2 with
    | nil => rfl
    | cons p l ih =>
      rw [List.any_cons, List.foldr_cons, ih]
      by_cases c : p.f0 ≤ x ∧ x ≤ p.f1 <;> simp [c]
  rw [e]
  refine loopR s.f2 _ (L := fun k i => stats_in.l0 k x s.f2 (s.f2.length : Int) i) (fun i hi r h3 => ?_) ?_
  · have eT : rd_T76 s.f2 (i : Int) = s.f2[i] := rd_get hi
    refine Ev.step (fun k => by show stats_in.l0 (k + 1) _ _ _ _ = _; rw [stats_in.l0, if_pos (by omega), if_pos (by omega), if_pos (by omega), eT, wrap_next hi (by omega)]) ?_
    refine Ev.ite' (fun c1 => Ev.ite' (fun c2 => Ev.ret (by rw [if_pos ⟨c1, c2⟩])) (fun c2 => by rw [if_neg (fun e => c2 e.2)]; exact h3)) (fun c1 => by rw [if_neg (fun e => c1 e.1)]; exact h3)
  · exact Ev.step (fun k => by show stats_in.l0 (k + 1) _ _ _ _ = _; rw [stats_in.l0, if_neg (by omega)]) Ev.some'

end Go.Proofs.Ytopbcamlagdieaa.PStats
set_option linter.unusedVariables false
set_option linter.unusedSimpArgs false
namespace Go.Proofs.Ytopbcamlagdieaa.PStats
open Go.RowKit Go.Proofs.YtopbcamlagdieaaW.PrintWords Go.Proofs.YtopbcamlagdieaaW.PrintLast Go.Proofs.YtopbcamlagdieaaW.PrintMore

/-! ### conf.right -/
theorem conf_right_s (a b : Int) (nets : List Nt) (h : Sm nets) : Ev (fun k => conf_right.f k a b nets) (rightL a b nets) := by
  unfold rightL
  refine Ev.bind (conf_Check_s a b nets h) (f := fun k t => if t = 0 then ((conf_spots.f k a b nets).bind fun t197 => (some t197)) else (some ([] : List Sp))) ?_
  by_cases c : checkI a b nets = 0
  · rw [if_pos c]; exact Ev.pos c (Ev.bind (conf_spots_s a b nets h) (f := fun _ t => some t) Ev.some')
  · rw [if_neg c]; exact Ev.neg c Ev.some'

end Go.Proofs.Ytopbcamlagdieaa.PStats
set_option linter.unusedVariables false
set_option linter.unusedSimpArgs false
namespace Go.Proofs.Ytopbcamlagdieaa.PStats
open Go.RowKit Go.Proofs.YtopbcamlagdieaaW.PrintWords Go.Proofs.YtopbcamlagdieaaW.PrintLast Go.Proofs.YtopbcamlagdieaaW.PrintMore

/-! ### conf.Keeper -/
theorem conf_Keeper_l1 (l : List Sp) (hl : l.length ≤ 1000) (hS : ∀ x ∈ l, SmS x.f2) (x : Int) (m : Nat) (hm : m < l.length) {r : ByteArray × Bool} (h1 : keepG x l[m].f2 = none → Ev (fun k => conf_Keeper.l0 k x l (l.length : Int) ((m + 1 : Nat) : Int)) r) (h2 : ∀ v, keepG x l[m].f2 = some v → r = v) :
    Ev (fun k => conf_Keeper.l1 k x l (l.length : Int) (m : Int) l[m].f2.f3 (l[m].f2.f3.length : Int) 0) r := by
  have h20 := (hS _ (List.getElem_mem hm)).2.1
  refine loopF l[m].f2.f3 (fun r => if r.f1 = x then some (r.f0, true) else none) (L := fun k i => conf_Keeper.l1 k x l (l.length : Int) (m : Int) l[m].f2.f3 (l[m].f2.f3.length : Int) i) (fun i hi v hv => ?_) (fun i hi hv r h3 => ?_) (fun h3 => ?_) h2
  · by_cases c : l[m].f2.f3[i].f1 = x
    · rw [if_pos c] at hv
      obtain rfl := Option.some.inj hv
      refine Ev.step (f := fun _ => some (l[m].f2.f3[i].f0, true)) (fun k => ?_) Ev.some'
      show conf_Keeper.l1 (k + 1) _ _ _ _ _ _ _ = _
      rw [conf_Keeper.l1, if_pos (by omega), if_pos (by omega), if_pos (by omega), show rd_T65 l[m].f2.f3 (i : Int) = l[m].f2.f3[i] from rd_get hi, if_pos c]
    · rw [if_neg c] at hv; cases hv
  · by_cases c : l[m].f2.f3[i].f1 = x
    · rw [if_pos c] at hv; cases hv
    · refine Ev.step (fun k => ?_) h3
      show conf_Keeper.l1 (k + 1) _ _ _ _ _ _ _ = _
      rw [conf_Keeper.l1, if_pos (by omega), if_pos (by omega), if_pos (by omega), show rd_T65 l[m].f2.f3 (i : Int) = l[m].f2.f3[i] from rd_get hi, if_neg c, wrap_next hi (by omega)]
  · refine Ev.step (fun k => ?_) (h1 h3)
    show conf_Keeper.l1 (k + 1) _ _ _ _ _ _ _ = _
    rw [conf_Keeper.l1, if_neg (by omega), wrap_next hm (by omega)]
theorem conf_Keeper_s (a b : Int) (nets : List Nt) (h : Sm nets) (x : Int) : Ev (fun k => conf_Keeper.f k a b nets x) (keepL a b nets x) := by
  refine Ev.bind (conf_right_s a b nets h) (f := fun k t => conf_Keeper.l0 k x t (t.length : Int) 0) ?_
  have hN := rightL_len (a := a) (b := b) h
  have hS := rightL_sm (a := a) (b := b) h
  unfold keepL
  generalize rightL a b nets = l at *
  have E : ∀ i (hi : i < l.length) (r : ByteArray × Bool), (keepG x l[i].f2 = none → Ev (fun k => conf_Keeper.l0 k x l (l.length : Int) ((i + 1 : Nat) : Int)) r) → (∀ v, keepG x l[i].f2 = some v → r = v) → Ev (fun k => conf_Keeper.l0 k x l (l.length : Int) (i : Int)) r := by
    intro i hi r h3 h4
    refine Ev.step (fun k => ?_) (conf_Keeper_l1 l hN hS x i hi h3 h4)
    show conf_Keeper.l0 (k + 1) _ _ _ _ = _
    rw [conf_Keeper.l0, if_pos (by omega), if_pos (by omega), if_pos (by omega), show rd_T86 l (i : Int) = l[i] from rd_get hi]
  refine loopF l (fun y => keepG x y.f2) (L := fun k i => conf_Keeper.l0 k x l (l.length : Int) i) (fun i hi v hv => E i hi v (fun h => by rw [h] at hv; cases hv) (fun u hu => by rw [hu] at hv; exact (Option.some.inj hv).symm)) (fun i hi hv r h3 => E i hi r (fun _ => h3) (fun u hu => by rw [hv] at hu; cases hu)) (fun h3 => ?_) (fun v hv => getD_some hv)
  rw [getD_none h3]
  refine Ev.step (f := fun _ => some (⟨#[]⟩, false)) (fun k => ?_) Ev.some'
  show conf_Keeper.l0 (k + 1) _ _ _ _ = _
  rw [conf_Keeper.l0, if_neg (by omega)]

end Go.Proofs.Ytopbcamlagdieaa.PStats
set_option linter.unusedVariables false
set_option linter.unusedSimpArgs false
namespace Go.Proofs.Ytopbcamlagdieaa.PStats
open Go.RowKit Go.Proofs.YtopbcamlagdieaaW.PrintWords Go.Proofs.YtopbcamlagdieaaW.PrintLast Go.Proofs.YtopbcamlagdieaaW.PrintMore

/-! ### stats.counts -/
theorem stats_counts_s (l : Le) (now : Int) : stats_counts.f l.f0 l.f1 l.f2 l.f3 now = some (countsB l now) := by
  unfold stats_counts.f
  rw [table_Holds_s, Option.bind_some]
  by_cases c : holdsB l now = true
  · rw [if_pos c]; unfold countsB; rw [c]; rfl
  · rw [if_neg c, table_Rests_s, Option.bind_some]; unfold countsB; rw [Bool.not_eq_true] at c; rw [c]; rfl

end Go.Proofs.Ytopbcamlagdieaa.PStats
set_option linter.unusedVariables false
set_option linter.unusedSimpArgs false
namespace Go.Proofs.Ytopbcamlagdieaa.PStats
open Go.RowKit Go.Proofs.YtopbcamlagdieaaW.PrintWords Go.Proofs.YtopbcamlagdieaaW.PrintLast Go.Proofs.YtopbcamlagdieaaW.PrintMore

/-! ### stats.busy -/
theorem stats_busy_s (a b : Int) (nets : List Nt) (h : Sm nets) (t : List Le) (ht : Small t) (hT : Tab t) (x now : Int) : Ev (fun k => stats_busy.f k a b nets t x now) (busyA a b nets t now x) := by
  refine Ev.bind (conf_Keeper_s a b nets h x) (Ev.bind (a := ans (getL (goodL t) x)) ⟨t.length + 2, fun k hk => table_Get_s t ht x k (by omega)⟩ ?_)
  rw [goodL_of hT]
  refine Ev.ite' (fun c => Ev.ret (by unfold busyA; rw [c]; rfl)) (fun c => ?_)
  unfold busyA
  rw [Bool.not_eq_true] at c
  rw [c, Bool.false_or]
  cases e : getL t x with
  | none => exact Ev.bind (Ev.congr (fun _ => stats_counts_s ⟨0, 0, 0, ⟨#[]⟩⟩ now) (Ev.now _)) (Ev.ret rfl)
  | some l => exact Ev.bind (Ev.congr (fun _ => stats_counts_s l now) (Ev.now _)) (Ev.ret rfl)

end Go.Proofs.Ytopbcamlagdieaa.PStats
set_option linter.unusedVariables false
set_option linter.unusedSimpArgs false
namespace Go.Proofs.Ytopbcamlagdieaa.PStats
open Go.RowKit Go.Proofs.YtopbcamlagdieaaW.PrintWords Go.Proofs.YtopbcamlagdieaaW.PrintLast Go.Proofs.YtopbcamlagdieaaW.PrintMore

/-! ### stats.subnet -/
/-- What a subnet of a configuration that is right has. -/
def GoodS (s : Sb) : Prop := SmS s ∧ ∀ p ∈ s.f2, 0 ≤ p.f0 ∧ p.f0 ≤ p.f1 ∧ p.f1 ≤ 4294967296
section
set_option linter.unusedSectionVars false
variable {nets : List Nt} (h : Sm nets) {t : List Le} (ht : Small t) (hT : Tab t) (a b now : Int) (s : Sb) (hs : GoodS s)
include h ht hT hs
theorem someL_len : (someL nets t).length ≤ 3000 := by
  unfold someL
  rw [List.length_append, List.length_map]
  have := ht.1
  have := h.1
  have key : ∀ m : List Nt, (∀ n ∈ m, n.f0.length ≤ 10 ∧ ∀ s ∈ n.f0, SmS s) → (m.flatMap (fun n => n.f0.flatMap (resS t))).length ≤ 200 * m.length := by
    intro m
    induction m with
    | nil => intro _; simp
    | cons n m ih =>
      intro hm
      rw [List.flatMap_cons, List.length_append, List.length_cons]
      have := ih (fun x hx => hm x (List.mem_cons_of_mem _ hx))
      have := nets_res_len h ht hT hm n List.mem_cons_self
      omega
  have := key nets h.2
  omega
theorem stats_subnet_l2 (p h0 r0 : Int) (hp : 0 ≤ p ∧ p ≤ 1000000000000) : Ev (fun k => stats_subnet.l2 k (someL nets t) s.f0 s.f1 s.f2 s.f3 s.f4 s.f5 s.f6 a b nets t now p h0 r0 0 p)
    (0, 0, p, (s.f3.length : Int), h0, r0, p - (((someL nets t).filter (fun x => inS s x && busyA a b nets t now x)).length : Int)) := by
  have hl := someL_len h ht hT s hs
  generalize someL nets t = l at *
  have key : ∀ (l : List Int) (n : Int), l.foldl (fun n x => if (inS s x && busyA a b nets t now x) = true then n - 1 else n) n = n - ((l.filter (fun x => inS s x && busyA a b nets t now x)).length : Int) := by
    intro l
    induction l with
    | nil => intro n; simp
    | cons x l ih =>
      intro n
      rw [List.foldl_cons, ih, List.filter_cons]
      split
      · rw [List.length_cons]; omega
      · rfl
  rw [← key]
  refine loopL l (fun n x => if (inS s x && busyA a b nets t now x) = true then n - 1 else n) (fun i n => p - i ≤ n ∧ n ≤ p) (L := fun k i n => stats_subnet.l2 k l s.f0 s.f1 s.f2 s.f3 s.f4 s.f5 s.f6 a b nets t now p h0 r0 i n) (by omega) (fun i hi n hn => ?_) (fun i hi n hn h3 => ?_) (fun _ => ?_)
  · split <;> omega
  · have eT : rdOf 0 l (i : Int) = l[i] := rd_get hi
    have e : wrap64 (n - 1) = n - 1 := by unfold wrap64; omega
    refine Ev.step (fun k => by show stats_subnet.l2 (k + 1) _ _ _ _ _ _ _ _ _ _ _ _ _ _ _ _ _ _ = _; rw [stats_subnet.l2, if_pos (by omega), if_pos (by omega), eT, wrap_next hi (by omega), e]) ?_
    refine Ev.bind (stats_in_s s hs.1 _) (Ev.ite' (fun c1 => ?_) (fun c1 => by simpa [c1] using h3))
    exact Ev.bind (stats_busy_s a b nets h t ht hT _ now) (Ev.ite' (fun c2 => by simpa [c1, c2] using h3) (fun c2 => by simpa [c1, c2] using h3))
  · exact Ev.step (fun k => by show stats_subnet.l2 (k + 1) _ _ _ _ _ _ _ _ _ _ _ _ _ _ _ _ _ _ = _; rw [stats_subnet.l2, if_neg (by omega)]) Ev.some'
theorem stats_subnet_l1 (p : Int) (hp : 0 ≤ p ∧ p ≤ 1000000000000) : Ev (fun k => stats_subnet.l1 k t s.f0 s.f1 now a b nets p s.f2 s.f3 s.f4 s.f5 s.f6 0 0 0)
    (0, 0, p, (s.f3.length : Int), heldN s t now, restN s t now, p - (((someL nets t).filter (fun x => inS s x && busyA a b nets t now x)).length : Int)) := by
  have hl : t.length ≤ 500 := ht.1
  have key : ∀ (l : List Le) (n : Int × Int), l.foldl (fun n l => if hasS s l = true then (if holdsB l now = true then (n.1 + 1, n.2) else if restsB l now = true then (n.1, n.2 + 1) else n) else n) n
      = (n.1 + ((l.filter (fun l => hasS s l && holdsB l now)).length : Int), n.2 + ((l.filter (fun l => hasS s l && restsB l now)).length : Int)) := by
    intro l
    induction l with
    | nil => intro n; simp
    | cons x l ih =>
      intro n
      have no : holdsB x now = true → restsB x now = false := by
        unfold holdsB restsB
        rw [decide_eq_true_iff, decide_eq_false_iff_not]
        omega
      rw [List.foldl_cons, ih, List.filter_cons, List.filter_cons]
      cases hasS s x <;> cases c2 : holdsB x now <;> cases c3 : restsB x now <;> simp [c2] at no <;> simp [c2, c3] at no ⊢ <;> omega
  have key := key t (0, 0)
  refine loopL (σ := Int × Int) t (fun n l => if hasS s l = true then (if holdsB l now = true then (n.1 + 1, n.2) else if restsB l now = true then (n.1, n.2 + 1) else n) else n) (fun i n => 0 ≤ n.1 ∧ n.1 ≤ i ∧ 0 ≤ n.2 ∧ n.2 ≤ i)
    (L := fun k i n => stats_subnet.l1 k t s.f0 s.f1 now a b nets p s.f2 s.f3 s.f4 s.f5 s.f6 i n.1 n.2) (s := (0, 0)) (by simp) (fun i hi n hn => ?_) (fun i hi n hn h3 => ?_) (fun _ => ?_)
  · split
    · split
      · dsimp only; omega
      · split
        · dsimp only; omega
        · omega
    · omega
  · have eT : rd_T68 t (i : Int) = t[i] := rd_get hi
    have e1 : wrap64 (n.1 + 1) = n.1 + 1 := by unfold wrap64; omega
    have e2 : wrap64 (n.2 + 1) = n.2 + 1 := by unfold wrap64; omega
    refine Ev.step (fun k => by show stats_subnet.l1 (k + 1) _ _ _ _ _ _ _ _ _ _ _ _ _ _ _ _ = _; rw [stats_subnet.l1, if_pos (by omega), if_pos (by omega), eT, wrap_next hi (by omega), e1, e2]) ?_
    refine Ev.bind (Ev.congr (fun _ => addr_Has_s _ _ _) (Ev.now _)) (Ev.ite' (fun c1 => ?_) (fun c1 => ?_))
    · have c1 : hasS s t[i] = false := by simpa [hasS] using c1
      rw [c1] at h3
      exact h3
    · have c1 : hasS s t[i] = true := by simpa [hasS] using c1
      rw [if_pos c1] at h3
      refine Ev.bind (Ev.congr (fun _ => table_Holds_s t[i] now) (Ev.now _)) (Ev.ite' (fun c2 => by rw [if_pos c2] at h3; exact h3) (fun c2 => ?_))
      rw [if_neg c2] at h3
      exact Ev.bind (Ev.congr (fun _ => table_Rests_s t[i] now) (Ev.now _)) (Ev.ite' (fun c3 => by rw [if_pos c3] at h3; exact h3) (fun c3 => by rw [if_neg c3] at h3; exact h3))
  · rw [key]
    refine Ev.step (fun k => by show stats_subnet.l1 (k + 1) _ _ _ _ _ _ _ _ _ _ _ _ _ _ _ _ = _; rw [stats_subnet.l1, if_neg (by omega)]) ?_
    refine Ev.bind (stats_some_s h ht hT a b) ?_
    refine Ev.eqv (stats_subnet_l2 h ht hT a b now s hs p _ _ hp) ?_
    unfold heldN restN
    simp
theorem stats_subnet_s : Ev (fun k => stats_subnet.f k a b nets t s.f0 s.f1 s.f2 s.f3 s.f4 s.f5 s.f6 now) (0, 0, ((poolS s).length : Int), (s.f3.length : Int), heldN s t now, restN s t now, freeN a b nets t s now) := by
  have h20 := hs.1.1
  have key : ∀ (l : List Rg) (n : Int), (∀ p ∈ l, p.f0 ≤ p.f1) → l.foldl (fun n (p : Rg) => n + (p.f1 + 1 - p.f0)) n = n + ((l.flatMap (fun p => rangeL p.f0 p.f1)).length : Int) := by
    intro l
    induction l with
    | nil => intro n _; simp
    | cons p l ih =>
      intro n hn
      have := rangeL_len (hn p List.mem_cons_self)
      rw [List.foldl_cons, ih _ (fun q hq => hn q (List.mem_cons_of_mem _ hq)), List.flatMap_cons, List.length_append]
      omega
  have key := key s.f2 0 (fun p hp => (hs.2 p hp).2.1)
  have hmul : ∀ i : Nat, i < s.f2.length → (i : Int) * 4294967297 ≤ 20 * 4294967297 := fun i hi => by omega
  refine loopL s.f2 (fun n (p : Rg) => n + (p.f1 + 1 - p.f0)) (fun i n => 0 ≤ n ∧ n ≤ (i : Int) * 4294967297) (L := fun k i n => stats_subnet.l0 k s.f2 t s.f0 s.f1 now a b nets s.f3 s.f4 s.f5 s.f6 i n) (s := 0) (by simp) (fun i hi n hn => ?_) (fun i hi n hn h3 => ?_) (fun hp => ?_)
  · have := hs.2 _ (List.getElem_mem hi)
    try dsimp only
    omega
  · have hb := hs.2 _ (List.getElem_mem hi)
    have hm := hmul i hi
    have eT : rd_T76 s.f2 (i : Int) = s.f2[i] := rd_get hi
    refine Ev.step (fun k => by show stats_subnet.l0 (k + 1) _ _ _ _ _ _ _ _ _ _ _ _ _ _ = _; rw [stats_subnet.l0, if_pos (by omega), if_pos (by omega), eT, wrap_next hi (by omega)]) ?_
    refine Ev.bind (stats_add_s _ (by simp) _ _ _ _ _ _ _) ?_
    have e : sumW [s.f2[i].f1, wrap64 (0 - s.f2[i].f0), 1] n = n + (s.f2[i].f1 + 1 - s.f2[i].f0) := by
      simp only [sumW, List.foldl_cons, List.foldl_nil]
      unfold wrap64
      omega
    rw [e]
    exact h3
  · rw [key, Int.zero_add] at hp ⊢
    rw [show (s.f2.flatMap (fun p => rangeL p.f0 p.f1)) = poolS s from rfl] at hp ⊢
    refine Ev.step (fun k => by show stats_subnet.l0 (k + 1) _ _ _ _ _ _ _ _ _ _ _ _ _ _ = _; rw [stats_subnet.l0, if_neg (by omega)]) ?_
    exact stats_subnet_l1 h ht hT a b now s hs _ ⟨hp.1, by omega⟩
end

end Go.Proofs.Ytopbcamlagdieaa.PStats
set_option linter.unusedVariables false
set_option linter.unusedSimpArgs false
namespace Go.Proofs.Ytopbcamlagdieaa.PStats
open Go.RowKit Go.Proofs.YtopbcamlagdieaaW.PrintWords Go.Proofs.YtopbcamlagdieaaW.PrintLast Go.Proofs.YtopbcamlagdieaaW.PrintMore

/-! ### stats.Count -/
theorem good_of {a b : Int} {nets : List Nt} (h : Sm nets) (hc : checkI a b nets = 0) {n : Nt} (hn : n ∈ nets) {s : Sb} (hs : s ∈ n.f0) : GoodS s := by
  obtain ⟨hF, hP, hU⟩ := check_zero hc
  have h1 := hF.2.2.2.2.2.2 _ hn s hs
  refine ⟨(h.2 n hn).2 s hs, fun p hp => ?_⟩
  obtain ⟨i, hi, rfl⟩ := List.mem_iff_getElem.1 hp
  have h2 := (hP _ hn s hs).1 i hi
  have h3 := Com.fair_end _ _ h1.1
  have h4 := (Com.fairB_iff _ _).1 h1.1
  have := h2.1.1
  have := h2.2.1.2
  have := h1.2.2.2.2.2.2.2.2.2.1 i hi
  exact ⟨by omega, by omega, by omega⟩
theorem stats_Count_l0 (a b : Int) (nets : List Nt) (h : Sm nets) (t : List Le) (ht : Small t) (hT : Tab t) (now : Int) (hc : checkI a b nets = 0) :
    Ev (fun k => stats_Count.l0 k nets a b t now 0 []) ((spotsL nets).map (statS a b nets t now), 0) := by
  have h10 := h.1
  have H : ∀ e m, ∀ v : List St, m + e = nets.length → v.length ≤ 10 * m → Ev (fun k => stats_Count.l0 k nets a b t now (m : Int) v) (v ++ (spotsFrom m (nets.drop m)).map (statS a b nets t now), 0) := by
    intro e
    induction e with
    | zero =>
      intro m v hm hv
      obtain rfl : m = nets.length := by omega
      rw [List.drop_length, spotsFrom, List.map_nil, List.append_nil]
      exact Ev.step (fun k => by show stats_Count.l0 (k + 1) _ _ _ _ _ _ _ = _; rw [stats_Count.l0, if_neg (by omega)]) Ev.some'
    | succ e ih =>
      intro m v hm hv
      have hl : m < nets.length := by omega
      have hN := h.2 _ (List.getElem_mem hl)
      have eN : rd_T56 nets (m : Int) = nets[m] := rd_get hl
      rw [List.drop_eq_getElem_cons hl, spotsFrom]
      have H1 : ∀ f i, ∀ v : List St, i + f = nets[m].f0.length → v.length ≤ 10 * m + i → Ev (fun k => stats_Count.l1 k nets (m : Int) a b t now (i : Int) v) (v ++ (subAt (m : Int) i (nets[m].f0.drop i) ++ spotsFrom (m + 1) (nets.drop (m + 1))).map (statS a b nets t now), 0) := by
        intro f
        induction f with
        | zero =>
          intro i v hi hv
          obtain rfl : i = nets[m].f0.length := by omega
          rw [List.drop_length, subAt, List.nil_append]
          exact Ev.step (fun k => by show stats_Count.l1 (k + 1) _ _ _ _ _ _ _ _ = _; rw [stats_Count.l1, eN, if_neg (by omega), wrap_next hl (by omega)]) (ih (m + 1) v (by omega) (by omega))
        | succ f ihf =>
          intro i v hi hv
          have hi2 : i < nets[m].f0.length := by omega
          have eS : rd_T60 nets[m].f0 (i : Int) = nets[m].f0[i] := rd_get hi2
          have hg := good_of h hc (List.getElem_mem hl) (List.getElem_mem hi2)
          rw [List.drop_eq_getElem_cons hi2, subAt, List.cons_append, List.map_cons, ← List.singleton_append, ← List.append_assoc]
          refine Ev.step (fun k => by show stats_Count.l1 (k + 1) _ _ _ _ _ _ _ _ = _; rw [stats_Count.l1, eN, eS, if_pos (by omega), if_pos (by omega), wrap_next hi2 (by omega)]) ?_
          refine Ev.bind (stats_subnet_s h ht hT a b now _ hg) (Ev.pos (by omega) ?_)
          exact ihf (i + 1) (v ++ [statS a b nets t now ⟨(m : Int), (i : Int), nets[m].f0[i]⟩]) (by omega) (by simp; omega)
      have h2 := H1 nets[m].f0.length 0 v (by omega) (by omega)
      rw [List.drop_zero, show ((0 : Nat) : Int) = 0 from rfl] at h2
      exact Ev.step (fun k => by show stats_Count.l0 (k + 1) _ _ _ _ _ _ _ = _; rw [stats_Count.l0, if_pos (by omega), if_pos (by omega)]) h2
  have := H nets.length 0 [] (by omega) (by simp)
  rwa [List.drop_zero, List.nil_append] at this
theorem stats_Count_s (a b : Int) (nets : List Nt) (h : Sm nets) (t : List Le) (ht : Small t) (now : Int) : Ev (fun k => stats_Count.f k a b nets t now) (countL a b nets t now) := by
  have hl : t.length ≤ 500 := ht.1
  unfold countL
  refine Ev.bind (conf_Check_s a b nets h) (Ev.ite' (fun c => ?_) (fun c => Ev.ret (by rw [if_neg c])))
  rw [if_pos c]
  refine Ev.bind (a := decide (Tab t)) ⟨t.length + 1, fun k hk => table_Right_s t (by omega) k (by omega)⟩ (Ev.ite' (fun c2 => ?_) (fun c2 => ?_))
  · have c2 : ¬ Tab t := by simpa using c2
    rw [if_neg c2]; exact Ev.some'
  · have c2 : Tab t := by simpa using c2
    rw [if_pos c2]
    exact stats_Count_l0 a b nets h t ht c2 now c

end Go.Proofs.Ytopbcamlagdieaa.PStats
set_option linter.unusedVariables false
set_option linter.unusedSimpArgs false
namespace Go.Proofs.Ytopbcamlagdieaa.PStats
open Go.RowKit Go.Proofs.YtopbcamlagdieaaW.PrintWords Go.Proofs.YtopbcamlagdieaaW.PrintLast Go.Proofs.YtopbcamlagdieaaW.PrintMore

/-! ### conf.InPool -/
theorem conf_InPool_l1 (l : List Sp) (hl : l.length ≤ 1000) (hS : ∀ x ∈ l, SmS x.f2) (n y : Int) (m : Nat) (hm : m < l.length) {r : Bool} (h1 : (if l[m].f0 = n then poolG y l[m].f2 else none) = none → Ev (fun k => conf_InPool.l0 k n y l (l.length : Int) ((m + 1 : Nat) : Int)) r) (h2 : ∀ v, (if l[m].f0 = n then poolG y l[m].f2 else none) = some v → r = v) :
    Ev (fun k => conf_InPool.l1 k n y l (l.length : Int) (m : Int) l[m].f2.f2 (l[m].f2.f2.length : Int) 0 l[m].f0 l[m].f1 l[m].f2.f0 l[m].f2.f1 l[m].f2.f2 l[m].f2.f3 l[m].f2.f4 l[m].f2.f5 l[m].f2.f6) r := by
  have h20 := (hS _ (List.getElem_mem hm)).1
  have eQ : (l[m].f2.f2.findSome? (fun p => if l[m].f0 = n ∧ (p.f0 ≤ y ∧ y ≤ p.f1) then some true else none)) = (if l[m].f0 = n then poolG y l[m].f2 else none) := by
    by_cases c : l[m].f0 = n
    · rw [if_pos c]; unfold poolG; congr 1; funext r; simp [c]
    · rw [if_neg c]; simp [c]
  rw [← eQ] at h1 h2
  refine loopF l[m].f2.f2 (fun p => if l[m].f0 = n ∧ (p.f0 ≤ y ∧ y ≤ p.f1) then some true else none) (L := fun k i => conf_InPool.l1 k n y l (l.length : Int) (m : Int) l[m].f2.f2 (l[m].f2.f2.length : Int) i l[m].f0 l[m].f1 l[m].f2.f0 l[m].f2.f1 l[m].f2.f2 l[m].f2.f3 l[m].f2.f4 l[m].f2.f5 l[m].f2.f6) (fun i hi v hv => ?_) (fun i hi hv r h3 => ?_) (fun h3 => ?_) h2
  · by_cases c : l[m].f0 = n ∧ (l[m].f2.f2[i].f0 ≤ y ∧ y ≤ l[m].f2.f2[i].f1)
    · rw [if_pos c] at hv
      obtain rfl := Option.some.inj hv
      refine Ev.step (f := fun _ => some true) (fun k => ?_) Ev.some'
      show conf_InPool.l1 (k + 1) _ _ _ _ _ _ _ _ _ _ _ _ _ _ _ _ _ = _
      rw [conf_InPool.l1, if_pos (by omega), if_pos (by omega), if_pos (by omega), show rd_T76 l[m].f2.f2 (i : Int) = l[m].f2.f2[i] from rd_get hi, if_pos c.1, conf_has_s, Option.bind_some, if_pos (decide_eq_true c.2)]
    · rw [if_neg c] at hv; cases hv
  · by_cases c : l[m].f0 = n ∧ (l[m].f2.f2[i].f0 ≤ y ∧ y ≤ l[m].f2.f2[i].f1)
    · rw [if_pos c] at hv; cases hv
    · refine Ev.step (fun k => ?_) h3
      show conf_InPool.l1 (k + 1) _ _ _ _ _ _ _ _ _ _ _ _ _ _ _ _ _ = _
      rw [conf_InPool.l1, if_pos (by omega), if_pos (by omega), if_pos (by omega), show rd_T76 l[m].f2.f2 (i : Int) = l[m].f2.f2[i] from rd_get hi, wrap_next hi (by omega)]
      by_cases c1 : l[m].f0 = n
      · rw [if_pos c1, conf_has_s, Option.bind_some, if_neg (by rw [decide_eq_true_iff]; exact fun h => c ⟨c1, h⟩)]
      · rw [if_neg c1]
  · refine Ev.step (fun k => ?_) (h1 h3)
    show conf_InPool.l1 (k + 1) _ _ _ _ _ _ _ _ _ _ _ _ _ _ _ _ _ = _
    rw [conf_InPool.l1, if_neg (by omega), wrap_next hm (by omega)]
theorem conf_InPool_s (a b : Int) (nets : List Nt) (h : Sm nets) (n y : Int) : Ev (fun k => conf_InPool.f k a b nets n y) (poolL a b nets n y) := by
  refine Ev.bind (conf_right_s a b nets h) (f := fun k t => conf_InPool.l0 k n y t (t.length : Int) 0) ?_
  have hN := rightL_len (a := a) (b := b) h
  have hS := rightL_sm (a := a) (b := b) h
  unfold poolL
  generalize rightL a b nets = l at *
  have E : ∀ i (hi : i < l.length) (r : Bool), ((if l[i].f0 = n then poolG y l[i].f2 else none) = none → Ev (fun k => conf_InPool.l0 k n y l (l.length : Int) ((i + 1 : Nat) : Int)) r) → (∀ v, (if l[i].f0 = n then poolG y l[i].f2 else none) = some v → r = v) → Ev (fun k => conf_InPool.l0 k n y l (l.length : Int) (i : Int)) r := by
    intro i hi r h3 h4
    refine Ev.step (fun k => ?_) (conf_InPool_l1 l hN hS n y i hi h3 h4)
    show conf_InPool.l0 (k + 1) _ _ _ _ _ = _
    rw [conf_InPool.l0, if_pos (by omega), if_pos (by omega), if_pos (by omega), show rd_T86 l (i : Int) = l[i] from rd_get hi]
  refine loopF l (fun x => if x.f0 = n then poolG y x.f2 else none) (L := fun k i => conf_InPool.l0 k n y l (l.length : Int) i) (fun i hi v hv => E i hi v (fun h => by rw [h] at hv; cases hv) (fun u hu => by rw [hu] at hv; exact (Option.some.inj hv).symm)) (fun i hi hv r h3 => E i hi r (fun _ => h3) (fun u hu => by rw [hv] at hu; cases hu)) (fun h3 => ?_) (fun v hv => getD_some hv)
  rw [getD_none h3]
  refine Ev.step (f := fun _ => some false) (fun k => ?_) Ev.some'
  show conf_InPool.l0 (k + 1) _ _ _ _ _ = _
  rw [conf_InPool.l0, if_neg (by omega)]

end Go.Proofs.Ytopbcamlagdieaa.PStats
set_option linter.unusedVariables false
set_option linter.unusedSimpArgs false
namespace Go.Proofs.Ytopbcamlagdieaa.PStats
open Go.RowKit Go.Proofs.YtopbcamlagdieaaW.PrintWords Go.Proofs.YtopbcamlagdieaaW.PrintLast Go.Proofs.YtopbcamlagdieaaW.PrintMore

/-! ### queue.counts -/
theorem queue_counts_s (l : Le) (now : Int) : queue_counts.f l.f0 l.f1 l.f2 l.f3 now = some (countsB l now) := by
  unfold queue_counts.f countsB
  rw [table_Holds_s, table_Rests_s]
  simp only [Option.bind_some]
  cases holdsB l now <;> cases restsB l now <;> rfl

end Go.Proofs.Ytopbcamlagdieaa.PStats
set_option linter.unusedVariables false
set_option linter.unusedSimpArgs false
namespace Go.Proofs.Ytopbcamlagdieaa.PStats
open Go.RowKit Go.Proofs.YtopbcamlagdieaaW.PrintWords Go.Proofs.YtopbcamlagdieaaW.PrintLast Go.Proofs.YtopbcamlagdieaaW.PrintMore

/-! ### queue.Until -/
theorem queue_Until_s (t : List Le) (h : Small t) (a now : Int) (k : Nat) (hk : 40000 ≤ k) : queue_Until.f k t a now = some (untilL (goodL t) a now) := by
  have := h.1
  unfold queue_Until.f untilL
  rw [table_Get_s t h a k (by omega)]
  simp only [Option.bind_some]
  cases hq : getL (goodL t) a with
  | none => rfl
  | some l =>
    show (if true = true then ((queue_counts.f l.f0 l.f1 l.f2 l.f3 now).bind fun b => (if b = true then some (wrap64 (l.f2 - now)) else some 0)) else some 0) = some (if countsB l now = true then wrap64 (l.f2 - now) else 0)
    rw [if_pos rfl, queue_counts_s]
    simp only [Option.bind_some]
    cases countsB l now <;> rfl

end Go.Proofs.Ytopbcamlagdieaa.PStats
set_option linter.unusedVariables false
set_option linter.unusedSimpArgs false
namespace Go.Proofs.Ytopbcamlagdieaa.PStats
open Go.RowKit Go.Proofs.YtopbcamlagdieaaW.PrintWords Go.Proofs.YtopbcamlagdieaaW.PrintLast Go.Proofs.YtopbcamlagdieaaW.PrintMore

/-! ### stats.Wait -/
section
set_option linter.unusedSectionVars false
variable {a b : Int} {nets : List Nt} (h : Sm nets) {t : List Le} (ht : Small t) (hT : Tab t) (n now : Int)
include h ht hT
theorem stats_Wait_l1 : Ev (fun k => stats_Wait.l1 k t a b nets now n 0 0 0 ⟨#[]⟩ 0) (if (firstA a b nets t n now).f1 = 0 then (0, false) else (untilL t (firstA a b nets t n now).f0 now, true)) := by
  have hl : t.length ≤ 500 := ht.1
  unfold firstA
  refine loopL (σ := Le) t (minStep (candA a b nets n now)) (fun _ _ => True) (L := fun k i f => stats_Wait.l1 k t a b nets now n f.f0 f.f1 f.f2 f.f3 i) (s := ⟨0, 0, 0, ⟨#[]⟩⟩) trivial (fun _ _ _ _ => trivial) (fun i hi f _ h3 => ?_) (fun _ => ?_)
  · have eT : rd_T68 t (i : Int) = t[i] := rd_get hi
    refine Ev.step (fun k => by show stats_Wait.l1 (k + 1) _ _ _ _ _ _ _ _ _ _ _ = _; rw [stats_Wait.l1, if_pos (by omega), if_pos (by omega), eT, wrap_next hi (by omega)]) ?_
    unfold minStep candA at h3
    refine Ev.bind (conf_Keeper_s a b nets h _) (Ev.ite' (fun c1 => ?_) (fun c1 => ?_))
    · rw [c1, Bool.true_and] at h3
      refine Ev.bind (Ev.congr (fun _ => stats_counts_s t[i] now) (Ev.now _)) (Ev.ite' (fun c2 => ?_) (fun c2 => ?_))
      · rw [c2, Bool.true_and] at h3
        refine Ev.bind (conf_InPool_s a b nets h n _) (Ev.ite' (fun c3 => ?_) (fun c3 => by rw [if_neg c3] at h3; exact h3))
        rw [if_pos c3] at h3
        refine Ev.ite' (fun c4 => by rw [if_pos c4] at h3; exact h3) (fun c4 => ?_)
        rw [if_neg c4] at h3
        exact Ev.ite' (fun c5 => by rw [if_pos c5] at h3; exact h3) (fun c5 => by rw [if_neg c5] at h3; exact h3)
      · rw [Bool.not_eq_true] at c2
        rw [c2] at h3
        exact h3
    · rw [Bool.not_eq_true] at c1
      rw [c1] at h3
      exact h3
  · generalize t.foldl (minStep (candA a b nets n now)) ⟨0, 0, 0, ⟨#[]⟩⟩ = f
    refine Ev.step (fun k => by show stats_Wait.l1 (k + 1) _ _ _ _ _ _ _ _ _ _ _ = _; rw [stats_Wait.l1, if_neg (by omega)]) (Ev.ite' (fun c => Ev.ret (by rw [if_pos c])) (fun c => ?_))
    rw [if_neg c]
    have := queue_Until_s t ht f.f0 now
    rw [goodL_of hT] at this
    exact Ev.bind (a := untilL t f.f0 now) ⟨40000, this⟩ (Ev.ret rfl)
theorem spotsL_len : (spotsL nets).length ≤ 1000 := by
  have := spots_len (n := 0) (nets := nets) (fun x hx => (h.2 x hx).1)
  have := h.1
  unfold spotsL
  omega
end
theorem stats_Wait_s (a b : Int) (nets : List Nt) (h : Sm nets) (t : List Le) (ht : Small t) (n now : Int) : Ev (fun k => stats_Wait.f k a b nets t n now) (waitA a b nets t n now) := by
  unfold waitA
  refine Ev.bind (stats_Count_s a b nets h t ht now) (Ev.ite' (fun c1 => ?_) (fun c1 => Ev.ret (by rw [if_neg (fun e => c1 e.1)])))
  refine Ev.ite' (fun c2 => Ev.ret (by rw [if_neg (fun e => by omega)])) (fun c2 => Ev.ite' (fun c3 => Ev.ret (by rw [if_neg (fun e => by omega)])) (fun c3 => ?_))
  rw [if_pos ⟨c1, by omega, by omega⟩]
  have hT : Tab t := by
    unfold countL at c1
    split at c1
    · split at c1
      · assumption
      · simp at c1
    · exact absurd c1 (by assumption)
  have hl : (countL a b nets t now).1.length ≤ 1000 := by
    unfold countL
    by_cases c : checkI a b nets = 0
    · rw [if_pos c, if_pos hT]
      show ((spotsL nets).map _).length ≤ 1000
      rw [List.length_map]; exact spotsL_len h ht hT
    · rw [if_neg c]; simp
  generalize countL a b nets t now = q at *
  obtain ⟨l, e⟩ := q
  dsimp only at *
  have eA : (if (l.any (fun s => decide (s.f0 = n ∧ s.f6 > 0))) = true then ((0 : Int), true) else (if (firstA a b nets t n now).f1 = 0 then (0, false) else (untilL t (firstA a b nets t n now).f0 now, true)))
      = l.foldr (fun s r => if s.f0 = n ∧ s.f6 > 0 then (0, true) else r) (if (firstA a b nets t n now).f1 = 0 then (0, false) else (untilL t (firstA a b nets t n now).f0 now, true)) := by
    clear hl
    induction l with
    | nil => rfl
    | cons s l ih =>
      rw [List.foldr_cons, ← ih, List.any_cons]
      by_cases c : s.f0 = n ∧ s.f6 > 0
      · rw [if_pos c, decide_eq_true c, Bool.true_or, if_pos rfl]
      · rw [if_neg c, decide_eq_false c, Bool.false_or]
  rw [eA]
  refine loopR l _ (L := fun k i => stats_Wait.l0 k (l, e) n t a b nets now i) (fun i hi r h3 => ?_) ?_
  · have eT : rd_T25 l (i : Int) = l[i] := rd_get hi
    refine Ev.step (fun k => by show stats_Wait.l0 (k + 1) _ _ _ _ _ _ _ _ = _; rw [stats_Wait.l0, if_pos (by dsimp only; omega), if_pos (by omega)]) ?_
    dsimp only
    rw [eT, wrap_next hi (by omega)]
    exact Ev.ite' (fun c4 => Ev.ite' (fun c5 => Ev.ret (by rw [if_pos ⟨c4, c5⟩])) (fun c5 => by rw [if_neg (fun e => c5 e.2)]; exact h3)) (fun c4 => by rw [if_neg (fun e => c4 e.1)]; exact h3)
  · exact Ev.step (fun k => by show stats_Wait.l0 (k + 1) _ _ _ _ _ _ _ _ = _; rw [stats_Wait.l0, if_neg (by dsimp only; omega)]) (stats_Wait_l1 h ht hT n now)

end Go.Proofs.Ytopbcamlagdieaa.PStats
