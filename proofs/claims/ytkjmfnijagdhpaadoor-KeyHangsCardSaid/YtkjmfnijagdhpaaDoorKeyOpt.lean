/- Plain facts on options and messages, with no program in sight; each under its theorem's own conditions. -/
import Derived.Test.YtkjmfnijagdhpaaDoorPKeyx0
import Derived.Test.YtkjmfnijagdhpaaDoorKeyHex
set_option linter.unusedVariables false
set_option linter.unusedSimpArgs false
namespace Go.Proofs.YtkjmfnijagdhpaaDoor.PKey
open Go.RowKit Go.Proofs.YtkjmfnijagdhpaaDoorW.PrintWords Go.Proofs.YtkjmfnijagdhpaaDoorW.PrintLast Go.Proofs.YtkjmfnijagdhpaaDoorW.PrintMore

abbrev Ot := S52
def idxO (l : List Ot) (c : Int) : Nat := l.findIdx (fun o => o.f0 == c)
def findO (l : List Ot) (c : Int) : List Int × Bool := (l.findSome? (fun o => if o.f0 = c then some (o.f1, true) else none)).getD ([], false)
def cntO (l : List Ot) (c : Int) : Nat := l.countP (fun o => o.f0 == c)
def SmO (l : List Ot) : Prop := l.length ≤ 100 ∧ ∀ o ∈ l, o.f1.length ≤ 1000
def DistO (l : List Ot) : Prop := ∀ i j, (hi : i < j) → (hj : j < l.length) → l[i].f0 ≠ l[j].f0
def RightO (l : List Ot) : Prop := l.length ≤ 60 ∧ (∀ i, (h : i < l.length) → 1 ≤ l[i].f0 ∧ l[i].f0 ≤ 254 ∧ l[i].f1.length ≤ 600) ∧ DistO l
theorem idxO_at {l : List Ot} {i : Nat} (h : i < l.length) {c : Int} : idxO l c = i ↔ l[i].f0 = c ∧ ∀ j, (hj : j < i) → l[j].f0 ≠ c := by
  unfold idxO
  rw [List.findIdx_eq h]
  simp only [beq_iff_eq, beq_eq_false_iff_ne]
theorem idxO_none {l : List Ot} {c : Int} : (∀ i, (h : i < l.length) → l[i].f0 ≠ c) ↔ idxO l c = l.length := by
  unfold idxO
  rw [List.findIdx_eq_length]
  constructor
  · intro h x hx
    obtain ⟨i, hi, rfl⟩ := List.mem_iff_getElem.1 hx
    simpa using h i hi
  · intro h i hi
    simpa using h _ (List.getElem_mem hi)
theorem idxO_lt {l : List Ot} {c : Int} (h : idxO l c < l.length) : l[idxO l c].f0 = c := ((idxO_at h).1 rfl).1
theorem findO_idx (l : List Ot) (c : Int) : findO l c = if h : idxO l c < l.length then (l[idxO l c].f1, true) else ([], false) := by
  unfold findO idxO
  induction l with
  | nil => rfl
  | cons o l ih =>
    rw [List.findSome?_cons, List.findIdx_cons]
    by_cases c1 : o.f0 = c
    · rw [if_pos c1]
      have : (o.f0 == c) = true := beq_iff_eq.2 c1
      simp [this]
    · rw [if_neg c1]
      have : (o.f0 == c) = false := beq_eq_false_iff_ne.2 c1
      simp only [this, cond_false, List.length_cons, Nat.add_lt_add_iff_right, List.getElem_cons_succ]
      exact ih
theorem dist_idx (l : List Ot) : DistO l ↔ ∀ i, (h : i < l.length) → idxO l l[i].f0 = i := by
  constructor
  · intro h i hi
    exact (idxO_at hi).2 ⟨rfl, fun j hj => h j i hj hi⟩
  · intro h i j hi hj
    exact ((idxO_at hj).1 (h j hj)).2 i hi
theorem cntO_zero {l : List Ot} {c : Int} : cntO l c = 0 ↔ (findO l c).2 = false := by
  rw [findO_idx]
  have h1 : cntO l c = 0 ↔ idxO l c = l.length := by
    rw [← idxO_none]
    unfold cntO
    rw [List.countP_eq_zero]
    constructor
    · intro h i hi
      simpa using h _ (List.getElem_mem hi)
    · intro h x hx
      obtain ⟨i, hi, rfl⟩ := List.mem_iff_getElem.1 hx
      simpa using h i hi
  have h2 : idxO l c ≤ l.length := List.findIdx_le_length
  rw [h1]
  by_cases h : idxO l c < l.length
  · rw [dif_pos h]; simp; omega
  · rw [dif_neg h]; simp; omega
theorem dist_cons (o : Ot) (l : List Ot) : DistO (o :: l) ↔ (∀ x ∈ l, o.f0 ≠ x.f0) ∧ DistO l := by
  constructor
  · intro h
    refine ⟨fun x hx => ?_, fun i j hi hj => ?_⟩
    · obtain ⟨i, hi, rfl⟩ := List.mem_iff_getElem.1 hx
      exact h 0 (i + 1) (by omega) (by simp; omega)
    · exact h (i + 1) (j + 1) (by omega) (by simp; omega)
  · rintro ⟨h1, h2⟩ i j hi hj
    obtain ⟨j, rfl⟩ : ∃ m, j = m + 1 := ⟨j - 1, by omega⟩
    simp only [List.length_cons] at hj
    cases i with
    | zero => exact h1 _ (List.getElem_mem (by omega))
    | succ i => exact h2 i j (by omega) (by omega)
theorem dist_cnt : ∀ l : List Ot, DistO l ↔ ∀ x ∈ l, cntO l x.f0 ≤ 1
  | [] => ⟨fun _ x hx => absurd hx (List.not_mem_nil), fun _ i j hi hj => absurd hj (by simp)⟩
  | o :: l => by
    rw [dist_cons, dist_cnt l]
    have hc : ∀ c, cntO (o :: l) c = cntO l c + if o.f0 = c then 1 else 0 := by
      intro c
      unfold cntO
      rw [List.countP_cons]
      congr 1
      by_cases h : o.f0 = c <;> simp [h]
    constructor
    · rintro ⟨h1, h2⟩ x hx
      rw [hc]
      rcases List.mem_cons.1 hx with rfl | hx
      · rw [if_pos rfl]
        have : cntO l x.f0 = 0 := by
          unfold cntO
          rw [List.countP_eq_zero]
          intro y hy
          simpa using fun e => h1 y hy e.symm
        omega
      · rw [if_neg (h1 x hx)]
        exact h2 x hx
    · intro h
      have h0 := h o List.mem_cons_self
      rw [hc, if_pos rfl] at h0
      have h0' : cntO l o.f0 = 0 := by omega
      unfold cntO at h0'
      rw [List.countP_eq_zero] at h0'
      refine ⟨fun x hx e => ?_, fun x hx => ?_⟩
      · exact h0' x hx (by simp [e])
      · have := h x (List.mem_cons_of_mem _ hx)
        rw [hc] at this
        split at this <;> omega
/-- Is a message right? -/
def MsgP (op ht hl hops xid secs flags ci yi si gi : Int) (ch : List Int) (l : List Ot) : Prop :=
  (0 ≤ op ∧ op ≤ 255) ∧ (0 ≤ ht ∧ ht ≤ 255) ∧ (0 ≤ hops ∧ hops ≤ 255) ∧ (0 ≤ hl ∧ hl ≤ 16) ∧ (0 ≤ secs ∧ secs ≤ 65535) ∧ (0 ≤ flags ∧ flags ≤ 65535) ∧
  ((0 ≤ xid ∧ xid ≤ 4294967295) ∧ (0 ≤ ci ∧ ci ≤ 4294967295) ∧ (0 ≤ yi ∧ yi ≤ 4294967295) ∧ (0 ≤ si ∧ si ≤ 4294967295) ∧ (0 ≤ gi ∧ gi ≤ 4294967295)) ∧ ch.length = 16 ∧ RightO l ∧ (findO l 52).2 = false
/-- The key of a message that is right, by its options' bytes, and the error. -/
def ofD (ht hl : Int) (ch : List Int) (d : List Int) : List Int × Int :=
  if d.length > 255 then ([], 3) else if d.length ≥ 2 then (105 :: d, 0) else if hl > 0 then (104 :: ht % 256 :: ch.take hl.toNat, 0) else ([], 5)
end Go.Proofs.YtkjmfnijagdhpaaDoor.PKey
