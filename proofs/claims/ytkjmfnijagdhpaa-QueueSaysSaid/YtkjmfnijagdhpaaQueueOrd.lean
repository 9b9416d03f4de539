/- Plain facts on leases by their ends, with no program in sight; each under its theorem's own conditions. -/
import Derived.Test.YtkjmfnijagdhpaaQueueTab
set_option linter.unusedVariables false
set_option linter.unusedSimpArgs false
namespace Go.Proofs.Ytkjmfnijagdhpaa.PQueue
open Go.RowKit Go.Proofs.YtkjmfnijagdhpaaW.PrintWords Go.Proofs.YtkjmfnijagdhpaaW.PrintLast Go.Proofs.YtkjmfnijagdhpaaW.PrintMore

/-- Ahead by the end, then by the address. -/
def bef (a b : Le) : Prop := a.f2 < b.f2 ∨ (a.f2 = b.f2 ∧ a.f0 < b.f0)
instance (a b : Le) : Decidable (bef a b) := by unfold bef; infer_instance
theorem bef_irrefl {a b : Le} (h : a.f0 = b.f0) (h2 : a.f2 = b.f2) : ¬ bef a b := by unfold bef; omega
theorem bef_trans {a b c : Le} (h : bef a b) (h2 : bef b c) : bef a c := by unfold bef at *; omega
theorem bef_asymm {a b : Le} (h : bef a b) : ¬ bef b a := by unfold bef at *; omega
theorem bef_self (a : Le) : ¬ bef a a := by unfold bef; omega
theorem bef_tri {a b : Le} (h : a.f0 ≠ b.f0) (n : ¬ bef a b) : bef b a := by unfold bef at *; omega
theorem bef_le {a b : Le} (h : bef a b) : a.f2 ≤ b.f2 := by unfold bef at *; omega
def Ord (t : List Le) : Prop := t.Pairwise bef
/-- Each with an address of its own. -/
def Dif (t : List Le) : Prop := t.Pairwise (fun a b => a.f0 ≠ b.f0)
theorem asc_dif {t : List Le} (h : Asc t) : Dif t := h.imp (fun h => by omega)
theorem dif_filter {t : List Le} (h : Dif t) (p : Le → Bool) : Dif (t.filter p) := h.filter p
theorem ord_filter {t : List Le} (h : Ord t) (p : Le → Bool) : Ord (t.filter p) := h.filter p
theorem ord_ext : ∀ {s t : List Le}, Ord s → Ord t → (∀ x, x ∈ s ↔ x ∈ t) → s = t := by
  intro s
  induction s with
  | nil =>
    intro t _ _ h
    cases t with
    | nil => rfl
    | cons y r => exact absurd ((h y).2 (by simp)) (by simp)
  | cons x r ih =>
    intro t hs ht h
    cases t with
    | nil => exact absurd ((h x).1 (by simp)) (by simp)
    | cons y q =>
      unfold Ord at hs ht
      rw [List.pairwise_cons] at hs ht
      have hxy : x = y := by
        rcases List.mem_cons.1 ((h x).1 (by simp)) with e | e
        · exact e
        · rcases List.mem_cons.1 ((h y).2 (by simp)) with e2 | e2
          · exact e2.symm
          · exact absurd (ht.1 x e) (bef_asymm (hs.1 y e2))
      subst hxy
      congr 1
      refine ih hs.2 ht.2 (fun z => ?_)
      constructor
      · intro hz
        rcases List.mem_cons.1 ((h z).1 (by simp [hz])) with e | e
        · subst e; exact absurd (hs.1 z hz) (bef_self z)
        · exact e
      · intro hz
        rcases List.mem_cons.1 ((h z).2 (by simp [hz])) with e | e
        · subst e; exact absurd (ht.1 z hz) (bef_self z)
        · exact e
/-- A lease is put ahead of the first one that it must stand ahead of. -/
def insL (a : Le) : List Le → List Le
  | [] => [a]
  | b :: r => if bef a b then a :: b :: r else b :: insL a r
theorem insL_mem (a x : Le) : ∀ t, x ∈ insL a t ↔ x = a ∨ x ∈ t
  | [] => by simp [insL]
  | b :: r => by
    unfold insL
    split
    · exact List.mem_cons
    · rw [List.mem_cons, insL_mem a x r, List.mem_cons]
      constructor
      · rintro (h | h | h)
        · exact .inr (.inl h)
        · exact .inl h
        · exact .inr (.inr h)
      · rintro (h | h | h)
        · exact .inr (.inl h)
        · exact .inl h
        · exact .inr (.inr h)
theorem insL_len (a : Le) : ∀ t, (insL a t).length = t.length + 1
  | [] => rfl
  | b :: r => by
    unfold insL
    split
    · rfl
    · rw [List.length_cons, insL_len a r, List.length_cons]
theorem insL_ord (a : Le) : ∀ t, Ord t → (∀ b ∈ t, a.f0 ≠ b.f0) → Ord (insL a t)
  | [], _, _ => List.pairwise_singleton _ _
  | b :: r, h, hd => by
    unfold Ord at h
    rw [List.pairwise_cons] at h
    unfold insL Ord
    by_cases c : bef a b
    · rw [if_pos c, List.pairwise_cons]
      refine ⟨fun x hx => ?_, List.pairwise_cons.2 h⟩
      rcases List.mem_cons.1 hx with rfl | hx
      · exact c
      · exact bef_trans c (h.1 x hx)
    · rw [if_neg c, List.pairwise_cons]
      refine ⟨fun x hx => ?_, insL_ord a r h.2 (fun y hy => hd y (List.mem_cons_of_mem _ hy))⟩
      rcases (insL_mem a x r).1 hx with rfl | hx
      · exact bef_tri (hd b List.mem_cons_self) c
      · exact h.1 x hx
/-- One by one. -/
def sortF : List Le → List Le → List Le
  | out, [] => out
  | out, a :: r => sortF (insL a out) r
def sortL (t : List Le) : List Le := sortF [] t
theorem sortF_len : ∀ t out, (sortF out t).length = out.length + t.length
  | [], out => rfl
  | a :: r, out => by rw [sortF, sortF_len r, insL_len, List.length_cons]; omega
theorem sortF_props : ∀ t out, Ord out → Dif t → (∀ a ∈ t, ∀ b ∈ out, a.f0 ≠ b.f0) → Ord (sortF out t) ∧ ∀ x, x ∈ sortF out t ↔ x ∈ out ∨ x ∈ t
  | [], out, h, _, _ => ⟨h, fun x => by simp [sortF]⟩
  | a :: r, out, h, hd, hx => by
    unfold Dif at hd
    rw [List.pairwise_cons] at hd
    obtain ⟨h1, h2⟩ := sortF_props r (insL a out) (insL_ord a out h (hx a List.mem_cons_self)) hd.2 (fun y hy b hb => by
      rcases (insL_mem a b out).1 hb with rfl | hb
      · exact (hd.1 y hy).symm
      · exact hx y (List.mem_cons_of_mem _ hy) b hb)
    refine ⟨h1, fun x => ?_⟩
    rw [sortF, h2, insL_mem, List.mem_cons]
    constructor
    · rintro ((h | h) | h)
      · exact .inr (.inl h)
      · exact .inl h
      · exact .inr (.inr h)
    · rintro (h | h | h)
      · exact .inl (.inr h)
      · exact .inl (.inl h)
      · exact .inr h
theorem sortL_ord {t : List Le} (h : Dif t) : Ord (sortL t) := (sortF_props t [] List.Pairwise.nil h (fun _ _ _ h => by simp at h)).1
theorem sortL_mem {t : List Le} (h : Dif t) (x : Le) : x ∈ sortL t ↔ x ∈ t := by
  have := (sortF_props t [] List.Pairwise.nil h (fun _ _ _ h => by simp at h)).2 x
  unfold sortL
  rw [this]; simp
theorem sortL_len (t : List Le) : (sortL t).length = t.length := by
  unfold sortL
  rw [sortF_len]; simp
theorem sortL_eq {s t : List Le} (ht : Dif t) (hs : Ord s) (h : ∀ x, x ∈ s ↔ x ∈ t) : s = sortL t := ord_ext hs (sortL_ord ht) (fun x => by rw [h, sortL_mem ht])
theorem sortL_filter {t : List Le} (ht : Dif t) (p : Le → Bool) : sortL (t.filter p) = (sortL t).filter p :=
  (sortL_eq (dif_filter ht p) (ord_filter (sortL_ord ht) p) (fun x => by rw [List.mem_filter, List.mem_filter, sortL_mem ht])).symm
/-- The leases that end, by their ends. -/
def endsL (g : List Le) : List Le := sortL (g.filter (fun l => decide (l.f1 ≠ 2)))
/-- Those that end behind a moment, up to another one. -/
def endedL (g : List Le) (a b : Int) : List Le := (endsL g).filter (fun l => decide (a < l.f2 ∧ l.f2 ≤ b))
def laterL (g : List Le) (now : Int) : List Le := (endsL g).filter (fun l => decide (now < l.f2))
def nextA (t : List Le) : Int × Bool := match t with | [] => (0, false) | l :: _ => (l.f2, true)
def countsB (l : Le) (now : Int) : Bool := holdsB l now || restsB l now
theorem counts_iff (l : Le) (now : Int) (h1 : 1 ≤ l.f1) (h3 : l.f1 ≤ 3) : countsB l now = true ↔ l.f1 ≠ 2 ∧ now < l.f2 := by
  unfold countsB holdsB restsB
  rw [Bool.or_eq_true, decide_eq_true_iff, decide_eq_true_iff]
  omega
theorem later_eq {g : List Le} (h : Tab g) (now : Int) : sortL (g.filter (fun l => countsB l now)) = laterL g now := by
  unfold laterL endsL
  rw [← sortL_filter (dif_filter (asc_dif h.2.2) _), List.filter_filter]
  congr 1
  refine List.filter_congr (fun x hx => ?_)
  have hb := leaseB_of (h.2.1 x hx)
  have e := counts_iff x now hb.2.2.1 hb.2.2.2.1
  rw [Bool.eq_iff_iff, e]
  simp; omega
theorem ended_eq {g : List Le} (h : Tab g) (a b : Int) : sortL (g.filter (fun l => decide (a ≤ b) && (countsB l a && !countsB l b))) = endedL g a b := by
  unfold endedL endsL
  rw [← sortL_filter (dif_filter (asc_dif h.2.2) _), List.filter_filter]
  congr 1
  refine List.filter_congr (fun x hx => ?_)
  have hb := leaseB_of (h.2.1 x hx)
  have e := counts_iff x a hb.2.2.1 hb.2.2.2.1
  have e2 := counts_iff x b hb.2.2.1 hb.2.2.2.1
  rw [Bool.eq_iff_iff, Bool.and_eq_true, Bool.and_eq_true, e, Bool.not_eq_true', ← Bool.not_eq_true, e2, decide_eq_true_iff, Bool.and_eq_true, decide_eq_true_iff, decide_eq_true_iff]
  omega
theorem ends_ord {g : List Le} (h : Tab g) : Ord (endsL g) := sortL_ord (dif_filter (asc_dif h.2.2) _)
theorem ends_mem {g : List Le} (h : Tab g) (x : Le) : x ∈ endsL g ↔ x ∈ g ∧ x.f1 ≠ 2 := by
  unfold endsL
  rw [sortL_mem (dif_filter (asc_dif h.2.2) _), List.mem_filter, decide_eq_true_iff]
theorem ends_len (g : List Le) : (endsL g).length ≤ g.length := by
  unfold endsL
  rw [sortL_len]; exact List.length_filter_le _ _
theorem ended_parts {g : List Le} (h : Tab g) {a b c : Int} (h1 : a ≤ b) (h2 : b ≤ c) : endedL g a b ++ endedL g b c = endedL g a c := by
  refine ord_ext ?_ (ord_filter (ends_ord h) _) (fun x => ?_)
  · unfold Ord
    rw [List.pairwise_append]
    refine ⟨ord_filter (ends_ord h) _, ord_filter (ends_ord h) _, fun x hx y hy => ?_⟩
    have e1 := of_decide_eq_true (List.mem_filter.1 hx).2
    have e2 := of_decide_eq_true (List.mem_filter.1 hy).2
    unfold bef; omega
  · unfold endedL
    rw [List.mem_append, List.mem_filter, List.mem_filter, List.mem_filter, decide_eq_true_iff, decide_eq_true_iff, decide_eq_true_iff]
    constructor
    · rintro (⟨m, h⟩ | ⟨m, h⟩)
      · exact ⟨m, by omega⟩
      · exact ⟨m, by omega⟩
    · rintro ⟨m, h⟩
      by_cases d : x.f2 ≤ b
      · exact .inl ⟨m, by omega⟩
      · exact .inr ⟨m, by omega⟩
/-- How long an address is not free. -/
def untilL (g : List Le) (a now : Int) : Int := match getL g a with | some l => if countsB l now = true then wrap64 (l.f2 - now) else 0 | none => 0
end Go.Proofs.Ytkjmfnijagdhpaa.PQueue
