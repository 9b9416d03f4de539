/- Plain facts on leases and tables of leases, with no program in sight; each under its theorem's own conditions. -/
import Derived.Test.YtdajdpgnhjlbaaaDoorPLeasex0
import Derived.Test.YtdajdpgnhjlbaaaDoorAdr
set_option linter.unusedVariables false
set_option linter.unusedSimpArgs false
namespace Go.Proofs.YtdajdpgnhjlbaaaDoor.PLease
open Go.RowKit Go.Proofs.YtdajdpgnhjlbaaaDoorW.PrintWords Go.Proofs.YtdajdpgnhjlbaaaDoorW.PrintLast Go.Proofs.YtdajdpgnhjlbaaaDoorW.PrintMore

abbrev Le := S23
abbrev leZ : Le := z23
/-- Is a key right? -/
def keyB (s : ByteArray) : Bool := decide (3 ≤ s.size) && (decide (bt s 0 = 105 ∧ s.size ≤ 256) || decide (bt s 0 = 104 ∧ s.size ≤ 18))
/-- Is a lease right? -/
def leaseB (l : Le) : Bool := decide (0 ≤ l.f0 ∧ l.f0 ≤ 4294967295 ∧ 1 ≤ l.f1 ∧ l.f1 ≤ 3 ∧ 0 ≤ l.f2 ∧ l.f2 ≤ 1125899906842624) && keyB l.f3
theorem leaseB_of {l : Le} (h : leaseB l = true) : 0 ≤ l.f0 ∧ l.f0 ≤ 4294967295 ∧ 1 ≤ l.f1 ∧ l.f1 ≤ 3 ∧ 0 ≤ l.f2 ∧ l.f2 ≤ 1125899906842624 ∧ keyB l.f3 = true := by
  unfold leaseB at h
  rw [Bool.and_eq_true, decide_eq_true_iff] at h
  obtain ⟨⟨a, b, c, d, e, f⟩, g⟩ := h
  exact ⟨a, b, c, d, e, f, g⟩
/-- The element of a place. -/
abbrev atL (t : List Le) (j : Nat) : Le := t.getD j leZ
theorem atL_mem {t : List Le} {j : Nat} (h : j < t.length) : atL t j ∈ t := by
  unfold atL
  rw [List.getD_eq_getElem?_getD, List.getElem?_eq_getElem h]
  exact List.getElem_mem h
theorem atL_get {t : List Le} {j : Nat} (h : j < t.length) : atL t j = t[j] := by
  unfold atL
  rw [List.getD_eq_getElem?_getD, List.getElem?_eq_getElem h]; rfl
theorem mem_atL {t : List Le} {l : Le} (h : l ∈ t) : ∃ j, j < t.length ∧ atL t j = l := by
  obtain ⟨j, hj, e⟩ := List.mem_iff_getElem.1 h
  exact ⟨j, hj, by rw [atL_get hj]; exact e⟩
/-- Strictly by addresses. -/
def Asc (t : List Le) : Prop := t.Pairwise (fun a b => a.f0 < b.f0)
instance (t : List Le) : Decidable (Asc t) := by unfold Asc; infer_instance
theorem asc_at {t : List Le} (h : Asc t) {i j : Nat} (hij : i < j) (hj : j < t.length) : (atL t i).f0 < (atL t j).f0 := by
  rw [atL_get (by omega), atL_get hj]
  exact List.pairwise_iff_getElem.1 h i j (by omega) hj hij
theorem asc_of_at {t : List Le} (h : ∀ j, j + 1 < t.length → (atL t j).f0 < (atL t (j + 1)).f0) : Asc t := by
  refine List.pairwise_iff_getElem.2 ?_
  have key : ∀ d i, i + d + 1 < t.length → (atL t i).f0 < (atL t (i + d + 1)).f0 := by
    intro d
    induction d with
    | zero => intro i hi; exact h i hi
    | succ d ih =>
      intro i hi
      have h1 := ih i (by omega)
      have h2 := h (i + d + 1) (by omega)
      exact Int.lt_trans h1 h2
  intro i j hi hj hij
  have := key (j - i - 1) i (by omega)
  rw [show i + (j - i - 1) + 1 = j from by omega, atL_get hi, atL_get hj] at this
  exact this
/-- Is it a table? -/
def Tab (t : List Le) : Prop := t.length ≤ 64 ∧ (∀ l ∈ t, leaseB l = true) ∧ Asc t
instance (t : List Le) : Decidable (Tab t) := by unfold Tab; infer_instance
/-- Few leases, of short keys. -/
def Small (t : List Le) : Prop := t.length ≤ 500 ∧ ∀ l ∈ t, l.f3.size ≤ maxLen
theorem tab_small {t : List Le} (h : Tab t) : Small t := by
  refine ⟨by have := h.1; omega, fun l hl => ?_⟩
  have hk := (leaseB_of (h.2.1 l hl)).2.2.2.2.2.2
  unfold keyB at hk
  simp only [Bool.and_eq_true, Bool.or_eq_true, decide_eq_true_iff] at hk
  simp only [maxLen]; omega
theorem tab_iff (t : List Le) : Tab t ↔ t.length ≤ 64 ∧ ∀ j, j < t.length → leaseB (atL t j) = true ∧ (0 < j → (atL t (j - 1)).f0 < (atL t j).f0) := by
  constructor
  · rintro ⟨h1, h2, h3⟩
    exact ⟨h1, fun j hj => ⟨h2 _ (atL_mem hj), fun h0 => asc_at h3 (by omega) hj⟩⟩
  · rintro ⟨h1, h2⟩
    refine ⟨h1, fun l hl => ?_, asc_of_at fun j hj => ?_⟩
    · obtain ⟨j, hj, rfl⟩ := mem_atL hl
      exact (h2 j hj).1
    · exact (h2 (j + 1) hj).2 (by omega)
theorem tab_iff2 (t : List Le) : Tab t ↔ t.length ≤ 64 ∧ ∀ j, j < t.length → leaseB (atL t j) = true ∧ (j + 1 < t.length → (atL t j).f0 < (atL t (j + 1)).f0) := by
  rw [tab_iff]
  constructor
  · rintro ⟨h1, h2⟩
    exact ⟨h1, fun j hj => ⟨(h2 j hj).1, fun h0 => (h2 (j + 1) h0).2 (by omega)⟩⟩
  · rintro ⟨h1, h2⟩
    refine ⟨h1, fun j hj => ⟨(h2 j hj).1, fun h0 => ?_⟩⟩
    have := (h2 (j - 1) (by omega)).2 (by omega)
    rw [show j - 1 + 1 = j from by omega] at this
    exact this
/-- A table, or the empty one. -/
def goodL (t : List Le) : List Le := if Tab t then t else []
theorem tab_nil : Tab ([] : List Le) := ⟨by simp, fun l h => by simp at h, List.Pairwise.nil⟩
theorem goodL_tab (t : List Le) : Tab (goodL t) := by
  unfold goodL
  by_cases h : Tab t
  · rw [if_pos h]; exact h
  · rw [if_neg h]; exact tab_nil
theorem goodL_of {t : List Le} (h : Tab t) : goodL t = t := if_pos h
/-- What is got. -/
def ans (o : Option Le) : Int × Int × Int × ByteArray × Bool := match o with | some l => (l.f0, l.f1, l.f2, l.f3, true) | none => (0, 0, 0, ⟨#[]⟩, false)
def getL (t : List Le) (a : Int) : Option Le := t.find? (fun l => decide (l.f0 = a))
theorem getL_some {t : List Le} (h : Asc t) {l : Le} (hl : l ∈ t) : getL t l.f0 = some l := by
  unfold getL
  obtain ⟨x, hx⟩ : ∃ x, t.find? (fun q => decide (q.f0 = l.f0)) = some x := Option.isSome_iff_exists.1 (List.find?_isSome.2 ⟨l, hl, by simp⟩)
  have h1 : x.f0 = l.f0 := by simpa using List.find?_some hx
  have h2 := List.mem_of_find?_eq_some hx
  rw [hx]
  obtain ⟨i, hi, rfl⟩ := mem_atL h2
  obtain ⟨j, hj, rfl⟩ := mem_atL hl
  rcases Nat.lt_trichotomy i j with c | c | c
  · have := asc_at h c hj; omega
  · subst c; rfl
  · have := asc_at h c hi; omega
theorem getL_none {t : List Le} {a : Int} (h : ∀ l ∈ t, l.f0 ≠ a) : getL t a = none := by
  unfold getL
  rw [List.find?_eq_none]
  intro l hl
  simpa using h l hl
theorem getL_mem {t : List Le} {a : Int} {l : Le} (h : getL t a = some l) : l ∈ t ∧ l.f0 = a := ⟨List.mem_of_find?_eq_some h, by simpa using List.find?_some h⟩
/-- A table with a lease. -/
def setL (t : List Le) (l : Le) : List Le := t.filter (fun x => decide (x.f0 < l.f0)) ++ l :: t.filter (fun x => decide (l.f0 < x.f0))
theorem setL_mem {t : List Le} {l x : Le} : x ∈ setL t l ↔ x = l ∨ (x ∈ t ∧ x.f0 ≠ l.f0) := by
  unfold setL
  simp only [List.mem_append, List.mem_filter, List.mem_cons, decide_eq_true_iff]
  constructor
  · rintro (⟨h1, h2⟩ | h | ⟨h1, h2⟩)
    · exact .inr ⟨h1, by omega⟩
    · exact .inl h
    · exact .inr ⟨h1, by omega⟩
  · rintro (h | ⟨h1, h2⟩)
    · exact .inr (.inl h)
    · by_cases c : x.f0 < l.f0
      · exact .inl ⟨h1, c⟩
      · exact .inr (.inr ⟨h1, by omega⟩)
theorem setL_asc {t : List Le} (h : Asc t) (l : Le) : Asc (setL t l) := by
  unfold setL Asc
  rw [List.pairwise_append]
  refine ⟨h.filter _, ?_, ?_⟩
  · rw [List.pairwise_cons]
    exact ⟨fun x hx => by simpa using (List.mem_filter.1 hx).2, h.filter _⟩
  · intro x hx y hy
    have h1 : x.f0 < l.f0 := by simpa using (List.mem_filter.1 hx).2
    rcases List.mem_cons.1 hy with rfl | hy
    · exact h1
    · have h2 : l.f0 < y.f0 := by simpa using (List.mem_filter.1 hy).2
      omega
/-- A place below which all addresses are less, and from which on all are greater, or the one at it is that. -/
theorem filter_lt {t : List Le} {a : Int} {p : Nat} (hp : p ≤ t.length) (h1 : ∀ j, j < p → (atL t j).f0 < a) (h2 : ∀ j, p ≤ j → j < t.length → a ≤ (atL t j).f0) : t.filter (fun x => decide (x.f0 < a)) = t.take p := by
  have e : t = t.take p ++ t.drop p := (List.take_append_drop p t).symm
  have f1 : (t.take p).filter (fun x => decide (x.f0 < a)) = t.take p := by
    rw [List.filter_eq_self]
    intro x hx
    obtain ⟨j, hj, rfl⟩ := List.mem_iff_getElem.1 hx
    rw [List.length_take] at hj
    have := h1 j (by omega)
    rw [atL_get (by omega)] at this
    simpa using this
  have f2 : (t.drop p).filter (fun x => decide (x.f0 < a)) = [] := by
    rw [List.filter_eq_nil_iff]
    intro x hx
    obtain ⟨j, hj, rfl⟩ := List.mem_iff_getElem.1 hx
    rw [List.length_drop] at hj
    have := h2 (p + j) (by omega) (by omega)
    rw [atL_get (by omega)] at this
    simp; omega
  conv => lhs; rw [e]
  rw [List.filter_append, f1, f2, List.append_nil]
theorem filter_gt {t : List Le} {a : Int} {p : Nat} (hp : p ≤ t.length) (h1 : ∀ j, j < p → j < t.length → (atL t j).f0 ≤ a) (h2 : ∀ j, p ≤ j → j < t.length → a < (atL t j).f0) : t.filter (fun x => decide (a < x.f0)) = t.drop p := by
  have e : t = t.take p ++ t.drop p := (List.take_append_drop p t).symm
  have f1 : (t.take p).filter (fun x => decide (a < x.f0)) = [] := by
    rw [List.filter_eq_nil_iff]
    intro x hx
    obtain ⟨j, hj, rfl⟩ := List.mem_iff_getElem.1 hx
    rw [List.length_take] at hj
    have := h1 j (by omega) (by omega)
    rw [atL_get (by omega)] at this
    simp; omega
  have f2 : (t.drop p).filter (fun x => decide (a < x.f0)) = t.drop p := by
    rw [List.filter_eq_self]
    intro x hx
    obtain ⟨j, hj, rfl⟩ := List.mem_iff_getElem.1 hx
    rw [List.length_drop] at hj
    have := h2 (p + j) (by omega) (by omega)
    rw [atL_get (by omega)] at this
    simpa using this
  conv => lhs; rw [e]
  rw [List.filter_append, f1, f2, List.nil_append]
theorem setL_new {t : List Le} {l : Le} {p : Nat} (hp : p ≤ t.length) (h1 : ∀ j, j < p → (atL t j).f0 < l.f0) (h2 : ∀ j, p ≤ j → j < t.length → l.f0 < (atL t j).f0) : setL t l = t.take p ++ l :: t.drop p := by
  unfold setL
  rw [filter_lt hp h1 (fun j a b => Int.le_of_lt (h2 j a b)), filter_gt hp (fun j a _ => Int.le_of_lt (h1 j a)) h2]
theorem setL_old {t : List Le} {l : Le} (h : Asc t) {p : Nat} (hp : p < t.length) (he : (atL t p).f0 = l.f0) : setL t l = t.set p l := by
  unfold setL
  rw [filter_lt (p := p) (by omega) (fun j hj => by rw [← he]; exact asc_at h hj hp) (fun j a b => by
      rw [← he]
      rcases Nat.lt_or_ge p j with c | c
      · exact Int.le_of_lt (asc_at h c b)
      · obtain rfl : j = p := by omega
        exact Int.le_refl _),
    filter_gt (p := p + 1) (by omega) (fun j a b => by
      rw [← he]
      rcases Nat.lt_or_ge j p with c | c
      · exact Int.le_of_lt (asc_at h c hp)
      · obtain rfl : j = p := by omega
        exact Int.le_refl _) (fun j a b => by rw [← he]; exact asc_at h (by omega) b), List.set_eq_take_append_cons_drop, if_pos hp]
/-- What the document's setting does, from an element on. -/
def refSet (l : Le) : Bool → List Le → List Le
  | put, [] => if put = true then [] else [l]
  | put, x :: r => (if put = false ∧ l.f0 ≤ x.f0 then [l] else []) ++ ((if x.f0 = l.f0 then [] else [x]) ++ refSet l (put || decide (l.f0 ≤ x.f0)) r)
theorem refSet_put (l : Le) : ∀ t : List Le, (∀ x ∈ t, l.f0 < x.f0) → refSet l true t = t := by
  intro t
  induction t with
  | nil => intro _; rfl
  | cons x r ih =>
    intro h
    have hx := h x (by simp)
    rw [refSet, if_neg (by simp), if_neg (by omega), Bool.true_or, ih (fun y hy => h y (by simp [hy]))]
    rfl
theorem refSet_eq (l : Le) : ∀ t : List Le, Asc t → refSet l false t = setL t l := by
  intro t
  induction t with
  | nil => intro _; rfl
  | cons x r ih =>
    intro h
    unfold Asc at h
    rw [List.pairwise_cons] at h
    rw [refSet, Bool.false_or]
    rcases Int.lt_trichotomy x.f0 l.f0 with c | c | c
    · rw [if_neg (by omega), if_neg (by omega), decide_eq_false (by omega), ih h.2]
      unfold setL
      rw [List.filter_cons, if_pos (by simpa using c), List.filter_cons, if_neg (by simp; omega)]
      rfl
    · have hgt : ∀ y ∈ r, l.f0 < y.f0 := fun y hy => by have := h.1 y hy; omega
      rw [if_pos ⟨rfl, by omega⟩, if_pos c, decide_eq_true (by omega), refSet_put l r hgt]
      unfold setL
      rw [List.filter_cons, if_neg (by simp; omega), List.filter_cons, if_neg (by simp; omega), List.filter_eq_nil_iff.2 (fun y hy => by have := hgt y hy; simp; omega), List.filter_eq_self.2 (fun y hy => by simpa using hgt y hy)]
      rfl
    · have hgt : ∀ y ∈ r, l.f0 < y.f0 := fun y hy => by have := h.1 y hy; omega
      rw [if_pos ⟨rfl, by omega⟩, if_neg (by omega), decide_eq_true (by omega), refSet_put l r hgt]
      unfold setL
      rw [List.filter_cons, if_neg (by simp; omega), List.filter_cons, if_pos (by simpa using c), List.filter_eq_nil_iff.2 (fun y hy => by have := hgt y hy; simp; omega), List.filter_eq_self.2 (fun y hy => by simpa using hgt y hy)]
      rfl
/-- Two lists by addresses with the same elements are one. -/
theorem asc_ext : ∀ {s t : List Le}, Asc s → Asc t → (∀ x, x ∈ s ↔ x ∈ t) → s = t := by
  intro s
  induction s with
  | nil =>
    intro t _ _ h
    cases t with
    | nil => rfl
    | cons y r => exact absurd ((h y).2 (by simp)) (by simp)
  | cons x r ih =>
    intro t hs ht h
    cases t with
    | nil => exact absurd ((h x).1 (by simp)) (by simp)
    | cons y q =>
      unfold Asc at hs ht
      rw [List.pairwise_cons] at hs ht
      have hxy : x = y := by
        rcases List.mem_cons.1 ((h x).1 (by simp)) with e | e
        · exact e
        · rcases List.mem_cons.1 ((h y).2 (by simp)) with e2 | e2
          · exact e2.symm
          · have a := ht.1 x e
            have b := hs.1 y e2
            omega
      subst hxy
      congr 1
      refine ih hs.2 ht.2 (fun z => ?_)
      constructor
      · intro hz
        rcases List.mem_cons.1 ((h z).1 (by simp [hz])) with e | e
        · subst e; have := hs.1 z hz; omega
        · exact e
      · intro hz
        rcases List.mem_cons.1 ((h z).2 (by simp [hz])) with e | e
        · subst e; have := ht.1 z hz; omega
        · exact e
theorem asc_filter {t : List Le} (h : Asc t) (p : Le → Bool) : Asc (t.filter p) := h.filter p
theorem tab_filter {t : List Le} (h : Tab t) (p : Le → Bool) : Tab (t.filter p) := ⟨Nat.le_trans (List.length_filter_le _ _) h.1, fun l hl => h.2.1 l (List.mem_filter.1 hl).1, asc_filter h.2.2 p⟩
def holdsB (l : Le) (now : Int) : Bool := decide (l.f1 = 1 ∧ now < l.f2)
def restsB (l : Le) (now : Int) : Bool := decide (l.f1 = 3 ∧ now < l.f2)
/-- May a client have an address? -/
def freeB (t : List Le) (a : Int) (k : ByteArray) (now : Int) : Bool := match getL t a with | none => true | some l => !restsB l now && (!holdsB l now || decide (l.f3.toList = k.toList))
def sweepL (t : List Le) (now : Int) : List Le := t.filter (fun l => holdsB l now || restsB l now)
end Go.Proofs.YtdajdpgnhjlbaaaDoor.PLease
