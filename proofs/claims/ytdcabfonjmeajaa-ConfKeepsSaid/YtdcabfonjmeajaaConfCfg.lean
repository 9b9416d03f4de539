/- Plain facts on configurations, with no program in sight; each under its theorem's own conditions. -/
import Derived.Test.YtdcabfonjmeajaaPConfx0
import Derived.Test.YtdcabfonjmeajaaAdr
set_option linter.unusedVariables false
set_option linter.unusedSimpArgs false
namespace Go.Proofs.Ytdcabfonjmeajaa.PConf
open Go.RowKit Go.Proofs.YtdcabfonjmeajaaW.PrintWords Go.Proofs.YtdcabfonjmeajaaW.PrintLast Go.Proofs.YtdcabfonjmeajaaW.PrintMore

/-! Loops that end at the first round that doesn't pass. -/
theorem loopE {β : Type} {L : Nat → Int → Option β} {n : Nat} (p : Nat → Prop) (v : Nat → β) {r : β}
    (hok : ∀ i, i < n → p i → ∀ r, Ev (fun k => L k ((i + 1 : Nat) : Int)) r → Ev (fun k => L k (i : Int)) r)
    (hbad : ∀ i, i < n → ¬ p i → Ev (fun k => L k (i : Int)) (v i))
    (hend : (∀ i, i < n → p i) → Ev (fun k => L k (n : Int)) r)
    (hr : ∀ i, i < n → (∀ j, j < i → p j) → ¬ p i → r = v i) : Ev (fun k => L k 0) r := by
  have H : ∀ d i, i + d = n → (∀ j, j < i → p j) → Ev (fun k => L k (i : Int)) r := by
    intro d
    induction d with
    | zero =>
      intro i hi hp
      obtain rfl : i = n := by omega
      exact hend hp
    | succ d ih =>
      intro i hi hp
      by_cases h : p i
      · refine hok i (by omega) h _ (ih (i + 1) (by omega) (fun j hj => ?_))
        rcases Nat.lt_succ_iff_lt_or_eq.1 hj with h1 | h1
        · exact hp j h1
        · subst h1; exact h
      · rw [hr i (by omega) hp h]
        exact hbad i (by omega) h
  exact H n 0 (by omega) (fun j hj => by omega)
/-- The same, where a round that doesn't pass always ends it alike. -/
theorem loopC {β : Type} {L : Nat → Int → Option β} {n : Nat} (p : Nat → Prop) (c : β) {r : β}
    (hok : ∀ i, i < n → p i → ∀ r, Ev (fun k => L k ((i + 1 : Nat) : Int)) r → Ev (fun k => L k (i : Int)) r)
    (hbad : ∀ i, i < n → ¬ p i → Ev (fun k => L k (i : Int)) c)
    (hend : (∀ i, i < n → p i) → Ev (fun k => L k (n : Int)) r)
    (hr : (∃ i, i < n ∧ ¬ p i) → r = c) : Ev (fun k => L k 0) r :=
  loopE p (fun _ => c) hok hbad hend (fun i hi _ h => hr ⟨i, hi, h⟩)
theorem wrap_next {i n : Nat} (h : i < n) (hn : n ≤ 140737488355328) : wrap64 ((i : Int) + 1) = ((i + 1 : Nat) : Int) := by unfold wrap64; omega
theorem Ev.pos {α : Type} {c : Prop} [Decidable c] (h : c) {f g : Nat → Option α} {r : α} (e : Ev f r) : Ev (fun k => if c then f k else g k) r := Ev.congr (fun _ => if_pos h) e
theorem Ev.neg {α : Type} {c : Prop} [Decidable c] (h : ¬ c) {f g : Nat → Option α} {r : α} (e : Ev g r) : Ev (fun k => if c then f k else g k) r := Ev.congr (fun _ => if_neg h) e
theorem Ev.some' {α : Type} {r : α} : Ev (fun _ => some r) r := Ev.now r

abbrev Rg := S62
abbrev Rs := S59
abbrev Sb := S57
abbrev Nt := S41
abbrev Sp := S66
def keyB (s : ByteArray) : Bool := decide (3 ≤ s.size) && (decide (bt s 0 = 105 ∧ s.size ≤ 256) || decide (bt s 0 = 104 ∧ s.size ≤ 18))
/-- What a law's reading and its guard tell of a configuration: no list and no key is great. -/
def Sm (nets : List Nt) : Prop := nets.length ≤ 10 ∧ ∀ n ∈ nets, n.f0.length ≤ 10 ∧ ∀ s ∈ n.f0, s.f2.length ≤ 20 ∧ s.f3.length ≤ 20 ∧ ∀ r ∈ s.f3, r.f0.size ≤ 1000
def SmS (s : Sb) : Prop := s.f2.length ≤ 20 ∧ s.f3.length ≤ 20 ∧ ∀ r ∈ s.f3, r.f0.size ≤ 1000
/-- Is a subnet's form right? -/
def FairS (s : Sb) : Prop := Com.fairB s.f0 s.f1 = true ∧ 8 ≤ s.f1 ∧ s.f1 ≤ 30 ∧ s.f2.length ≤ 4 ∧ s.f3.length ≤ 8 ∧ 0 ≤ s.f4 ∧ s.f4 ≤ 99 ∧ 1 ≤ s.f6 ∧ s.f6 ≤ 2147483648 ∧ (∀ i, (h : i < s.f2.length) → s.f2[i].f0 ≤ s.f2[i].f1) ∧ ∀ i, (h : i < s.f3.length) → keyB s.f3[i].f0 = true
theorem rd_get {α : Type} {xs : List α} {i : Nat} {d : α} (h : i < xs.length) : xs.getD ((i : Int)).toNat d = xs[i] := by
  rw [Int.toNat_natCast, List.getD_eq_getElem?_getD, List.getElem?_eq_getElem h]; rfl
/-- All subnets, and their places. -/
def subAt (n : Int) : Nat → List Sb → List Sp
  | _, [] => []
  | i, s :: r => ⟨n, (i : Int), s⟩ :: subAt n (i + 1) r
def spotsFrom : Nat → List Nt → List Sp
  | _, [] => []
  | n, x :: r => subAt (n : Int) 0 x.f0 ++ spotsFrom (n + 1) r
def spotsL (nets : List Nt) : List Sp := spotsFrom 0 nets
theorem subAt_len (n : Int) : ∀ (i : Nat) (l : List Sb), (subAt n i l).length = l.length
  | _, [] => rfl
  | i, s :: r => by rw [subAt, List.length_cons, subAt_len n (i + 1) r, List.length_cons]
theorem subAt_mem {n : Int} {x : Sp} : ∀ {i : Nat} {l : List Sb}, x ∈ subAt n i l → x.f0 = n ∧ x.f2 ∈ l
  | i, s :: r, h => by
    rw [subAt, List.mem_cons] at h
    rcases h with rfl | h
    · exact ⟨rfl, List.mem_cons_self⟩
    · exact ⟨(subAt_mem h).1, List.mem_cons_of_mem _ (subAt_mem h).2⟩
theorem subAt_of {n : Int} {s : Sb} : ∀ {i : Nat} {l : List Sb}, s ∈ l → ∃ x ∈ subAt n i l, x.f2 = s
  | i, t :: r, h => by
    rcases List.mem_cons.1 h with rfl | h
    · exact ⟨_, List.mem_cons_self, rfl⟩
    · obtain ⟨x, hx, e⟩ := subAt_of (i := i + 1) h
      exact ⟨x, List.mem_cons_of_mem _ hx, e⟩
theorem spots_mem {x : Sp} : ∀ {n : Nat} {nets : List Nt}, x ∈ spotsFrom n nets → ∃ y ∈ nets, x.f2 ∈ y.f0
  | n, y :: r, h => by
    rw [spotsFrom, List.mem_append] at h
    rcases h with h | h
    · exact ⟨y, List.mem_cons_self, (subAt_mem h).2⟩
    · obtain ⟨z, hz, hx⟩ := spots_mem h
      exact ⟨z, List.mem_cons_of_mem _ hz, hx⟩
theorem spots_of {y : Nt} {s : Sb} (hs : s ∈ y.f0) : ∀ {n : Nat} {nets : List Nt}, y ∈ nets → ∃ x ∈ spotsFrom n nets, x.f2 = s
  | n, z :: r, h => by
    rcases List.mem_cons.1 h with rfl | h
    · obtain ⟨x, hx, e⟩ := subAt_of (n := (n : Int)) (i := 0) hs
      exact ⟨x, by rw [spotsFrom]; exact List.mem_append_left _ hx, e⟩
    · obtain ⟨x, hx, e⟩ := spots_of hs (n := n + 1) h
      exact ⟨x, by rw [spotsFrom]; exact List.mem_append_right _ hx, e⟩
/-- What holds of all spots holds of all subnets, and the other way round. -/
theorem spots_all {F : Sb → Prop} {nets : List Nt} : (∀ x ∈ spotsL nets, F x.f2) ↔ ∀ n ∈ nets, ∀ s ∈ n.f0, F s :=
  ⟨fun h n hn s hs => by obtain ⟨x, hx, rfl⟩ := spots_of hs (n := 0) hn; exact h x hx, fun h x hx => by obtain ⟨y, hy, hx⟩ := spots_mem hx; exact h y hy _ hx⟩
theorem spots_len : ∀ {n : Nat} {nets : List Nt}, (∀ x ∈ nets, x.f0.length ≤ 10) → (spotsFrom n nets).length ≤ 10 * nets.length
  | n, [], _ => by simp [spotsFrom]
  | n, x :: r, h => by
    rw [spotsFrom, List.length_append, subAt_len, List.length_cons]
    have := spots_len (n := n + 1) (fun y hy => h y (List.mem_cons_of_mem _ hy))
    have := h x List.mem_cons_self
    omega
def FormP (a b : Int) (nets : List Nt) : Prop := 0 ≤ a ∧ a ≤ 4294967295 ∧ 1 ≤ b ∧ b ≤ 2147483648 ∧ nets.length ≤ 4 ∧ (∀ n ∈ nets, 1 ≤ n.f0.length ∧ n.f0.length ≤ 4) ∧ ∀ n ∈ nets, ∀ s ∈ n.f0, FairS s
/-- May a subnet lend an address? -/
def InS (s : Sb) (a : Int) : Prop := s.f0 < a ∧ a < s.f0 + (Com.sz s.f1 : Int) - 1
def PlaceS (srv : Int) (s : Sb) : Prop := (∀ i, (h : i < s.f2.length) → InS s s.f2[i].f0 ∧ InS s s.f2[i].f1 ∧ ¬ (s.f2[i].f0 ≤ srv ∧ srv ≤ s.f2[i].f1)) ∧ (∀ i, (h : i < s.f3.length) → InS s s.f3[i].f1 ∧ s.f3[i].f1 ≠ srv) ∧ (s.f5 ≠ 0 → Com.hasB s.f0 s.f1 s.f5 = true)
/-- Do two prefixes meet? -/
def meetC (b n c m : Int) : Bool := Com.fairB b n && (Com.fairB c m && (decide (b ≤ c ∧ c < b + Com.sz n) || decide (c ≤ b ∧ b < c + Com.sz m)))
theorem meetC_comm (b n c m : Int) : meetC b n c m = meetC c m b n := by
  unfold meetC
  cases Com.fairB b n <;> cases Com.fairB c m <;> simp [Bool.or_comm]
def DisjP (p q : Rg) : Prop := ¬ (p.f0 ≤ q.f0 ∧ q.f0 ≤ p.f1) ∧ ¬ (q.f0 ≤ p.f0 ∧ p.f0 ≤ q.f1)
def DifR (n n' : Int) (r q : Rs) : Prop := r.f1 ≠ q.f1 ∧ ¬ (n = n' ∧ r.f0.toList = q.f0.toList)
def FarS (x y : Sp) : Prop := meetC x.f2.f0 x.f2.f1 y.f2.f0 y.f2.f1 = false ∧ ¬ (x.f0 ≠ y.f0 ∧ x.f2.f4 = y.f2.f4 ∧ x.f2.f4 > 0)
theorem FarS.symm {x y : Sp} (h : FarS x y) : FarS y x := ⟨by rw [meetC_comm]; exact h.1, fun h2 => h.2 ⟨h2.1.symm, h2.2.1.symm, by rw [← h2.2.1]; exact h2.2.2⟩⟩
theorem DifR.symm {n n' : Int} {r q : Rs} (h : DifR n n' r q) : DifR n' n q r := ⟨h.1.symm, fun h2 => h.2 ⟨h2.1.symm, h2.2.symm⟩⟩
def OnceP (x y : Sp) (same : Bool) : Prop := (same = false → FarS x y) ∧ (same = true → ∀ i j, (hi : i < x.f2.f2.length) → (hj : j < y.f2.f2.length) → i ≠ j → DisjP x.f2.f2[i] y.f2.f2[j]) ∧
  ∀ i j, (hi : i < x.f2.f3.length) → (hj : j < y.f2.f3.length) → (same = true → i ≠ j) → DifR x.f0 y.f0 x.f2.f3[i] y.f2.f3[j]
def UnlikeP (l : List Sp) : Prop := ∀ i j, (hi : i < l.length) → (hj : j < l.length) → OnceP l[i] l[j] (decide (i = j))
def OverP (p q : Rg) : Prop := p.f0 ≤ q.f1 ∧ q.f0 ≤ p.f1
def PooledP (s : Sb) : Prop := ∃ i j, ∃ (hi : i < s.f2.length) (hj : j < i), OverP s.f2[i] s.f2[j]
/-- All reservations, each with its network. -/
def resL (l : List Sp) : List (Rs × Int) := l.flatMap (fun x => x.f2.f3.map (fun r => (r, x.f0)))
def DD (u v : Rs × Int) : Prop := DifR u.2 v.2 u.1 v.1
def FreeP (l : List Sp) : Prop := (∀ i, (hi : i < l.length) → ¬ PooledP l[i].f2 ∧ ∀ j, (hj : j < i) → FarS l[i] l[j]) ∧ ∀ a b, (ha : a < (resL l).length) → (hb : b < a) → DD (resL l)[a] (resL l)[b]
theorem pw_iff {α : Type} {D : α → α → Prop} {l : List α} : (∀ a b, (ha : a < l.length) → (hb : b < a) → D l[a] l[b]) ↔ l.Pairwise (fun u v => D v u) := by
  rw [List.pairwise_iff_getElem]
  exact ⟨fun h i j hi hj hij => h j i hj hij, fun h a b ha hb => h b a (by omega) ha hb⟩
theorem resL_pw (l : List Sp) : (resL l).Pairwise (fun u v => DD v u) ↔ (∀ x ∈ l, x.f2.f3.Pairwise (fun r q => DifR x.f0 x.f0 q r)) ∧ l.Pairwise (fun x y => ∀ r ∈ x.f2.f3, ∀ q ∈ y.f2.f3, DifR y.f0 x.f0 q r) := by
  unfold resL
  rw [List.pairwise_flatMap]
  constructor
  · rintro ⟨h1, h2⟩
    refine ⟨fun x hx => ?_, h2.imp (fun h r hr q hq => ?_)⟩
    · have := h1 x hx
      rw [List.pairwise_map] at this
      exact this
    · exact h (r, _) (List.mem_map.2 ⟨r, hr, rfl⟩) (q, _) (List.mem_map.2 ⟨q, hq, rfl⟩)
  · rintro ⟨h1, h2⟩
    refine ⟨fun x hx => ?_, h2.imp (fun h u hu v hv => ?_)⟩
    · rw [List.pairwise_map]
      exact h1 x hx
    · obtain ⟨r, hr, rfl⟩ := List.mem_map.1 hu
      obtain ⟨q, hq, rfl⟩ := List.mem_map.1 hv
      exact h r hr q hq
/-- Nothing is there twice, by each of two ways to say so. -/
theorem unlike_iff {l : List Sp} (hv : ∀ x ∈ l, ∀ i, (h : i < x.f2.f2.length) → x.f2.f2[i].f0 ≤ x.f2.f2[i].f1) : UnlikeP l ↔ FreeP l := by
  unfold FreeP
  rw [pw_iff (D := DD), resL_pw]
  constructor
  · intro h
    refine ⟨fun i hi => ⟨?_, fun j hj => ?_⟩, ?_, ?_⟩
    · rintro ⟨a, b, ha, hb, ho⟩
      have h1 := (h i i hi hi).2.1 (decide_eq_true rfl) a b ha (by omega) (by omega)
      unfold DisjP at h1
      unfold OverP at ho
      obtain ⟨h1, h2⟩ := h1
      rcases Int.le_total l[i].f2.f2[a].f0 l[i].f2.f2[b].f0 with c | c
      · exact h1 ⟨c, ho.2⟩
      · exact h2 ⟨c, ho.1⟩
    · exact (h i j hi (by omega)).1 (decide_eq_false (by omega))
    · intro x hx
      obtain ⟨i, hi, rfl⟩ := List.mem_iff_getElem.1 hx
      rw [List.pairwise_iff_getElem]
      intro a b ha hb hab
      exact (h i i hi hi).2.2 b a hb ha (fun _ => by omega)
    · rw [List.pairwise_iff_getElem]
      intro i j hi hj hij r hr q hq
      obtain ⟨a, ha, rfl⟩ := List.mem_iff_getElem.1 hr
      obtain ⟨b, hb, rfl⟩ := List.mem_iff_getElem.1 hq
      exact (h j i hj hi).2.2 b a hb ha (fun e => absurd (of_decide_eq_true e) (by omega))
  · rintro ⟨h1, h2, h3⟩ i j hi hj
    rw [List.pairwise_iff_getElem] at h3
    refine ⟨fun e => ?_, fun e a b ha hb hab => ?_, fun a b ha hb he => ?_⟩
    · have hne : i ≠ j := of_decide_eq_false e
      rcases Nat.lt_or_gt_of_ne hne with c | c
      · exact ((h1 j hj).2 i c).symm
      · exact (h1 i hi).2 j c
    · have hij : i = j := of_decide_eq_true e
      subst hij
      have hp := (h1 i hi).1
      have v1 := hv l[i] (List.getElem_mem hi) a ha
      have v2 := hv l[i] (List.getElem_mem hi) b hb
      have no : ¬ OverP l[i].f2.f2[a] l[i].f2.f2[b] := by
        intro ho
        rcases Nat.lt_or_gt_of_ne hab with c | c
        · exact hp ⟨b, a, hb, c, ho.2, ho.1⟩
        · exact hp ⟨a, b, ha, c, ho⟩
      exact ⟨fun h => no ⟨Int.le_trans h.1 v2, h.2⟩, fun h => no ⟨h.2, Int.le_trans h.1 v1⟩⟩
    · by_cases hij : i = j
      · subst hij
        have hab := he (decide_eq_true rfl)
        have h4 := h2 l[i] (List.getElem_mem hi)
        rw [List.pairwise_iff_getElem] at h4
        rcases Nat.lt_or_gt_of_ne hab with c | c
        · exact (h4 a b ha hb c).symm
        · exact h4 b a hb ha c
      · rcases Nat.lt_or_gt_of_ne hij with c | c
        · exact (h3 i j hi hj c _ (List.getElem_mem ha) _ (List.getElem_mem hb)).symm
        · exact h3 j i hj hi c _ (List.getElem_mem hb) _ (List.getElem_mem ha)
open Classical in
/-- What is wrong with a configuration. -/
noncomputable def checkI (a b : Int) (nets : List Nt) : Int := if FormP a b nets then (if ∀ n ∈ nets, ∀ s ∈ n.f0, PlaceS a s then (if UnlikeP (spotsL nets) then 0 else 8) else 9) else 1
theorem form_unlike {a b : Int} {nets : List Nt} (h : FormP a b nets) : UnlikeP (spotsL nets) ↔ FreeP (spotsL nets) :=
  unlike_iff (fun x hx i hi => ((spots_all (F := FairS)).2 h.2.2.2.2.2.2 x hx).2.2.2.2.2.2.2.2.2.1 i hi)
/-! Searches. -/
theorem loopF {α β : Type} (l : List α) (q : α → Option β) {L : Nat → Int → Option β} {r : β}
    (hs : ∀ i, (hi : i < l.length) → ∀ v, q l[i] = some v → Ev (fun k => L k (i : Int)) v)
    (hn : ∀ i, (hi : i < l.length) → q l[i] = none → ∀ r, Ev (fun k => L k ((i + 1 : Nat) : Int)) r → Ev (fun k => L k (i : Int)) r)
    (he : l.findSome? q = none → Ev (fun k => L k (l.length : Int)) r) (hr : ∀ v, l.findSome? q = some v → r = v) : Ev (fun k => L k 0) r := by
  have H : ∀ d i, i + d = l.length → (l.drop i).findSome? q = l.findSome? q → Ev (fun k => L k (i : Int)) r := by
    intro d
    induction d with
    | zero =>
      intro i hi hp
      obtain rfl : i = l.length := by omega
      rw [List.drop_length] at hp
      exact he hp.symm
    | succ d ih =>
      intro i hi hp
      have hl : i < l.length := by omega
      rw [List.drop_eq_getElem_cons hl, List.findSome?_cons] at hp
      cases c : q l[i] with
      | some v =>
        rw [c] at hp
        rw [hr v hp.symm]
        exact hs i hl v c
      | none =>
        rw [c] at hp
        exact hn i hl c _ (ih (i + 1) (by omega) hp)
  exact H l.length 0 (by omega) (by rw [List.drop_zero])
theorem getD_some {β : Type} {o : Option β} {d v : β} (h : o = some v) : o.getD d = v := by rw [h]; rfl
theorem getD_none {β : Type} {o : Option β} {d : β} (h : o = none) : o.getD d = d := by rw [h]; rfl
theorem subAt_find {β : Type} (n c : Int) (g : Sb → Option β) : ∀ (i : Nat) (l : List Sb), (subAt n i l).findSome? (fun x => if x.f0 = c then g x.f2 else none) = if n = c then l.findSome? g else none
  | _, [] => by simp [subAt]
  | i, s :: r => by
    rw [subAt, List.findSome?_cons, subAt_find n c g (i + 1) r, List.findSome?_cons]
    by_cases h : n = c
    · simp only [if_pos h]
    · simp only [if_neg h]
theorem spots_find {β : Type} (c : Int) (g : Sb → Option β) : ∀ (nets : List Nt) (n : Nat), (spotsFrom n nets).findSome? (fun x => if x.f0 = c then g x.f2 else none) = if (n : Int) ≤ c ∧ c < (n : Int) + nets.length then ((nets.getD (c - n).toNat ⟨[]⟩).f0).findSome? g else none
  | [], n => by rw [if_neg (by rw [List.length_nil]; omega)]; rfl
  | x :: r, n => by
    rw [spotsFrom, List.findSome?_append, subAt_find, spots_find c g r (n + 1)]
    by_cases h : (n : Int) = c
    · subst h
      rw [if_pos rfl, if_neg (by omega), Option.or_none, if_pos ⟨Int.le_refl _, by rw [List.length_cons]; omega⟩, show ((n : Int) - n).toNat = 0 by omega]
      rfl
    · rw [if_neg h, Option.none_or]
      by_cases h2 : (n : Int) ≤ c ∧ c < (n : Int) + (x :: r).length
      · rw [if_pos h2, if_pos (by rw [List.length_cons] at h2; omega), show (c - n).toNat = (c - ((n + 1 : Nat) : Int)).toNat + 1 by omega]
        rfl
      · rw [if_neg h2, if_neg (by rw [List.length_cons] at h2; omega)]
/-- The subnets of a configuration that is right. -/
noncomputable def rightL (a b : Int) (nets : List Nt) : List Sp := if checkI a b nets = 0 then spotsL nets else []
theorem rightL_len {a b : Int} {nets : List Nt} (h : Sm nets) : (rightL a b nets).length ≤ 1000 := by
  unfold rightL
  by_cases c : checkI a b nets = 0
  · rw [if_pos c]
    have := spots_len (n := 0) (fun x hx => (h.2 x hx).1); have := h.1; unfold spotsL; omega
  · rw [if_neg c]; simp
theorem rightL_sm {a b : Int} {nets : List Nt} (h : Sm nets) : ∀ x ∈ rightL a b nets, SmS x.f2 := by
  unfold rightL
  by_cases c : checkI a b nets = 0
  · rw [if_pos c]; exact (spots_all (F := SmS)).2 (fun n hn s hs => (h.2 n hn).2 s hs)
  · rw [if_neg c]; intro x hx; simp at hx
def findQ (a : Int) (x : Sp) : Option (Int × Int × Bool) := if Com.hasB x.f2.f0 x.f2.f1 a = true then some (x.f0, x.f1, true) else none
def wireQ (i : Int) (x : Sp) : Option (Int × Int × Bool) := if x.f2.f4 = i ∧ i > 0 then some (x.f0, x.f1, true) else none
def keptG (k : ByteArray) (s : Sb) : Option (Int × Bool) := s.f3.findSome? (fun r => if r.f0.toList = k.toList then some (r.f1, true) else none)
def keepG (a : Int) (s : Sb) : Option (ByteArray × Bool) := s.f3.findSome? (fun r => if r.f1 = a then some (r.f0, true) else none)
def poolG (a : Int) (s : Sb) : Option Bool := s.f2.findSome? (fun p => if p.f0 ≤ a ∧ a ≤ p.f1 then some true else none)
noncomputable def findL (a b : Int) (nets : List Nt) (x : Int) : Int × Int × Bool := ((rightL a b nets).findSome? (findQ x)).getD (0, 0, false)
noncomputable def wireL (a b : Int) (nets : List Nt) (x : Int) : Int × Int × Bool := ((rightL a b nets).findSome? (wireQ x)).getD (0, 0, false)
noncomputable def keptL (a b : Int) (nets : List Nt) (n : Int) (k : ByteArray) : Int × Bool := ((rightL a b nets).findSome? (fun x => if x.f0 = n then keptG k x.f2 else none)).getD (0, false)
noncomputable def keepL (a b : Int) (nets : List Nt) (x : Int) : ByteArray × Bool := ((rightL a b nets).findSome? (fun y => keepG x y.f2)).getD (⟨#[]⟩, false)
noncomputable def poolL (a b : Int) (nets : List Nt) (n x : Int) : Bool := ((rightL a b nets).findSome? (fun y => if y.f0 = n then poolG x y.f2 else none)).getD false
end Go.Proofs.Ytdcabfonjmeajaa.PConf
