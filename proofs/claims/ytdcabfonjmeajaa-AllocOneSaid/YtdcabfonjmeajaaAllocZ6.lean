/- What this claim rests on, part 6: abstract values, walks of the code over them, what the functions come to; each under its theorem's own conditions. -/
import Derived.Test.YtdcabfonjmeajaaAllocZ5
set_option linter.unusedVariables false
set_option linter.unusedSimpArgs false
namespace Go.Proofs.Ytdcabfonjmeajaa.PAlloc
open Go.RowKit Go.Proofs.YtdcabfonjmeajaaW.PrintWords Go.Proofs.YtdcabfonjmeajaaW.PrintLast Go.Proofs.YtdcabfonjmeajaaW.PrintMore
/-! What a configuration that is right has. -/
theorem has_iff {b n x : Int} : Com.hasB b n x = true ↔ Com.fairB b n = true ∧ b ≤ x ∧ x < b + (Com.sz n : Int) := by unfold Com.hasB; rw [Bool.and_eq_true, decide_eq_true_iff]
theorem has_meet {b n c m x : Int} (h1 : Com.hasB b n x = true) (h2 : Com.hasB c m x = true) : meetC b n c m = true := by
  obtain ⟨f1, a1, b1⟩ := has_iff.1 h1
  obtain ⟨f2, a2, b2⟩ := has_iff.1 h2
  unfold meetC
  rw [f1, f2, Bool.true_and, Bool.true_and, Bool.or_eq_true, decide_eq_true_iff, decide_eq_true_iff]
  omega
theorem in_has {s : Sb} {a : Int} (h : FairS s) (hi : InS s a) : Com.hasB s.f0 s.f1 a = true := has_iff.2 ⟨h.1, by have := hi.1; omega, by have := hi.2; omega⟩
theorem has_uniq {l : List Sp} (hU : UnlikeP l) {x : Int} {y z : Sp} (hy : y ∈ l) (hz : z ∈ l) (h1 : Com.hasB y.f2.f0 y.f2.f1 x = true) (h2 : Com.hasB z.f2.f0 z.f2.f1 x = true) : y = z := by
  obtain ⟨i, hi, rfl⟩ := List.mem_iff_getElem.1 hy
  obtain ⟨j, hj, rfl⟩ := List.mem_iff_getElem.1 hz
  by_cases c : i = j
  · subst c; rfl
  · have := ((hU i j hi hj).1 (decide_eq_false c)).1
    rw [has_meet h1 h2] at this
    cases this
theorem find_of {l : List Sp} (hU : UnlikeP l) {x : Int} {y : Sp} (hy : y ∈ l) (h1 : Com.hasB y.f2.f0 y.f2.f1 x = true) : l.findSome? (findQ x) = some (y.f0, y.f1, true) := by
  cases c : l.findSome? (findQ x) with
  | none =>
    have := List.findSome?_eq_none_iff.1 c y hy
    unfold findQ at this
    rw [if_pos h1] at this
    cases this
  | some v =>
    obtain ⟨z, hz, hv⟩ := List.exists_of_findSome?_eq_some c
    unfold findQ at hv
    by_cases h2 : Com.hasB z.f2.f0 z.f2.f1 x = true
    · rw [if_pos h2] at hv
      obtain rfl := has_uniq hU hy hz h1 h2
      exact hv.symm
    · rw [if_neg h2] at hv; cases hv
theorem pool_of {l : List Sp} {n a : Int} (h : (l.findSome? (fun y => if y.f0 = n then poolG a y.f2 else none)).getD false = true) : ∃ y ∈ l, y.f0 = n ∧ ∃ i, ∃ hi : i < y.f2.f2.length, y.f2.f2[i].f0 ≤ a ∧ a ≤ y.f2.f2[i].f1 := by
  cases c : l.findSome? (fun y => if y.f0 = n then poolG a y.f2 else none) with
  | none => rw [c] at h; cases h
  | some v =>
    obtain ⟨y, hy, hv⟩ := List.exists_of_findSome?_eq_some c
    by_cases h1 : y.f0 = n
    · rw [if_pos h1] at hv
      obtain ⟨p, hp, hv⟩ := List.exists_of_findSome?_eq_some hv
      obtain ⟨i, hi, rfl⟩ := List.mem_iff_getElem.1 hp
      by_cases h2 : y.f2.f2[i].f0 ≤ a ∧ a ≤ y.f2.f2[i].f1
      · exact ⟨y, hy, h1, i, hi, h2⟩
      · rw [if_neg h2] at hv; cases hv
    · rw [if_neg h1] at hv; cases hv
theorem kept_of {l : List Sp} {n b : Int} {k : ByteArray} (h : l.findSome? (fun y => if y.f0 = n then keptG k y.f2 else none) = some (b, true)) : ∃ y ∈ l, y.f0 = n ∧ ∃ i, ∃ hi : i < y.f2.f3.length, y.f2.f3[i].f0.toList = k.toList ∧ y.f2.f3[i].f1 = b := by
  obtain ⟨y, hy, hv⟩ := List.exists_of_findSome?_eq_some h
  by_cases h1 : y.f0 = n
  · rw [if_pos h1] at hv
    obtain ⟨p, hp, hv⟩ := List.exists_of_findSome?_eq_some hv
    obtain ⟨i, hi, rfl⟩ := List.mem_iff_getElem.1 hp
    by_cases h2 : y.f2.f3[i].f0.toList = k.toList
    · rw [if_pos h2] at hv
      injection hv with hv
      exact ⟨y, hy, h1, i, hi, h2, congrArg Prod.fst hv⟩
    · rw [if_neg h2] at hv; cases hv
  · rw [if_neg h1] at hv; cases hv
theorem keep_of {l : List Sp} {a : Int} {v : ByteArray × Bool} (h : l.findSome? (fun y => keepG a y.f2) = some v) : ∃ y ∈ l, ∃ i, ∃ hi : i < y.f2.f3.length, y.f2.f3[i].f1 = a ∧ v = (y.f2.f3[i].f0, true) := by
  obtain ⟨y, hy, hv⟩ := List.exists_of_findSome?_eq_some h
  obtain ⟨p, hp, hv⟩ := List.exists_of_findSome?_eq_some hv
  obtain ⟨i, hi, rfl⟩ := List.mem_iff_getElem.1 hp
  by_cases h2 : y.f2.f3[i].f1 = a
  · rw [if_pos h2] at hv
    exact ⟨y, hy, i, hi, h2, (Option.some.inj hv).symm⟩
  · rw [if_neg h2] at hv; cases hv
/-- An address that is reserved is so once. -/
theorem keep_uniq {l : List Sp} (hU : UnlikeP l) {y z : Sp} (hy : y ∈ l) (hz : z ∈ l) {i j : Nat} (hi : i < y.f2.f3.length) (hj : j < z.f2.f3.length) (h : y.f2.f3[i].f1 = z.f2.f3[j].f1) : y.f2.f3[i].f0 = z.f2.f3[j].f0 := by
  obtain ⟨p, hp, rfl⟩ := List.mem_iff_getElem.1 hy
  obtain ⟨q, hq, rfl⟩ := List.mem_iff_getElem.1 hz
  by_cases c : p = q
  · subst c
    by_cases c2 : i = j
    · subst c2; rfl
    · exact absurd h ((hU p p hp hp).2.2 i j hi hj (fun _ => c2)).1
  · exact absurd h ((hU p q hp hq).2.2 i j hi hj (fun e => absurd (of_decide_eq_true e) c)).1
open Classical in
theorem check_zero {a b : Int} {nets : List Nt} (h : checkI a b nets = 0) : FormP a b nets ∧ (∀ n ∈ nets, ∀ s ∈ n.f0, PlaceS a s) ∧ UnlikeP (spotsL nets) := by
  unfold checkI at h
  by_cases c1 : FormP a b nets
  · rw [if_pos c1] at h
    by_cases c2 : ∀ n ∈ nets, ∀ s ∈ n.f0, PlaceS a s
    · rw [if_pos c2] at h
      by_cases c3 : UnlikeP (spotsL nets)
      · exact ⟨c1, c2, c3⟩
      · rw [if_neg c3] at h; exact absurd h (by decide)
    · rw [if_neg c2] at h; exact absurd h (by decide)
  · rw [if_neg c1] at h; exact absurd h (by decide)
/-- In a pool: found in that network, in no other one's pool, and not the server. -/
theorem one_pool {a b : Int} {nets : List Nt} (h : checkI a b nets = 0) {n x : Int} (hp : poolL a b nets n x = true) : (findL a b nets x).2.2 = true ∧ (findL a b nets x).1 = n ∧ (∀ m, m ≠ n → poolL a b nets m x = false) ∧ x ≠ a := by
  obtain ⟨hF, hP, hU⟩ := check_zero h
  have hF2 := (spots_all (F := FairS)).2 hF.2.2.2.2.2.2
  have hP2 := (spots_all (F := PlaceS a)).2 hP
  unfold poolL rightL at hp
  rw [if_pos h] at hp
  obtain ⟨y, hy, hn, i, hi, h1, h2⟩ := pool_of hp
  have pl := (hP2 y hy).1 i hi
  have hI : InS y.f2 x := ⟨by have := pl.1.1; omega, by have := pl.2.1.2; omega⟩
  have hh := in_has (hF2 y hy) hI
  have e := find_of hU hy hh
  unfold findL rightL
  rw [if_pos h, e]
  refine ⟨rfl, hn, fun m hm => ?_, fun e2 => pl.2.2 ⟨by omega, by omega⟩⟩
  cases c : poolL a b nets m x with
  | false => rfl
  | true =>
    unfold poolL rightL at c
    rw [if_pos h] at c
    obtain ⟨z, hz, hn2, j, hj, h3, h4⟩ := pool_of c
    have pl2 := (hP2 z hz).1 j hj
    have hI2 : InS z.f2 x := ⟨by have := pl2.1.1; omega, by have := pl2.2.1.2; omega⟩
    have := has_uniq hU hy hz hh (in_has (hF2 z hz) hI2)
    subst this
    exact absurd (hn2.symm.trans hn) hm
/-- Reserved: found in that network, for that client, and not the server. -/
theorem one_kept {a b : Int} {nets : List Nt} (h : checkI a b nets = 0) {n : Int} {k : ByteArray} (hk : (keptL a b nets n k).2 = true) :
    (findL a b nets (keptL a b nets n k).1).2.2 = true ∧ (findL a b nets (keptL a b nets n k).1).1 = n ∧ (keepL a b nets (keptL a b nets n k).1).2 = true ∧ (keepL a b nets (keptL a b nets n k).1).1.toList = k.toList ∧ (keptL a b nets n k).1 ≠ a := by
  obtain ⟨hF, hP, hU⟩ := check_zero h
  have hF2 := (spots_all (F := FairS)).2 hF.2.2.2.2.2.2
  have hP2 := (spots_all (F := PlaceS a)).2 hP
  generalize hv : keptL a b nets n k = v at *
  unfold keptL rightL at hv
  rw [if_pos h] at hv
  cases c : (spotsL nets).findSome? (fun y => if y.f0 = n then keptG k y.f2 else none) with
  | none => rw [c] at hv; subst hv; cases hk
  | some u =>
    rw [c] at hv
    have hv : u = v := hv
    subst hv
    obtain ⟨u1, u2⟩ := u
    have hk : u2 = true := hk
    subst hk
    obtain ⟨y, hy, hn, i, hi, h1, h2⟩ := kept_of c
    have h2 : y.f2.f3[i].f1 = u1 := h2
    subst h2
    have pl := (hP2 y hy).2.1 i hi
    have hh := in_has (hF2 y hy) pl.1
    have e := find_of hU hy hh
    have eF : findL a b nets y.f2.f3[i].f1 = (y.f0, y.f1, true) := by unfold findL rightL; rw [if_pos h, e]; rfl
    have eK : ∃ v, (spotsL nets).findSome? (fun z => keepG y.f2.f3[i].f1 z.f2) = some v := by
      cases c2 : (spotsL nets).findSome? (fun z => keepG y.f2.f3[i].f1 z.f2) with
      | some v => exact ⟨v, rfl⟩
      | none =>
        have h3 := List.findSome?_eq_none_iff.1 c2 y hy
        have h4 := List.findSome?_eq_none_iff.1 h3 _ (List.getElem_mem hi)
        rw [if_pos rfl] at h4
        cases h4
    obtain ⟨v, hv⟩ := eK
    obtain ⟨z, hz, j, hj, h3, h4⟩ := keep_of hv
    have eL : keepL a b nets y.f2.f3[i].f1 = v := by unfold keepL rightL; rw [if_pos h, hv]; rfl
    refine ⟨by rw [eF], by rw [eF]; exact hn, by rw [eL, h4], ?_, pl.2⟩
    rw [eL, h4]
    rw [← keep_uniq hU hy hz hi hj h3.symm]
    exact h1
end Go.Proofs.Ytdcabfonjmeajaa.PAlloc
set_option linter.unusedVariables false
set_option linter.unusedSimpArgs false
namespace Go.Proofs.Ytdcabfonjmeajaa.PAlloc
open Go.RowKit Go.Proofs.YtdcabfonjmeajaaW.PrintWords Go.Proofs.YtdcabfonjmeajaaW.PrintLast Go.Proofs.YtdcabfonjmeajaaW.PrintMore

theorem Ev.ite' {α : Type} {c : Prop} [Decidable c] {f g : Nat → Option α} {r : α} (h1 : c → Ev f r) (h2 : ¬ c → Ev g r) : Ev (fun k => if c then f k else g k) r := by
  by_cases h : c
  · exact Ev.pos h (h1 h)
  · exact Ev.neg h (h2 h)
theorem beqD {α : Type} [BEq α] [LawfulBEq α] [DecidableEq α] (a b : α) : (a == b) = decide (a = b) := by rw [Bool.eq_iff_iff]; simp
theorem Ev.ret {α : Type} {x r : α} (h : x = r) : Ev (fun _ => some x) r := h ▸ Ev.now x
/-- A loop over a list that may end early: a fold from its end. -/
theorem loopR {α β : Type} (l : List α) (g : α → β → β) {L : Nat → Int → Option β} {r0 : β}
    (hs : ∀ i, (hi : i < l.length) → ∀ r, Ev (fun k => L k ((i + 1 : Nat) : Int)) r → Ev (fun k => L k (i : Int)) (g l[i] r))
    (he : Ev (fun k => L k (l.length : Int)) r0) : Ev (fun k => L k 0) (l.foldr g r0) := by
  have H : ∀ d i, i + d = l.length → Ev (fun k => L k (i : Int)) ((l.drop i).foldr g r0) := by
    intro d
    induction d with
    | zero =>
      intro i hi
      obtain rfl : i = l.length := by omega
      rw [List.drop_length]
      exact he
    | succ d ih =>
      intro i hi
      have hl : i < l.length := by omega
      rw [List.drop_eq_getElem_cons hl, List.foldr_cons]
      exact hs i hl _ (ih (i + 1) (by omega))
  exact H l.length 0 (by omega)
/-- A loop over a list that keeps a state: a fold from its beginning. -/
theorem loopL {α β σ : Type} (l : List α) (f : σ → α → σ) (P : Nat → σ → Prop) {L : Nat → Int → σ → Option β} {s : σ} {r : β} (h0 : P 0 s)
    (hP : ∀ i, (hi : i < l.length) → ∀ s, P i s → P (i + 1) (f s l[i]))
    (hs : ∀ i, (hi : i < l.length) → ∀ s, P i s → Ev (fun k => L k ((i + 1 : Nat) : Int) (f s l[i])) r → Ev (fun k => L k (i : Int) s) r)
    (he : P l.length (l.foldl f s) → Ev (fun k => L k (l.length : Int) (l.foldl f s)) r) : Ev (fun k => L k 0 s) r := by
  have H : ∀ d i s', i + d = l.length → P i s' → (l.drop i).foldl f s' = l.foldl f s → Ev (fun k => L k (i : Int) s') r := by
    intro d
    induction d with
    | zero =>
      intro i s' hi hp hf
      obtain rfl : i = l.length := by omega
      rw [List.drop_length] at hf
      obtain rfl : s' = l.foldl f s := hf
      exact he hp
    | succ d ih =>
      intro i s' hi hp hf
      have hl : i < l.length := by omega
      rw [List.drop_eq_getElem_cons hl, List.foldl_cons] at hf
      exact hs i hl s' hp (ih (i + 1) _ (by omega) (hP i hl s' hp) hf)
  exact H l.length 0 s (by omega) h0 rfl

/-- May anything be had? -/
noncomputable def fairA (a b : Int) (nets : List Nt) (t : List Le) (n : Int) (key : ByteArray) : Bool := decide (checkI a b nets = 0) && (decide (Tab t) && (keyB key && decide (0 ≤ n ∧ n < (nets.length : Int))))
theorem fairA_iff {a b : Int} {nets : List Nt} {t : List Le} {n : Int} {key : ByteArray} : fairA a b nets t n key = true ↔ checkI a b nets = 0 ∧ Tab t ∧ keyB key = true ∧ 0 ≤ n ∧ n < (nets.length : Int) := by
  unfold fairA; simp [and_assoc]
noncomputable def inA (a b : Int) (nets : List Nt) (n x : Int) : Bool := (findL a b nets x).2.2 && decide ((findL a b nets x).1 = n)
noncomputable def mineA (a b : Int) (nets : List Nt) (n : Int) (key : ByteArray) (x : Int) : Bool := (keptL a b nets n key).2 && decide ((keptL a b nets n key).1 = x)
noncomputable def poolA (a b : Int) (nets : List Nt) (n : Int) (key : ByteArray) (x : Int) : Bool := poolL a b nets n x && (!(keepL a b nets x).2 || decide ((keepL a b nets x).1.toList = key.toList))
/-- Does another lease of the client hold in the network? -/
noncomputable def othP (a b : Int) (nets : List Nt) (n x now : Int) (l : Le) : Bool := !decide (l.f0 = x) && (holdsB l now && inA a b nets n l.f0)
noncomputable def otherA (a b : Int) (nets : List Nt) (t : List Le) (n : Int) (key : ByteArray) (x now : Int) : Bool := (ofL t key).any (othP a b nets n x now)
noncomputable def mayA (a b : Int) (nets : List Nt) (t : List Le) (n : Int) (key : ByteArray) (x now : Int) : Bool :=
  fairA a b nets t n key && ((mineA a b nets n key x || poolA a b nets n key x) && (!otherA a b nets t n key x now && freeB t x key now))
/-- The addresses of a client's leases that hold in the network, and of the others there. -/
noncomputable def heldA (a b : Int) (nets : List Nt) (t : List Le) (n : Int) (key : ByteArray) (now : Int) : List Int := ((ofL t key).filter (fun l => inA a b nets n l.f0 && holdsB l now)).map (·.f0)
noncomputable def oldA (a b : Int) (nets : List Nt) (t : List Le) (n : Int) (key : ByteArray) (now : Int) : List Int := ((ofL t key).filter (fun l => inA a b nets n l.f0 && !holdsB l now)).map (·.f0)
def rangeL (lo hi : Int) : List Int := (List.range (hi + 1 - lo).toNat).map (fun i : Nat => lo + (i : Int))
theorem rangeL_nil {lo hi : Int} (h : ¬ lo ≤ hi) : rangeL lo hi = [] := by unfold rangeL; rw [show (hi + 1 - lo).toNat = 0 by omega]; rfl
theorem rangeL_cons {lo hi : Int} (h : lo ≤ hi) : rangeL lo hi = lo :: rangeL (lo + 1) hi := by
  unfold rangeL
  rw [show (hi + 1 - lo).toNat = (hi + 1 - (lo + 1)).toNat + 1 by omega, List.range_succ_eq_map, List.map_cons, List.map_map]
  congr 1
  · simp
  · refine List.map_congr_left fun i _ => ?_
    simp only [Function.comp]
    omega
theorem mem_rangeL {lo hi x : Int} : x ∈ rangeL lo hi ↔ lo ≤ x ∧ x ≤ hi := by
  unfold rangeL
  rw [List.mem_map]
  constructor
  · rintro ⟨i, hi2, rfl⟩
    rw [List.mem_range] at hi2
    omega
  · intro h
    exact ⟨(x - lo).toNat, List.mem_range.2 (by omega), by omega⟩
def subsA (nets : List Nt) (n : Int) : List Sb := (nets.getD n.toNat ⟨[]⟩).f0
def poolsA (nets : List Nt) (n : Int) : List Int := (subsA nets n).flatMap (fun s => s.f2.flatMap (fun p => rangeL p.f0 p.f1))
def ansA (o : Option Int) : Int × Bool := match o with | some x => (x, true) | none => (0, false)
/-- The first address of a list of which something holds, or what else. -/
def seekA (p : Int → Bool) (l : List Int) (r : Int × Bool) : Int × Bool := l.foldr (fun x r => if p x = true then (x, true) else r) r
theorem seekA_nil (p : Int → Bool) (r : Int × Bool) : seekA p [] r = r := rfl
theorem seekA_cons (p : Int → Bool) (x : Int) (l : List Int) (r : Int × Bool) : seekA p (x :: l) r = if p x = true then (x, true) else seekA p l r := rfl
theorem seekA_append (p : Int → Bool) (l m : List Int) (r : Int × Bool) : seekA p (l ++ m) r = seekA p l (seekA p m r) := by unfold seekA; rw [List.foldr_append]
theorem seekA_flat {α : Type} (p : Int → Bool) (g : α → List Int) : ∀ (l : List α) (r : Int × Bool), l.foldr (fun s r => seekA p (g s) r) r = seekA p (l.flatMap g) r
  | [], r => rfl
  | s :: l, r => by rw [List.foldr_cons, seekA_flat p g l r, List.flatMap_cons, seekA_append]
theorem seekA_find (p : Int → Bool) : ∀ l : List Int, seekA p l (0, false) = ansA (l.find? p)
  | [] => rfl
  | x :: l => by
    rw [seekA_cons, seekA_find p l, List.find?_cons]
    cases p x <;> rfl
theorem seekA_else (p : Int → Bool) (l : List Int) (r : Int × Bool) : seekA p l r = (match l.find? p with | some x => (x, true) | none => r) := by
  induction l with
  | nil => rfl
  | cons x l ih =>
    rw [seekA_cons, ih, List.find?_cons]
    cases p x <;> rfl
noncomputable def keptA (a b : Int) (nets : List Nt) (n : Int) (key : ByteArray) : List Int := if (keptL a b nets n key).2 = true then [(keptL a b nets n key).1] else []
/-- The addresses that are tried, in their order. -/
noncomputable def tryA (a b : Int) (nets : List Nt) (t : List Le) (n : Int) (key : ByteArray) (want now : Int) : List Int :=
  if heldA a b nets t n key now = [] then keptA a b nets n key ++ (oldA a b nets t n key now ++ (want :: poolsA nets n)) else heldA a b nets t n key now
noncomputable def chooseA (a b : Int) (nets : List Nt) (t : List Le) (n : Int) (key : ByteArray) (want now : Int) : Option Int :=
  if fairA a b nets t n key = true then (tryA a b nets t n key want now).find? (fun x => mayA a b nets t n key x now) else none
theorem range_loop {β : Type} {L : Nat → Int → Option β} {hi : Int} (g : Int → β → β) {r0 : β} {lo : Int} (hs : ∀ x, lo ≤ x → x ≤ hi → ∀ r, Ev (fun k => L k (x + 1)) r → Ev (fun k => L k x) (g x r)) (he : ∀ x, hi < x → Ev (fun k => L k x) r0) : Ev (fun k => L k lo) ((rangeL lo hi).foldr g r0) := by
  have H : ∀ (d : Nat) (x : Int), lo ≤ x → (hi + 1 - x).toNat = d → Ev (fun k => L k x) ((rangeL x hi).foldr g r0) := by
    intro d
    induction d with
    | zero =>
      intro x hx hd
      rw [rangeL_nil (by omega)]
      exact he x (by omega)
    | succ d ih =>
      intro x hx hd
      rw [rangeL_cons (by omega), List.foldr_cons]
      exact hs x hx (by omega) _ (ih (x + 1) (by omega) (by omega))
  exact H _ lo (Int.le_refl _) rfl
/-- A loop over a list that may end early, with a state. -/
theorem loopRS {α β σ : Type} (l : List α) (g : α → (σ → β) → σ → β) {L : Nat → Int → σ → Option β} {r0 : σ → β}
    (hs : ∀ i, (hi : i < l.length) → ∀ r : σ → β, (∀ s, Ev (fun k => L k ((i + 1 : Nat) : Int) s) (r s)) → ∀ s, Ev (fun k => L k (i : Int) s) (g l[i] r s))
    (he : ∀ s, Ev (fun k => L k (l.length : Int) s) (r0 s)) (s : σ) : Ev (fun k => L k 0 s) (l.foldr g r0 s) := by
  have H : ∀ d i, i + d = l.length → ∀ s, Ev (fun k => L k (i : Int) s) ((l.drop i).foldr g r0 s) := by
    intro d
    induction d with
    | zero =>
      intro i hi s
      obtain rfl : i = l.length := by omega
      rw [List.drop_length]
      exact he s
    | succ d ih =>
      intro i hi s
      have hl : i < l.length := by omega
      rw [List.drop_eq_getElem_cons hl, List.foldr_cons]
      exact hs i hl _ (ih (i + 1) (by omega)) s
  exact H l.length 0 (by omega) s
theorem seekA_two (p : Int → Bool) (l m : List Int) : seekA p (l ++ m) (0, false) = if (seekA p l (0, false)).2 = true then ((seekA p l (0, false)).1, true) else seekA p m (0, false) := by
  rw [seekA_append, seekA_else p l, seekA_else p l]
  cases l.find? p <;> simp
theorem pool_bounds {a b : Int} {nets : List Nt} (h : checkI a b nets = 0) {n : Int} {s : Sb} (hs : s ∈ subsA nets n) {p : Rg} (hp : p ∈ s.f2) : 0 ≤ p.f0 ∧ p.f1 ≤ 4294967296 := by
  obtain ⟨hF, hP, hU⟩ := check_zero h
  have hn : n.toNat < nets.length := by
    rcases Nat.lt_or_ge n.toNat nets.length with h1 | h1
    · exact h1
    · unfold subsA at hs
      rw [List.getD_eq_getElem?_getD, List.getElem?_eq_none h1] at hs
      simp at hs
  have hm : nets[n.toNat] ∈ nets := List.getElem_mem hn
  have hs2 : s ∈ (nets[n.toNat]).f0 := by
    unfold subsA at hs
    rwa [List.getD_eq_getElem?_getD, List.getElem?_eq_getElem hn] at hs
  have h1 := hF.2.2.2.2.2.2 _ hm s hs2
  obtain ⟨i, hi, rfl⟩ := List.mem_iff_getElem.1 hp
  have h2 := (hP _ hm s hs2).1 i hi
  have h3 := Com.fair_end _ _ h1.1
  have h4 := (Com.fairB_iff _ _).1 h1.1
  have := h2.1.1
  have := h2.2.1.2
  exact ⟨by omega, by omega⟩
theorem subsA_sm {nets : List Nt} (h : Sm nets) (n : Int) : (subsA nets n).length ≤ 10 ∧ ∀ s ∈ subsA nets n, SmS s := by
  unfold subsA
  by_cases hn : n.toNat < nets.length
  · rw [List.getD_eq_getElem?_getD, List.getElem?_eq_getElem hn]
    exact h.2 _ (List.getElem_mem hn)
  · rw [List.getD_eq_getElem?_getD, List.getElem?_eq_none (by omega)]
    exact ⟨by simp, fun s hs => by simp at hs⟩
theorem held_fold (a b : Int) (nets : List Nt) (n now : Int) : ∀ (l : List Le) (s : List Int × List Int),
    l.foldl (fun s l => if inA a b nets n l.f0 = true then (if holdsB l now = true then (s.1 ++ [l.f0], s.2) else (s.1, s.2 ++ [l.f0])) else s) s
      = (s.1 ++ (l.filter (fun l => inA a b nets n l.f0 && holdsB l now)).map (·.f0), s.2 ++ (l.filter (fun l => inA a b nets n l.f0 && !holdsB l now)).map (·.f0))
  | [], s => by simp
  | x :: l, s => by
    rw [List.foldl_cons, held_fold a b nets n now l]
    by_cases c1 : inA a b nets n x.f0 = true <;> by_cases c2 : holdsB x now = true <;> simp [c1, c2]
theorem heldR (p : Int → Bool) (P : Le → Bool) (R : Int × Bool) : ∀ (l : List Le) (s : Bool),
    l.foldr (fun l (r : Bool → Int × Bool) s => if P l = true then (if p l.f0 = true then (l.f0, true) else r true) else r s) (fun s => if s = true then (0, false) else R) s
      = seekA p ((l.filter P).map (·.f0)) (if s = true ∨ l.filter P ≠ [] then (0, false) else R)
  | [], s => by simp [seekA]
  | x :: l, s => by
    rw [List.foldr_cons]
    by_cases c : P x = true
    · rw [if_pos c, heldR p P R l true, List.filter_cons_of_pos c, List.map_cons, seekA_cons]
      simp
    · rw [if_neg c, heldR p P R l s, List.filter_cons_of_neg c]
theorem seekF (p : Int → Bool) (P : Le → Bool) (R : Int × Bool) : ∀ l : List Le,
    l.foldr (fun l r => if P l = true then (if p l.f0 = true then (l.f0, true) else r) else r) R = seekA p ((l.filter P).map (·.f0)) R
  | [] => rfl
  | x :: l => by
    rw [List.foldr_cons, seekF p P R l]
    by_cases c : P x = true
    · rw [if_pos c, List.filter_cons_of_pos c, List.map_cons, seekA_cons]
    · rw [if_neg c, List.filter_cons_of_neg c]
theorem choose_seek {a b : Int} {nets : List Nt} {t : List Le} {n : Int} {key : ByteArray} {want now : Int} (h : fairA a b nets t n key = true) :
    ansA (chooseA a b nets t n key want now) = seekA (fun x => mayA a b nets t n key x now) (tryA a b nets t n key want now) (0, false) := by
  unfold chooseA
  rw [if_pos h, seekA_find]

section
variable {a b : Int} {nets : List Nt} {t : List Le} {n : Int} {key : ByteArray} {x want now : Int}
theorem may_fair (h : mayA a b nets t n key x now = true) : fairA a b nets t n key = true := by unfold mayA at h; simp at h; exact h.1
theorem may_free (h : mayA a b nets t n key x now = true) : freeB t x key now = true := by unfold mayA at h; simp at h; exact h.2.2.2
theorem may_other (h : mayA a b nets t n key x now = true) : ∀ l ∈ ofL t key, holdsB l now = true → inA a b nets n l.f0 = true → l.f0 = x := by
  unfold mayA otherA at h
  simp only [Bool.and_eq_true, Bool.not_eq_true'] at h
  intro l hl h1 h2
  have := List.any_eq_false.1 h.2.2.1 l hl
  unfold othP at this
  simpa [h1, h2] using this
theorem may_way (h : mayA a b nets t n key x now = true) : mineA a b nets n key x = true ∨ poolA a b nets n key x = true := by unfold mayA at h; simp at h; exact h.2.1
theorem may_in (h : mayA a b nets t n key x now = true) : inA a b nets n x = true ∧ x ≠ a := by
  have hc := (fairA_iff.1 (may_fair h)).1
  rcases may_way h with h1 | h1
  · unfold mineA at h1
    rw [Bool.and_eq_true, decide_eq_true_iff] at h1
    obtain ⟨p, q, _, _, r⟩ := one_kept hc h1.1
    rw [h1.2] at p q r
    exact ⟨by unfold inA; rw [p, decide_eq_true q]; rfl, r⟩
  · unfold poolA at h1
    rw [Bool.and_eq_true] at h1
    obtain ⟨p, q, _, r⟩ := one_pool hc h1.1
    exact ⟨by unfold inA; rw [p, decide_eq_true q]; rfl, r⟩
theorem may_keep (h : mayA a b nets t n key x now = true) (hk : (keepL a b nets x).2 = true) : (keepL a b nets x).1.toList = key.toList := by
  have hc := (fairA_iff.1 (may_fair h)).1
  rcases may_way h with h1 | h1
  · unfold mineA at h1
    rw [Bool.and_eq_true, decide_eq_true_iff] at h1
    have := (one_kept hc h1.1).2.2.2.1
    rw [h1.2] at this
    exact this
  · unfold poolA at h1
    rw [hk] at h1
    simp at h1
    exact h1.2
theorem pool_mem (hc : checkI a b nets = 0) (h : poolL a b nets n x = true) : x ∈ poolsA nets n := by
  unfold poolL rightL at h
  rw [if_pos hc, show spotsL nets = spotsFrom 0 nets from rfl, spots_find n (poolG x) nets 0] at h
  split at h
  · rename_i hn
    have e : ((nets.getD (n - ((0 : Nat) : Int)).toNat ⟨[]⟩).f0) = subsA nets n := by unfold subsA; simp
    rw [e] at h
    cases c : (subsA nets n).findSome? (poolG x) with
    | none => rw [c] at h; cases h
    | some v =>
      obtain ⟨s, hs, hv⟩ := List.exists_of_findSome?_eq_some c
      obtain ⟨p, hp, hv⟩ := List.exists_of_findSome?_eq_some hv
      split at hv
      · rename_i hr
        exact List.mem_flatMap.2 ⟨s, hs, List.mem_flatMap.2 ⟨p, hp, mem_rangeL.2 hr⟩⟩
      · cases hv
  · cases h
theorem held_mem {y : Int} : y ∈ heldA a b nets t n key now ↔ ∃ l ∈ ofL t key, holdsB l now = true ∧ inA a b nets n l.f0 = true ∧ l.f0 = y := by
  unfold heldA
  rw [List.mem_map]
  constructor
  · rintro ⟨l, hl, rfl⟩
    rw [List.mem_filter, Bool.and_eq_true] at hl
    exact ⟨l, hl.1, hl.2.2, hl.2.1, rfl⟩
  · rintro ⟨l, h1, h2, h3, rfl⟩
    exact ⟨l, List.mem_filter.2 ⟨h1, by rw [h2, h3]; rfl⟩, rfl⟩
theorem choose_some (h : chooseA a b nets t n key want now = some x) : mayA a b nets t n key x now = true ∧ x ∈ tryA a b nets t n key want now := by
  unfold chooseA at h
  split at h
  · exact ⟨List.find?_some (p := fun x => mayA a b nets t n key x now) h, List.mem_of_find?_eq_some h⟩
  · cases h
theorem some_of_may (h : mayA a b nets t n key x now = true) (want : Int) : ∃ y, chooseA a b nets t n key want now = some y := by
  have hf := may_fair h
  have hc := (fairA_iff.1 hf).1
  have hm : x ∈ tryA a b nets t n key want now := by
    unfold tryA
    split
    · rcases may_way h with h1 | h1
      · unfold mineA at h1
        rw [Bool.and_eq_true, decide_eq_true_iff] at h1
        refine List.mem_append_left _ ?_
        unfold keptA
        rw [if_pos h1.1, h1.2]
        exact List.mem_singleton.2 rfl
      · unfold poolA at h1
        rw [Bool.and_eq_true] at h1
        exact List.mem_append_right _ (List.mem_append_right _ (List.mem_cons_of_mem _ (pool_mem hc h1.1)))
    · rename_i hne
      obtain ⟨y, hy⟩ := List.exists_mem_of_ne_nil _ hne
      obtain ⟨l, h1, h2, h3, rfl⟩ := held_mem.1 hy
      have := may_other h l h1 h2 h3
      rw [← this]; exact hy
  unfold chooseA
  rw [if_pos hf]
  cases c : (tryA a b nets t n key want now).find? (fun x => mayA a b nets t n key x now) with
  | some y => exact ⟨y, rfl⟩
  | none => exact absurd h (by simpa using List.find?_eq_none.1 c x hm)
/-- Of addresses that hold, one alone may be had: if there is no other. -/
theorem held_one (hT : Tab t) (h : mayA a b nets t n key x now = true) (hx : x ∈ heldA a b nets t n key now) : heldA a b nets t n key now = [x] := by
  have hp : (heldA a b nets t n key now).Pairwise (· < ·) := by
    unfold heldA ofL
    rw [List.pairwise_map]
    exact ((hT.2.2.filter _).filter _)
  have ha : ∀ y ∈ heldA a b nets t n key now, y = x := fun y hy => by
    obtain ⟨l, h1, h2, h3, rfl⟩ := held_mem.1 hy
    exact may_other h l h1 h2 h3
  generalize heldA a b nets t n key now = l at hp ha hx
  match l, hp, ha, hx with
  | [y], _, ha, _ => rw [ha y List.mem_cons_self]
  | y :: z :: l, hp, ha, _ =>
    have h1 := ha y List.mem_cons_self
    have h2 := ha z (List.mem_cons_of_mem _ List.mem_cons_self)
    have := (List.pairwise_cons.1 hp).1 z List.mem_cons_self
    omega
end
end Go.Proofs.Ytdcabfonjmeajaa.PAlloc
set_option linter.unusedVariables false
set_option linter.unusedSimpArgs false
namespace Go.Proofs.Ytdcabfonjmeajaa.PAlloc
open Go.RowKit Go.Proofs.YtdcabfonjmeajaaW.PrintWords Go.Proofs.YtdcabfonjmeajaaW.PrintLast Go.Proofs.YtdcabfonjmeajaaW.PrintMore

/-! ### boarderlaw13.Great -/
theorem boarderlaw13_Great_l2 (a b : Int) (nets : List Nt) (m j : Nat) (hj : j ≤ 1000) (s : Sb) (h20 : s.f3.length ≤ 20) {r : Bool} (h1 : (∀ r ∈ s.f3, r.f0.size ≤ 1000) → Ev (fun k => boarderlaw13_Great.l1 k (m : Int) ((j + 1 : Nat) : Int) a b nets) r) (h2 : (¬ ∀ r ∈ s.f3, r.f0.size ≤ 1000) → r = true) :
    Ev (fun k => boarderlaw13_Great.l2 k (m : Int) (j : Int) 0 a b nets s.f0 s.f1 s.f2 s.f3 s.f4 s.f5 s.f6) r := by
  have hw : wrap64 ((j : Int) + 1) = ((j + 1 : Nat) : Int) := by unfold wrap64; omega
  refine loopC (n := s.f3.length) (L := fun k i => boarderlaw13_Great.l2 k (m : Int) (j : Int) i a b nets s.f0 s.f1 s.f2 s.f3 s.f4 s.f5 s.f6) (fun i => ∃ h : i < s.f3.length, s.f3[i].f0.size ≤ 1000) true (fun i hi hp r h3 => ?_) (fun i hi hp => ?_) (fun h3 => ?_) (fun h3 => ?_)
  · obtain ⟨_, hp⟩ := hp
    refine Ev.step (fun k => ?_) h3
    show boarderlaw13_Great.l2 (k + 1) _ _ _ _ _ _ _ _ _ _ _ _ _ = _
    rw [boarderlaw13_Great.l2, if_pos (by omega), if_pos (by omega), show rd_T59 s.f3 (i : Int) = s.f3[i] from rd_get hi, if_neg (by omega), wrap_next hi (by omega)]
  · have h4 : ¬ s.f3[i].f0.size ≤ 1000 := fun h => hp ⟨hi, h⟩
    refine Ev.step (f := fun _ => some true) (fun k => ?_) Ev.some'
    show boarderlaw13_Great.l2 (k + 1) _ _ _ _ _ _ _ _ _ _ _ _ _ = _
    rw [boarderlaw13_Great.l2, if_pos (by omega), if_pos (by omega), show rd_T59 s.f3 (i : Int) = s.f3[i] from rd_get hi, if_pos (by omega)]
  · refine Ev.step (fun k => ?_) (h1 (fun r hr => by obtain ⟨i, hi, rfl⟩ := List.mem_iff_getElem.1 hr; exact (h3 i hi).2))
    show boarderlaw13_Great.l2 (k + 1) _ _ _ _ _ _ _ _ _ _ _ _ _ = _
    rw [boarderlaw13_Great.l2, if_neg (by omega), hw]
  · obtain ⟨i, hi, hp⟩ := h3
    exact h2 (fun h => hp ⟨hi, h _ (List.getElem_mem hi)⟩)
theorem boarderlaw13_Great_j2 (a b : Int) (nets : List Nt) (m j : Nat) (hj : j ≤ 1000) (s : Sb) (x : Bool) {r : Bool} (hx : x = true → ¬ SmS s) (hx2 : x = false → s.f2.length ≤ 20 ∧ s.f3.length ≤ 20) (h1 : SmS s → Ev (fun k => boarderlaw13_Great.l1 k (m : Int) ((j + 1 : Nat) : Int) a b nets) r) (h2 : ¬ SmS s → r = true) :
    Ev (fun k => boarderlaw13_Great.j2 k (m : Int) (j : Int) x a b nets s.f0 s.f1 s.f2 s.f3 s.f4 s.f5 s.f6) r := by
  cases x with
  | true =>
    rw [h2 (hx rfl)]
    exact Ev.step (f := fun _ => some true) (fun k => by show boarderlaw13_Great.j2 (k + 1) _ _ _ _ _ _ _ _ _ _ _ _ _ = _; rw [boarderlaw13_Great.j2, if_pos rfl]) Ev.some'
  | false =>
    obtain ⟨e1, e2⟩ := hx2 rfl
    exact Ev.step (fun k => by show boarderlaw13_Great.j2 (k + 1) _ _ _ _ _ _ _ _ _ _ _ _ _ = _; rw [boarderlaw13_Great.j2, if_neg (by simp)]) (boarderlaw13_Great_l2 a b nets m j hj s e2 (fun h => h1 ⟨e1, e2, h⟩) (fun h => h2 (fun h3 => h h3.2.2)))
theorem boarderlaw13_Great_l1 (a b : Int) (nets : List Nt) (m : Nat) (hm : m < nets.length) (hn : nets.length ≤ 10) (h10 : nets[m].f0.length ≤ 10) {r : Bool} (h1 : (∀ s ∈ nets[m].f0, SmS s) → Ev (fun k => boarderlaw13_Great.l0 k ((m + 1 : Nat) : Int) a b nets) r) (h2 : (¬ ∀ s ∈ nets[m].f0, SmS s) → r = true) :
    Ev (fun k => boarderlaw13_Great.l1 k (m : Int) 0 a b nets) r := by
  have eN : rd_T41 nets (m : Int) = nets[m] := rd_get hm
  have E : ∀ i (hi : i < nets[m].f0.length) (r : Bool), (SmS nets[m].f0[i] → Ev (fun k => boarderlaw13_Great.l1 k (m : Int) ((i + 1 : Nat) : Int) a b nets) r) → (¬ SmS nets[m].f0[i] → r = true) → Ev (fun k => boarderlaw13_Great.l1 k (m : Int) (i : Int) a b nets) r := by
    intro i hi r h3 h4
    refine Ev.step (f := fun k => if ((nets[m].f0[i].f2).length : Int) > 20 then boarderlaw13_Great.j2 k (m : Int) (i : Int) true a b nets nets[m].f0[i].f0 nets[m].f0[i].f1 nets[m].f0[i].f2 nets[m].f0[i].f3 nets[m].f0[i].f4 nets[m].f0[i].f5 nets[m].f0[i].f6 else boarderlaw13_Great.j2 k (m : Int) (i : Int) (decide (((nets[m].f0[i].f3).length : Int) > 20)) a b nets nets[m].f0[i].f0 nets[m].f0[i].f1 nets[m].f0[i].f2 nets[m].f0[i].f3 nets[m].f0[i].f4 nets[m].f0[i].f5 nets[m].f0[i].f6) (fun k => ?_) ?_
    · show boarderlaw13_Great.l1 (k + 1) _ _ _ _ _ = _
      rw [boarderlaw13_Great.l1, if_pos (by omega), if_pos (by omega), eN, if_pos (by omega), if_pos (by omega), show rd_T57 nets[m].f0 (i : Int) = nets[m].f0[i] from rd_get hi]
    · by_cases c : ((nets[m].f0[i].f2).length : Int) > 20
      · exact Ev.pos c (boarderlaw13_Great_j2 a b nets m i (by omega) nets[m].f0[i] true (fun _ h => by have := h.1; omega) (fun h => by cases h) h3 h4)
      · refine Ev.neg c (boarderlaw13_Great_j2 a b nets m i (by omega) nets[m].f0[i] _ (fun h h5 => ?_) (fun h => ?_) h3 h4)
        · have := of_decide_eq_true h; have := h5.2.1; omega
        · have := of_decide_eq_false h; omega
  refine loopC (n := nets[m].f0.length) (L := fun k i => boarderlaw13_Great.l1 k (m : Int) i a b nets) (fun i => ∃ h : i < nets[m].f0.length, SmS nets[m].f0[i]) true (fun i hi hp r h3 => ?_) (fun i hi hp => ?_) (fun h3 => ?_) (fun h3 => ?_)
  · exact E i hi r (fun _ => h3) (fun h => absurd hp.2 h)
  · exact E i hi true (fun h => absurd ⟨hi, h⟩ hp) (fun _ => rfl)
  · refine Ev.step (fun k => ?_) (h1 (fun s hs => by obtain ⟨i, hi, rfl⟩ := List.mem_iff_getElem.1 hs; exact (h3 i hi).2))
    show boarderlaw13_Great.l1 (k + 1) _ _ _ _ _ = _
    rw [boarderlaw13_Great.l1, if_pos (by omega), if_pos (by omega), eN, if_neg (by omega), wrap_next hm (by omega)]
  · obtain ⟨i, hi, hp⟩ := h3
    exact h2 (fun h => hp ⟨hi, h _ (List.getElem_mem hi)⟩)
open Classical in
theorem boarderlaw13_Great_s (a b : Int) (nets : List Nt) : Ev (fun k => boarderlaw13_Great.f k a b nets) (decide (¬ Sm nets)) := by
  unfold boarderlaw13_Great.f
  by_cases c : (nets.length : Int) > 10
  · rw [show decide (¬ Sm nets) = true from decide_eq_true_iff.2 (fun h => by have := h.1; omega)]
    exact Ev.pos c Ev.some'
  · refine Ev.neg c ?_
    have hn : nets.length ≤ 10 := by omega
    have E : ∀ i (hi : i < nets.length) (r : Bool), ((nets[i].f0.length ≤ 10 ∧ ∀ s ∈ nets[i].f0, SmS s) → Ev (fun k => boarderlaw13_Great.l0 k ((i + 1 : Nat) : Int) a b nets) r) → ((¬ (nets[i].f0.length ≤ 10 ∧ ∀ s ∈ nets[i].f0, SmS s)) → r = true) → Ev (fun k => boarderlaw13_Great.l0 k (i : Int) a b nets) r := by
      intro i hi r h3 h4
      refine Ev.step (f := fun k => if (nets[i].f0.length : Int) > 10 then some true else boarderlaw13_Great.l1 k (i : Int) 0 a b nets) (fun k => ?_) ?_
      · show boarderlaw13_Great.l0 (k + 1) _ _ _ _ = _
        rw [boarderlaw13_Great.l0, if_pos (by omega), if_pos (by omega), show rd_T41 nets (i : Int) = nets[i] from rd_get hi]
      · by_cases c1 : (nets[i].f0.length : Int) > 10
        · rw [h4 (fun h => by have := h.1; omega)]; exact Ev.pos c1 Ev.some'
        · exact Ev.neg c1 (boarderlaw13_Great_l1 a b nets i hi hn (by omega) (fun h => h3 ⟨by omega, h⟩) (fun h => h4 (fun h5 => h h5.2)))
    refine loopC (n := nets.length) (L := fun k i => boarderlaw13_Great.l0 k i a b nets) (fun i => ∃ h : i < nets.length, nets[i].f0.length ≤ 10 ∧ ∀ s ∈ nets[i].f0, SmS s) true (fun i hi hp r h3 => ?_) (fun i hi hp => ?_) (fun h3 => ?_) (fun h3 => ?_)
    · exact E i hi r (fun _ => h3) (fun h => absurd hp.2 h)
    · exact E i hi true (fun h => absurd ⟨hi, h⟩ hp) (fun _ => rfl)
    · rw [show decide (¬ Sm nets) = false from decide_eq_false_iff_not.2 (fun h => h ⟨hn, fun n hn' => by obtain ⟨i, hi, rfl⟩ := List.mem_iff_getElem.1 hn'; exact (h3 i hi).2⟩)]
      refine Ev.step (f := fun _ => some false) (fun k => ?_) Ev.some'
      show boarderlaw13_Great.l0 (k + 1) _ _ _ _ = _
      rw [boarderlaw13_Great.l0, if_neg (by omega)]
    · obtain ⟨i, hi, hp⟩ := h3
      exact decide_eq_true_iff.2 (fun h => hp ⟨hi, h.2 _ (List.getElem_mem hi)⟩)

end Go.Proofs.Ytdcabfonjmeajaa.PAlloc
set_option linter.unusedVariables false
set_option linter.unusedSimpArgs false
namespace Go.Proofs.Ytdcabfonjmeajaa.PAlloc
open Go.RowKit Go.Proofs.YtdcabfonjmeajaaW.PrintWords Go.Proofs.YtdcabfonjmeajaaW.PrintLast Go.Proofs.YtdcabfonjmeajaaW.PrintMore

/-! ### boarderlaw12.Great -/
/-- Is a table more than is looked at? -/
def greatB (t : List Le) : Bool := decide (∃ l ∈ t, 1000 < l.f3.size) || decide (200 < t.length)
open Classical in
theorem boarderlaw12_Great_l (t : List Le) (ht : t.length ≤ maxLen) (d : Nat) : ∀ (i : Nat) (k : Nat), i + d = t.length → d < k →
    boarderlaw12_Great.l0 k t i = some (decide (∃ j, i ≤ j ∧ j < t.length ∧ 1000 < (atL t j).f3.size) || decide (200 < t.length)) := by
  simp only [maxLen] at ht
  induction d with
  | zero =>
    intro i k hi hk
    obtain ⟨k, rfl⟩ : ∃ m, k = m + 1 := ⟨k - 1, by omega⟩
    rw [boarderlaw12_Great.l0, if_neg (by omega), decide_eq_false (p := ∃ j, i ≤ j ∧ j < t.length ∧ 1000 < (atL t j).f3.size) (by rintro ⟨j, h1, h2, _⟩; omega), Bool.false_or]
    congr 1; exact decide_eq_decide.2 ⟨fun h => by omega, fun h => by omega⟩
  | succ d ih =>
    intro i k hi hk
    obtain ⟨k, rfl⟩ : ∃ m, k = m + 1 := ⟨k - 1, by omega⟩
    rw [boarderlaw12_Great.l0, if_pos (by omega), if_pos (by omega), show rd_T47 t (i : Int) = atL t i from rfl]
    by_cases h : ((atL t i).f3.size : Int) > 1000
    · rw [if_pos h, decide_eq_true (p := ∃ j, i ≤ j ∧ j < t.length ∧ 1000 < (atL t j).f3.size) ⟨i, by omega, by omega, by omega⟩, Bool.true_or]
    · rw [if_neg h, show wrap64 ((i : Int) + 1) = ((i + 1 : Nat) : Int) from by unfold wrap64; omega, ih (i + 1) k (by omega) (by omega)]
      congr 2
      refine decide_eq_decide.2 ⟨?_, ?_⟩
      · rintro ⟨j, h1, h2, h3⟩; exact ⟨j, by omega, h2, h3⟩
      · rintro ⟨j, h1, h2, h3⟩
        rcases Nat.eq_or_lt_of_le h1 with c | c
        · subst c; omega
        · exact ⟨j, by omega, h2, h3⟩
theorem boarderlaw12_Great_s (t : List Le) (ht : t.length ≤ maxLen) (k : Nat) (hk : t.length < k) : boarderlaw12_Great.f k t = some (greatB t) := by
  have e := boarderlaw12_Great_l t ht t.length 0 k (by omega) hk
  unfold boarderlaw12_Great.f greatB
  rw [show boarderlaw12_Great.l0 k t 0 = boarderlaw12_Great.l0 k t ((0 : Nat) : Int) from rfl, e]
  congr 2
  refine decide_eq_decide.2 ⟨?_, ?_⟩
  · rintro ⟨j, _, h2, h3⟩; exact ⟨_, atL_mem h2, h3⟩
  · rintro ⟨l, hl, h⟩
    obtain ⟨j, hj, rfl⟩ := mem_atL hl
    exact ⟨j, by omega, hj, h⟩
/-- What isn't: at most 200 leases, of keys of at most 1000 bytes. -/
theorem greatB_not {t : List Le} (h : greatB t = false) : t.length ≤ 200 ∧ ∀ l ∈ t, l.f3.size ≤ 1000 := by
  unfold greatB at h
  rw [Bool.or_eq_false_iff, decide_eq_false_iff_not, decide_eq_false_iff_not] at h
  exact ⟨by omega, fun l hl => by
    rcases Nat.lt_or_ge 1000 l.f3.size with c | c
    · exact absurd ⟨l, hl, c⟩ h.1
    · exact c⟩
theorem small_of {t : List Le} (h : greatB t = false) : Small t := by
  obtain ⟨h1, h2⟩ := greatB_not h
  exact ⟨by omega, fun l hl => by have := h2 l hl; simp only [maxLen]; omega⟩
theorem goodL_len (t : List Le) : (goodL t).length ≤ t.length := by unfold goodL; split <;> simp

end Go.Proofs.Ytdcabfonjmeajaa.PAlloc
set_option linter.unusedVariables false
set_option linter.unusedSimpArgs false
namespace Go.Proofs.Ytdcabfonjmeajaa.PAlloc
open Go.RowKit Go.Proofs.YtdcabfonjmeajaaW.PrintWords Go.Proofs.YtdcabfonjmeajaaW.PrintLast Go.Proofs.YtdcabfonjmeajaaW.PrintMore

/-! ### boarderlaw15.Great -/
open Classical in
theorem boarderlaw15_Great_s (a b : Int) (nets : List Nt) (t : List Le) (ht : t.length ≤ maxLen) (key : ByteArray) : Ev (fun k => boarderlaw15_Great.f k a b nets t key) (decide (¬ Sm nets) || (greatB t || decide (1000 < key.size))) := by
  refine Ev.bind (boarderlaw13_Great_s a b nets) (Ev.ite' (fun c => Ev.ret (by rw [c]; rfl)) (fun c => ?_))
  refine Ev.bind (a := greatB t) ⟨t.length + 1, fun k hk => boarderlaw12_Great_s t ht k (by omega)⟩ (Ev.ite' (fun c2 => Ev.ret (by rw [c2]; simp)) (fun c2 => Ev.ret ?_))
  simp only [Bool.not_eq_true] at c c2
  rw [c, c2, Bool.false_or, Bool.false_or, decide_eq_decide]
  omega

end Go.Proofs.Ytdcabfonjmeajaa.PAlloc
set_option linter.unusedVariables false
set_option linter.unusedSimpArgs false
namespace Go.Proofs.Ytdcabfonjmeajaa.PAlloc
open Go.RowKit Go.Proofs.YtdcabfonjmeajaaW.PrintWords Go.Proofs.YtdcabfonjmeajaaW.PrintLast Go.Proofs.YtdcabfonjmeajaaW.PrintMore

/-! ### boarderlaw15.knows -/
theorem boarderlaw15_knows_s : Ev (fun k => boarderlaw15_knows.f k) true := Ev.of (k := 400) boarderlaw15_knows.mono (by kernel_rfl)
theorem knows15 : Ev (fun k => (boarderlaw15_knows.f k).bind fun t => some t) true := Ev.bind boarderlaw15_knows_s (Ev.ret rfl)
/-- What is great is told by the examples alone. -/
theorem great15 {a b : Int} {nets : List Nt} {t : List Le} {key : ByteArray} (ht : t.length ≤ maxLen) {F : Nat → Option Bool} (h : Sm nets → Small t → key.size ≤ 1000 → Ev F true) :
    Ev (fun k => (boarderlaw15_Great.f k a b nets t key).bind fun t1 => if t1 = true then ((boarderlaw15_knows.f k).bind fun t2 => some t2) else F k) true := by
  refine Ev.bind (boarderlaw15_Great_s a b nets t ht key) (Ev.ite' (fun _ => knows15) (fun c => ?_))
  rw [Bool.not_eq_true, Bool.or_eq_false_iff, Bool.or_eq_false_iff, decide_eq_false_iff_not, decide_eq_false_iff_not, Classical.not_not] at c
  exact h c.1 (small_of c.2.1) (by omega)

end Go.Proofs.Ytdcabfonjmeajaa.PAlloc
set_option linter.unusedVariables false
set_option linter.unusedSimpArgs false
namespace Go.Proofs.Ytdcabfonjmeajaa.PAlloc
open Go.RowKit Go.Proofs.YtdcabfonjmeajaaW.PrintWords Go.Proofs.YtdcabfonjmeajaaW.PrintLast Go.Proofs.YtdcabfonjmeajaaW.PrintMore

/-! ### addr.Right -/
theorem addr_Right_s (a : Int) : addr_Right.f a = some (decide (0 ≤ a ∧ a ≤ 4294967295)) := by
  unfold addr_Right.f
  by_cases h : a ≥ 0
  · rw [if_pos h]; congr 1; exact decide_eq_decide.2 ⟨fun h2 => ⟨h, h2⟩, fun h2 => h2.2⟩
  · rw [if_neg h, decide_eq_false (by omega)]

end Go.Proofs.Ytdcabfonjmeajaa.PAlloc
set_option linter.unusedVariables false
set_option linter.unusedSimpArgs false
namespace Go.Proofs.Ytdcabfonjmeajaa.PAlloc
open Go.RowKit Go.Proofs.YtdcabfonjmeajaaW.PrintWords Go.Proofs.YtdcabfonjmeajaaW.PrintLast Go.Proofs.YtdcabfonjmeajaaW.PrintMore

/-! ### conf.within -/
theorem conf_within_s (a b c : Int) : conf_within.f a b c = some (decide (b ≤ a ∧ a ≤ c)) := by
  unfold conf_within.f
  by_cases h : a ≥ b
  · rw [if_pos h]; congr 1; exact decide_eq_decide.2 ⟨fun h2 => ⟨h, h2⟩, fun h2 => h2.2⟩
  · rw [if_neg h, decide_eq_false (fun h2 => h h2.1)]

end Go.Proofs.Ytdcabfonjmeajaa.PAlloc
set_option linter.unusedVariables false
set_option linter.unusedSimpArgs false
namespace Go.Proofs.Ytdcabfonjmeajaa.PAlloc
open Go.RowKit Go.Proofs.YtdcabfonjmeajaaW.PrintWords Go.Proofs.YtdcabfonjmeajaaW.PrintLast Go.Proofs.YtdcabfonjmeajaaW.PrintMore

/-! ### conf.spots -/
theorem conf_spots_l1 (nets : List Nt) (m : Nat) (subs : List Sb) (hm : m < nets.length) (hn : nets.length ≤ 10) (hs : subs.length ≤ 10) : ∀ (d i : Nat) (out : List Sp) (r : List Sp), i + d = subs.length → out.length + d ≤ 1000 →
    Ev (fun k => conf_spots.l0 k (out ++ subAt (m : Int) i (subs.drop i)) nets (nets.length : Int) ((m + 1 : Nat) : Int)) r → Ev (fun k => conf_spots.l1 k out (m : Int) nets (nets.length : Int) (m : Int) subs (subs.length : Int) (i : Int)) r := by
  intro d
  induction d with
  | zero =>
    intro i out r hi ho h
    rw [List.drop_eq_nil_of_le (by omega), subAt, List.append_nil] at h
    refine Ev.step (fun k => ?_) h
    show conf_spots.l1 (k + 1) _ _ _ _ _ _ _ _ = _
    rw [conf_spots.l1, if_neg (by omega), wrap_next hm (by omega)]
  | succ d ih =>
    intro i out r hi ho h
    have hl : i < subs.length := by omega
    refine Ev.step (fun k => ?_) (ih (i + 1) (out ++ [⟨(m : Int), (i : Int), subs[i]⟩]) r (by omega) (by rw [List.length_append, List.length_singleton]; omega) ?_)
    · show conf_spots.l1 (k + 1) _ _ _ _ _ _ _ _ = _
      rw [conf_spots.l1, if_pos (by omega), if_pos (by omega), if_pos (by omega), if_pos (by omega), show rd_T57 subs (i : Int) = subs[i] from rd_get hl, wrap_next hl (by omega)]
    · rw [List.append_assoc, List.singleton_append]
      rwa [List.drop_eq_getElem_cons hl, subAt] at h
theorem conf_spots_l0 (nets : List Nt) (hn : nets.length ≤ 10) (hx : ∀ x ∈ nets, x.f0.length ≤ 10) : ∀ (d m : Nat) (out : List Sp), m + d = nets.length → out.length + 10 * d ≤ 500 →
    Ev (fun k => conf_spots.l0 k out nets (nets.length : Int) (m : Int)) (out ++ spotsFrom m (nets.drop m)) := by
  intro d
  induction d with
  | zero =>
    intro m out hm ho
    rw [List.drop_eq_nil_of_le (by omega), spotsFrom, List.append_nil]
    refine Ev.step (f := fun _ => some out) (fun k => ?_) Ev.some'
    show conf_spots.l0 (k + 1) _ _ _ _ = _
    rw [conf_spots.l0, if_neg (by omega)]
  | succ d ih =>
    intro m out hm ho
    have hl : m < nets.length := by omega
    have h10 := hx nets[m] (List.getElem_mem hl)
    rw [List.drop_eq_getElem_cons hl, spotsFrom, ← List.append_assoc]
    refine Ev.step (fun k => ?_) (conf_spots_l1 nets m nets[m].f0 hl hn h10 nets[m].f0.length 0 out _ (by omega) (by omega) ?_)
    · show conf_spots.l0 (k + 1) _ _ _ _ = _
      rw [conf_spots.l0, if_pos (by omega), if_pos (by omega), if_pos (by omega), show rd_T41 nets (m : Int) = nets[m] from rd_get hl]
      rfl
    · rw [List.drop_zero]
      exact ih (m + 1) _ (by omega) (by rw [List.length_append, subAt_len]; omega)
theorem conf_spots_s (a b : Int) (nets : List Nt) (h : Sm nets) : Ev (fun k => conf_spots.f k a b nets) (spotsL nets) := by
  have e := conf_spots_l0 nets h.1 (fun x hx => (h.2 x hx).1) nets.length 0 [] (by omega) (by have := h.1; simp; omega)
  rw [List.drop_zero, List.nil_append] at e
  exact e

end Go.Proofs.Ytdcabfonjmeajaa.PAlloc
set_option linter.unusedVariables false
set_option linter.unusedSimpArgs false
namespace Go.Proofs.Ytdcabfonjmeajaa.PAlloc
open Go.RowKit Go.Proofs.YtdcabfonjmeajaaW.PrintWords Go.Proofs.YtdcabfonjmeajaaW.PrintLast Go.Proofs.YtdcabfonjmeajaaW.PrintMore

/-! ### addr.mask -/
theorem addr_mask_all : ∀ i : Fin 33, addr_mask.f (i.val : Int) = some (4294967296 - (Com.sz (i.val : Int) : Int)) := by decide +kernel
theorem addr_mask_s (n : Int) (h0 : 0 ≤ n) (h1 : n ≤ 32) : addr_mask.f n = some (4294967296 - (Com.sz n : Int)) := by
  have := addr_mask_all ⟨n.toNat, by omega⟩
  rw [show ((⟨n.toNat, by omega⟩ : Fin 33).val : Int) = n from by simp; omega] at this
  exact this
theorem addr_mask_n (n : Int) : 4294967296 - (Com.sz n : Int) = ((4294967296 - 2 ^ (32 - n.toNat) : Nat) : Int) := by
  have := Com.sz_le n
  unfold Com.sz at *
  omega

end Go.Proofs.Ytdcabfonjmeajaa.PAlloc
set_option linter.unusedVariables false
set_option linter.unusedSimpArgs false
namespace Go.Proofs.Ytdcabfonjmeajaa.PAlloc
open Go.RowKit Go.Proofs.YtdcabfonjmeajaaW.PrintWords Go.Proofs.YtdcabfonjmeajaaW.PrintLast Go.Proofs.YtdcabfonjmeajaaW.PrintMore

/-! ### addr.Fair -/
theorem addr_Fair_s (b n : Int) : addr_Fair.f b n = some (Com.fairB b n) := by
  unfold addr_Fair.f Com.fairB
  by_cases h0 : n ≥ 0
  · rw [if_pos h0]
    by_cases h1 : n ≤ 32
    · rw [if_pos h1, addr_Right_s]
      simp only [Option.bind_some]
      by_cases h2 : 0 ≤ b ∧ b ≤ 4294967295
      · rw [decide_eq_true h2, if_pos rfl, addr_mask_s n h0 h1, Option.bind_some]
        obtain ⟨x, rfl⟩ := Int.eq_ofNat_of_zero_le h2.1
        rw [addr_mask_n, Com.i64_andNot_mask x (32 - n.toNat) (by omega) (by omega)]
        congr 1
        have e : ((x % 2 ^ (32 - n.toNat) : Nat) : Int) = (x : Int) % (Com.sz n : Int) := by unfold Com.sz; push_cast; rfl
        rw [e, Bool.eq_iff_iff, beq_iff_eq, decide_eq_true_iff]
        exact ⟨fun h => ⟨h0, h1, h2.1, h2.2, h⟩, fun h => h.2.2.2.2⟩
      · rw [decide_eq_false h2, if_neg (by simp), decide_eq_false (fun h => h2 ⟨h.2.2.1, h.2.2.2.1⟩)]
    · rw [if_neg h1, decide_eq_false (fun h => h1 h.2.1)]
  · rw [if_neg h0, decide_eq_false (fun h => h0 h.1)]

end Go.Proofs.Ytdcabfonjmeajaa.PAlloc
set_option linter.unusedVariables false
set_option linter.unusedSimpArgs false
namespace Go.Proofs.Ytdcabfonjmeajaa.PAlloc
open Go.RowKit Go.Proofs.YtdcabfonjmeajaaW.PrintWords Go.Proofs.YtdcabfonjmeajaaW.PrintLast Go.Proofs.YtdcabfonjmeajaaW.PrintMore

/-! ### key.Right -/
theorem key_Right_s (s : ByteArray) (hs : s.size ≤ maxLen) : key_Right.f s = some (keyB s) := by
  unfold key_Right.f keyB
  simp only [maxLen] at hs
  have hw : wrap64 ((s.size : Int) - 1) = (s.size : Int) - 1 := by unfold wrap64; omega
  rw [hw]
  clear hw
  by_cases h0 : (s.size : Int) = 0
  · rw [if_pos h0, decide_eq_false (show ¬ 3 ≤ s.size by omega)]; rfl
  · rw [if_neg h0, if_pos (by omega)]
    by_cases h1 : bt s 0 = 105
    · rw [if_pos h1]
      by_cases h2 : (s.size : Int) - 1 ≥ 2
      · rw [if_pos h2, decide_eq_true (show 3 ≤ s.size by omega), Bool.true_and]
        congr 1
        rw [Bool.eq_iff_iff, decide_eq_true_iff, Bool.or_eq_true, decide_eq_true_iff, decide_eq_true_iff]
        constructor
        · intro h; exact .inl ⟨h1, by omega⟩
        · rintro (⟨_, h⟩ | ⟨h, _⟩) <;> omega
      · rw [if_neg h2, decide_eq_false (show ¬ 3 ≤ s.size by omega)]; rfl
    · rw [if_neg h1]
      by_cases h3 : bt s 0 = 104
      · rw [if_pos h3]
        by_cases h2 : (s.size : Int) - 1 ≥ 2
        · rw [if_pos h2, decide_eq_true (show 3 ≤ s.size by omega), Bool.true_and]
          congr 1
          rw [Bool.eq_iff_iff, decide_eq_true_iff, Bool.or_eq_true, decide_eq_true_iff, decide_eq_true_iff]
          constructor
          · intro h; exact .inr ⟨h3, by omega⟩
          · rintro (⟨h, _⟩ | ⟨_, h⟩) <;> omega
        · rw [if_neg h2, decide_eq_false (show ¬ 3 ≤ s.size by omega)]; rfl
      · rw [if_neg h3, decide_eq_false (show ¬ (bt s 0 = 105 ∧ s.size ≤ 256) from fun h => h1 h.1), decide_eq_false (show ¬ (bt s 0 = 104 ∧ s.size ≤ 18) from fun h => h3 h.1), Bool.or_false, Bool.and_false]

end Go.Proofs.Ytdcabfonjmeajaa.PAlloc
set_option linter.unusedVariables false
set_option linter.unusedSimpArgs false
namespace Go.Proofs.Ytdcabfonjmeajaa.PAlloc
open Go.RowKit Go.Proofs.YtdcabfonjmeajaaW.PrintWords Go.Proofs.YtdcabfonjmeajaaW.PrintLast Go.Proofs.YtdcabfonjmeajaaW.PrintMore

/-! ### conf.fair -/
theorem conf_fair_l1 (l : List Rs) (hl : l.length ≤ 20) (hk : ∀ r ∈ l, r.f0.size ≤ 1000) {r : Bool} (hr : r = decide (∀ i, (h : i < l.length) → keyB l[i].f0 = true)) : Ev (fun k => conf_fair.l1 k l (l.length : Int) 0) r := by
  refine loopC (n := l.length) (L := fun k i => conf_fair.l1 k l (l.length : Int) i) (fun i => (h : i < l.length) → keyB l[i].f0 = true) false (fun i hi hp r h => ?_) (fun i hi hp => ?_) (fun h => ?_) (fun h => ?_)
  · refine Ev.step (fun k => ?_) h
    have h1 : l[i].f0.size ≤ maxLen := by have := hk l[i] (List.getElem_mem hi); simp only [maxLen]; omega
    show conf_fair.l1 (k + 1) l _ _ = _
    rw [conf_fair.l1, if_pos (by omega), if_pos (by omega), if_pos (by omega), show rd_T59 l (i : Int) = l[i] from rd_get hi, key_Right_s _ h1, hp hi, Option.bind_some, if_pos rfl, wrap_next hi (by omega)]
  · refine Ev.step (f := fun _ => some false) (fun k => ?_) Ev.some'
    have h1 : l[i].f0.size ≤ maxLen := by have := hk l[i] (List.getElem_mem hi); simp only [maxLen]; omega
    have h2 : keyB l[i].f0 = false := by
      cases h : keyB l[i].f0 with
      | false => rfl
      | true => exact absurd (fun _ => h) hp
    show conf_fair.l1 (k + 1) l _ _ = _
    rw [conf_fair.l1, if_pos (by omega), if_pos (by omega), if_pos (by omega), show rd_T59 l (i : Int) = l[i] from rd_get hi, key_Right_s _ h1, h2, Option.bind_some, if_neg (by simp)]
  · rw [hr, decide_eq_true (fun i hi => h i hi hi)]
    refine Ev.step (f := fun _ => some true) (fun k => ?_) Ev.some'
    show conf_fair.l1 (k + 1) l _ _ = _
    rw [conf_fair.l1, if_neg (by omega)]
  · obtain ⟨i, hi, hp⟩ := h
    rw [hr]
    exact decide_eq_false (fun h => hp (fun hi => h i hi))
theorem conf_fair_l0 (a b : Int) (p : List Rg) (l : List Rs) (c d e : Int) (hl : l.length ≤ 20) (hp : p.length ≤ 20) (hk : ∀ r ∈ l, r.f0.size ≤ 1000) {r : Bool}
    (hr : r = decide ((∀ i, (h : i < p.length) → p[i].f0 ≤ p[i].f1) ∧ ∀ i, (h : i < l.length) → keyB l[i].f0 = true)) : Ev (fun k => conf_fair.l0 k p (p.length : Int) 0 a b p l c d e) r := by
  refine loopC (n := p.length) (L := fun k i => conf_fair.l0 k p (p.length : Int) i a b p l c d e) (fun i => (h : i < p.length) → p[i].f0 ≤ p[i].f1) false (fun i hi hp r h => ?_) (fun i hi hp => ?_) (fun h => ?_) (fun h => ?_)
  · refine Ev.step (fun k => ?_) h
    have := hp hi
    clear hp
    show conf_fair.l0 (k + 1) p _ _ _ _ _ _ _ _ _ = _
    rw [conf_fair.l0, if_pos (by omega), if_pos (by omega), if_pos (by omega), show rd_T62 p (i : Int) = p[i] from rd_get hi, if_neg (by omega), wrap_next hi (by omega)]
  · refine Ev.step (f := fun _ => some false) (fun k => ?_) Ev.some'
    have : p[i].f0 > p[i].f1 := by
      by_cases h : p[i].f0 > p[i].f1
      · exact h
      · exact absurd (fun _ => Int.not_lt.1 h) hp
    clear hp
    show conf_fair.l0 (k + 1) p _ _ _ _ _ _ _ _ _ = _
    rw [conf_fair.l0, if_pos (by omega), if_pos (by omega), if_pos (by omega), show rd_T62 p (i : Int) = p[i] from rd_get hi, if_pos this]
  · refine Ev.step (f := fun k => conf_fair.l1 k l (l.length : Int) 0) (fun k => ?_) (conf_fair_l1 l hl hk ?_)
    · show conf_fair.l0 (k + 1) p _ _ _ _ _ _ _ _ _ = _
      rw [conf_fair.l0, if_neg (by omega)]
    · rw [hr]; exact decide_eq_decide.2 ⟨fun h2 => h2.2, fun h2 => ⟨fun i hi => h i hi hi, h2⟩⟩
  · obtain ⟨i, hi, hp⟩ := h
    rw [hr]
    exact decide_eq_false (fun h => hp (fun hi => h.1 i hi))
open Classical in
theorem conf_fair_s (s : Sb) (hs : SmS s) : Ev (fun k => conf_fair.f k s.f0 s.f1 s.f2 s.f3 s.f4 s.f5 s.f6) (decide (FairS s)) := by
  obtain ⟨h1, h2, h3⟩ := hs
  have J : ∀ (x : Bool), (x = true → ¬ FairS s) → (x = false → (FairS s ↔ ((∀ i, (h : i < s.f2.length) → s.f2[i].f0 ≤ s.f2[i].f1) ∧ ∀ i, (h : i < s.f3.length) → keyB s.f3[i].f0 = true))) →
      Ev (fun k => conf_fair.j0 k x s.f0 s.f1 s.f2 s.f3 s.f4 s.f5 s.f6) (decide (FairS s)) := by
    intro x hx hy
    cases x with
    | true =>
      rw [decide_eq_false (hx rfl)]
      exact Ev.step (f := fun _ => some false) (fun k => by show conf_fair.j0 (k + 1) _ _ _ _ _ _ _ _ = _; rw [conf_fair.j0, if_pos rfl]) Ev.some'
    | false =>
      refine Ev.step (f := fun k => conf_fair.l0 k s.f2 (s.f2.length : Int) 0 s.f0 s.f1 s.f2 s.f3 s.f4 s.f5 s.f6) (fun k => by show conf_fair.j0 (k + 1) _ _ _ _ _ _ _ _ = _; rw [conf_fair.j0, if_neg (by simp)]) (conf_fair_l0 _ _ _ _ _ _ _ h2 h1 h3 ?_)
      exact decide_eq_decide.2 (hy rfl)
  simp only [conf_fair.f, addr_Fair_s, conf_within_s, Option.bind_some]
  by_cases a1 : Com.fairB s.f0 s.f1 = true
  · refine Ev.pos a1 ?_
    by_cases a2 : 8 ≤ s.f1 ∧ s.f1 ≤ 30
    · refine Ev.pos (decide_eq_true a2) ?_
      by_cases a3 : (s.f2.length : Int) > 4
      · refine Ev.pos a3 (J true (fun _ h => by have := h.2.2.2.1; omega) (fun h => by cases h))
      · refine Ev.neg a3 ?_
        by_cases a4 : (s.f3.length : Int) > 8
        · refine Ev.pos a4 (J true (fun _ h => by have := h.2.2.2.2.1; omega) (fun h => by cases h))
        · refine Ev.neg a4 ?_
          by_cases a5 : 0 ≤ s.f4 ∧ s.f4 ≤ 99
          · refine Ev.pos (decide_eq_true a5) (J _ (fun h h2 => ?_) (fun h => ?_))
            · have h3 := h2.2.2.2.2.2.2.2
              rw [decide_eq_true ⟨h3.1, h3.2.1⟩] at h; cases h
            · have h3 : 1 ≤ s.f6 ∧ s.f6 ≤ 2147483648 := by
                by_cases q : 1 ≤ s.f6 ∧ s.f6 ≤ 2147483648
                · exact q
                · rw [decide_eq_false q] at h; cases h
              exact ⟨fun h => h.2.2.2.2.2.2.2.2.2, fun h => ⟨a1, a2.1, a2.2, by omega, by omega, a5.1, a5.2, h3.1, h3.2, h⟩⟩
          · exact Ev.neg (by rw [decide_eq_false a5]; simp) (J true (fun _ h => a5 ⟨h.2.2.2.2.2.1, h.2.2.2.2.2.2.1⟩) (fun h => by cases h))
    · exact Ev.neg (by rw [decide_eq_false a2]; simp) (J true (fun _ h => a2 ⟨h.2.1, h.2.2.1⟩) (fun h => by cases h))
  · exact Ev.neg a1 (J true (fun _ h => a1 h.1) (fun h => by cases h))

end Go.Proofs.Ytdcabfonjmeajaa.PAlloc
set_option linter.unusedVariables false
set_option linter.unusedSimpArgs false
namespace Go.Proofs.Ytdcabfonjmeajaa.PAlloc
open Go.RowKit Go.Proofs.YtdcabfonjmeajaaW.PrintWords Go.Proofs.YtdcabfonjmeajaaW.PrintLast Go.Proofs.YtdcabfonjmeajaaW.PrintMore

/-! ### conf.form -/
open Classical in
theorem conf_form_l1 (nets : List Nt) (h : Sm nets) {r : Bool} (hr : r = true ↔ ∀ n ∈ nets, ∀ s ∈ n.f0, FairS s) : Ev (fun k => conf_form.l1 k (spotsL nets) ((spotsL nets).length : Int) 0) r := by
  have hN : (spotsL nets).length ≤ 1000 := by have := spots_len (n := 0) (fun x hx => (h.2 x hx).1); have := h.1; unfold spotsL; omega
  have hS : ∀ (i : Nat) (hi : i < (spotsL nets).length), SmS (spotsL nets)[i].f2 := fun i hi => (spots_all (F := SmS)).2 (fun n hn s hs => (h.2 n hn).2 s hs) _ (List.getElem_mem hi)
  rw [← spots_all] at hr
  generalize spotsL nets = l at *
  refine loopC (n := l.length) (L := fun k i => conf_form.l1 k l (l.length : Int) i) (fun i => ∃ h : i < l.length, FairS l[i].f2) false (fun i hi hp r h => ?_) (fun i hi hp => ?_) (fun h => ?_) (fun h => ?_)
  · obtain ⟨_, hp⟩ := hp
    have e := conf_fair_s l[i].f2 (hS i hi)
    rw [decide_eq_true hp] at e
    refine Ev.step (fun k => ?_) (Ev.bind e (f := fun k t => if t = true then conf_form.l1 k l (l.length : Int) ((i + 1 : Nat) : Int) else some false) (Ev.pos rfl h))
    show conf_form.l1 (k + 1) _ _ _ = _
    rw [conf_form.l1, if_pos (by omega), if_pos (by omega), if_pos (by omega), show rd_T66 l (i : Int) = l[i] from rd_get hi, wrap_next hi (by omega)]
  · have e := conf_fair_s l[i].f2 (hS i hi)
    rw [decide_eq_false (fun h => hp ⟨hi, h⟩)] at e
    refine Ev.step (fun k => ?_) (Ev.bind e (f := fun k t => if t = true then conf_form.l1 k l (l.length : Int) ((i + 1 : Nat) : Int) else some false) (Ev.neg (by simp) Ev.some'))
    show conf_form.l1 (k + 1) _ _ _ = _
    rw [conf_form.l1, if_pos (by omega), if_pos (by omega), if_pos (by omega), show rd_T66 l (i : Int) = l[i] from rd_get hi, wrap_next hi (by omega)]
  · rw [hr.2 (fun x hx => by obtain ⟨i, hi, rfl⟩ := List.mem_iff_getElem.1 hx; exact (h i hi).2)]
    refine Ev.step (f := fun _ => some true) (fun k => ?_) Ev.some'
    show conf_form.l1 (k + 1) _ _ _ = _
    rw [conf_form.l1, if_neg (by omega)]
  · obtain ⟨i, hi, hp⟩ := h
    cases r with
    | false => rfl
    | true => exact absurd ⟨hi, hr.1 rfl _ (List.getElem_mem hi)⟩ hp
theorem conf_form_l0 (a b : Int) (nets : List Nt) (h : Sm nets) {r : Bool} (hr : r = true ↔ (∀ n ∈ nets, 1 ≤ n.f0.length ∧ n.f0.length ≤ 4) ∧ ∀ n ∈ nets, ∀ s ∈ n.f0, FairS s) : Ev (fun k => conf_form.l0 k nets (nets.length : Int) 0 a b nets) r := by
  have hN := h.1
  refine loopC (n := nets.length) (L := fun k i => conf_form.l0 k nets (nets.length : Int) i a b nets) (fun i => ∃ h : i < nets.length, 1 ≤ nets[i].f0.length ∧ nets[i].f0.length ≤ 4) false (fun i hi hp r h => ?_) (fun i hi hp => ?_) (fun h2 => ?_) (fun h => ?_)
  · obtain ⟨_, hp⟩ := hp
    refine Ev.step (fun k => ?_) h
    show conf_form.l0 (k + 1) _ _ _ _ _ _ = _
    rw [conf_form.l0, if_pos (by omega), if_pos (by omega), if_pos (by omega), show rd_T41 nets (i : Int) = nets[i] from rd_get hi, conf_within_s, decide_eq_true (by omega), Option.bind_some, if_pos rfl, wrap_next hi (by omega)]
  · have h4 : ¬ (1 ≤ (nets[i].f0.length : Int) ∧ (nets[i].f0.length : Int) ≤ 4) := fun h => hp ⟨hi, by omega⟩
    refine Ev.step (f := fun _ => some false) (fun k => ?_) Ev.some'
    show conf_form.l0 (k + 1) _ _ _ _ _ _ = _
    rw [conf_form.l0, if_pos (by omega), if_pos (by omega), if_pos (by omega), show rd_T41 nets (i : Int) = nets[i] from rd_get hi, conf_within_s, decide_eq_false h4, Option.bind_some, if_neg (by simp)]
  · refine Ev.step (fun k => ?_) (Ev.bind (conf_spots_s a b nets h) (f := fun k t => conf_form.l1 k t (t.length : Int) 0) (conf_form_l1 nets h (r := r) ?_))
    · show conf_form.l0 (k + 1) _ _ _ _ _ _ = _
      rw [conf_form.l0, if_neg (by omega)]
    · rw [hr]
      exact ⟨fun h => h.2, fun h3 => ⟨fun n hn => by obtain ⟨i, hi, rfl⟩ := List.mem_iff_getElem.1 hn; exact (h2 i hi).2, h3⟩⟩
  · obtain ⟨i, hi, hp⟩ := h
    cases r with
    | false => rfl
    | true => exact absurd ⟨hi, (hr.1 rfl).1 _ (List.getElem_mem hi)⟩ hp
open Classical in
theorem conf_form_s (a b : Int) (nets : List Nt) (h : Sm nets) : Ev (fun k => conf_form.f k a b nets) (decide (FormP a b nets)) := by
  have J : ∀ (x : Bool), (x = true → ¬ FormP a b nets) → (x = false → (FormP a b nets ↔ ((∀ n ∈ nets, 1 ≤ n.f0.length ∧ n.f0.length ≤ 4) ∧ ∀ n ∈ nets, ∀ s ∈ n.f0, FairS s))) →
      Ev (fun k => conf_form.j0 k x a b nets) (decide (FormP a b nets)) := by
    intro x hx hy
    cases x with
    | true =>
      rw [decide_eq_false (hx rfl)]
      exact Ev.step (f := fun _ => some false) (fun k => by show conf_form.j0 (k + 1) _ _ _ _ = _; rw [conf_form.j0, if_pos rfl]) Ev.some'
    | false =>
      refine Ev.step (fun k => by show conf_form.j0 (k + 1) _ _ _ _ = _; rw [conf_form.j0, if_neg (by simp)]) (conf_form_l0 a b nets h ?_)
      rw [decide_eq_true_iff]; exact hy rfl
  simp only [conf_form.f, addr_Right_s, conf_within_s, Option.bind_some]
  by_cases a1 : 0 ≤ a ∧ a ≤ 4294967295
  · refine Ev.pos (decide_eq_true a1) ?_
    by_cases a2 : 1 ≤ b ∧ b ≤ 2147483648
    · refine Ev.pos (decide_eq_true a2) (J _ (fun h3 h4 => ?_) (fun h3 => ?_))
      · have := of_decide_eq_true h3; have := h4.2.2.2.2.1; omega
      · have := of_decide_eq_false h3
        exact ⟨fun h => h.2.2.2.2.2, fun h => ⟨a1.1, a1.2, a2.1, a2.2, by omega, h⟩⟩
    · exact Ev.neg (by rw [decide_eq_false a2]; simp) (J true (fun _ h => a2 ⟨h.2.2.1, h.2.2.2.1⟩) (fun h => by cases h))
  · exact Ev.neg (by rw [decide_eq_false a1]; simp) (J true (fun _ h => a1 ⟨h.1, h.2.1⟩) (fun h => by cases h))

end Go.Proofs.Ytdcabfonjmeajaa.PAlloc
set_option linter.unusedVariables false
set_option linter.unusedSimpArgs false
namespace Go.Proofs.Ytdcabfonjmeajaa.PAlloc
open Go.RowKit Go.Proofs.YtdcabfonjmeajaaW.PrintWords Go.Proofs.YtdcabfonjmeajaaW.PrintLast Go.Proofs.YtdcabfonjmeajaaW.PrintMore

/-! ### conf.has -/
theorem conf_has_s (a b c : Int) : conf_has.f a b c = some (decide (a ≤ c ∧ c ≤ b)) := by
  unfold conf_has.f
  rw [conf_within_s, Option.bind_some]

end Go.Proofs.Ytdcabfonjmeajaa.PAlloc
set_option linter.unusedVariables false
set_option linter.unusedSimpArgs false
namespace Go.Proofs.Ytdcabfonjmeajaa.PAlloc
open Go.RowKit Go.Proofs.YtdcabfonjmeajaaW.PrintWords Go.Proofs.YtdcabfonjmeajaaW.PrintLast Go.Proofs.YtdcabfonjmeajaaW.PrintMore

/-! ### addr.Has -/
theorem addr_Has_s (b n a : Int) : addr_Has.f b n a = some (Com.hasB b n a) := by
  unfold addr_Has.f Com.hasB
  rw [addr_Fair_s, Option.bind_some]
  by_cases h : Com.fairB b n = true
  · obtain ⟨h0, h1, h2, h3, h4⟩ := (Com.fairB_iff b n).1 h
    have he := Com.fair_end b n h
    have hp := Com.sz_pos n
    rw [if_pos h, h, Bool.true_and, addr_Right_s, Option.bind_some]
    by_cases ha : 0 ≤ a ∧ a ≤ 4294967295
    · rw [decide_eq_true ha, if_pos rfl, addr_mask_s n h0 h1, Option.bind_some]
      obtain ⟨x, rfl⟩ := Int.eq_ofNat_of_zero_le ha.1
      rw [addr_mask_n, Com.i64_and_nat x _ (by omega) (Nat.lt_of_le_of_lt (Nat.sub_le _ _) (by omega)), Com.and_mask x _ (by omega) (by omega)]
      congr 1
      rw [Bool.eq_iff_iff, beq_iff_eq, decide_eq_true_iff]
      obtain ⟨q, hq⟩ := Int.dvd_of_emod_eq_zero h4
      have hszz : (2 ^ (32 - n.toNat) : Nat) = Com.sz n := rfl
      rw [hszz]
      push_cast
      rw [hq]
      have hs : (0 : Int) < Com.sz n := by omega
      generalize (Com.sz n : Int) = s at *
      have hd := Int.mul_ediv_add_emod (x : Int) s
      have hm0 := Int.emod_nonneg (x : Int) (by omega : s ≠ 0)
      have hm1 := Int.emod_lt_of_pos (x : Int) hs
      constructor
      · intro e
        rw [Int.mul_comm] at e
        omega
      · intro ⟨e1, e2⟩
        have hx : (x : Int) / s = q := by
          have t1 : q ≤ (x : Int) / s := (Int.le_ediv_iff_mul_le hs).2 (by rw [Int.mul_comm]; omega)
          have t2 : (x : Int) / s < q + 1 := (Int.ediv_lt_iff_lt_mul hs).2 (by rw [Int.add_mul, Int.mul_comm q]; omega)
          omega
        rw [hx, Int.mul_comm]
    · rw [decide_eq_false ha, if_neg (by simp), decide_eq_false (by omega)]
  · rw [if_neg h, Bool.eq_false_iff.2 h, Bool.false_and]

end Go.Proofs.Ytdcabfonjmeajaa.PAlloc
set_option linter.unusedVariables false
set_option linter.unusedSimpArgs false
namespace Go.Proofs.Ytdcabfonjmeajaa.PAlloc
open Go.RowKit Go.Proofs.YtdcabfonjmeajaaW.PrintWords Go.Proofs.YtdcabfonjmeajaaW.PrintLast Go.Proofs.YtdcabfonjmeajaaW.PrintMore

/-! ### addr.Last -/
theorem addr_Last_all : ∀ i : Fin 33, Go.bits .andNot .i64 4294967295 (4294967296 - (Com.sz (i.val : Int) : Int)) = (Com.sz (i.val : Int) : Int) - 1 := by decide +kernel
theorem addr_Last_s (b n : Int) : addr_Last.f b n = some (if Com.fairB b n = true then (b + (Com.sz n : Int) - 1, 0) else (0, 1)) := by
  unfold addr_Last.f
  rw [addr_Fair_s, Option.bind_some]
  by_cases h : Com.fairB b n = true
  · obtain ⟨h0, h1, h2, h3, h4⟩ := (Com.fairB_iff b n).1 h
    have he := Com.fair_end b n h
    rw [if_pos h, if_pos h, addr_mask_s n h0 h1, Option.bind_some]
    have ha := addr_Last_all ⟨n.toNat, by omega⟩
    rw [show ((⟨n.toNat, by omega⟩ : Fin 33).val : Int) = n from by simp; omega] at ha
    rw [ha]
    obtain ⟨q, hq⟩ := Int.dvd_of_emod_eq_zero h4
    have hp := Com.sz_pos n
    have hq0 : 0 ≤ q := by
      refine Int.le_of_not_gt fun hlt => ?_
      have : (Com.sz n : Int) * q ≤ (Com.sz n : Int) * (-1) := Int.mul_le_mul_of_nonneg_left (by omega) (by omega)
      omega
    obtain ⟨x, rfl⟩ := Int.eq_ofNat_of_zero_le hq0
    have hb : b = ((x * 2 ^ (32 - n.toNat) : Nat) : Int) := by rw [hq]; unfold Com.sz; push_cast; rw [Int.mul_comm]
    have hz : (Com.sz n : Int) - 1 = ((2 ^ (32 - n.toNat) - 1 : Nat) : Int) := by unfold Com.sz at *; omega
    have hszz : Com.sz n = 2 ^ (32 - n.toNat) := rfl
    rw [hz, hb, Com.i64_or_add x (2 ^ (32 - n.toNat) - 1) (32 - n.toNat) (by omega) (by omega)]
    congr 2
    omega
  · rw [if_neg h, if_neg h]

end Go.Proofs.Ytdcabfonjmeajaa.PAlloc
set_option linter.unusedVariables false
set_option linter.unusedSimpArgs false
namespace Go.Proofs.Ytdcabfonjmeajaa.PAlloc
open Go.RowKit Go.Proofs.YtdcabfonjmeajaaW.PrintWords Go.Proofs.YtdcabfonjmeajaaW.PrintLast Go.Proofs.YtdcabfonjmeajaaW.PrintMore

/-! ### conf.inside -/
theorem conf_inside_s (s : Sb) (h : Com.fairB s.f0 s.f1 = true) (a : Int) : conf_inside.f s.f0 s.f1 s.f2 s.f3 s.f4 s.f5 s.f6 a = some (decide (InS s a)) := by
  unfold conf_inside.f
  rw [addr_Last_s, if_pos h, Option.bind_some]
  by_cases c : a > s.f0
  · rw [if_pos c]; congr 1; exact decide_eq_decide.2 ⟨fun h2 => ⟨c, h2⟩, fun h2 => h2.2⟩
  · rw [if_neg c, decide_eq_false (fun h2 => c h2.1)]

end Go.Proofs.Ytdcabfonjmeajaa.PAlloc
set_option linter.unusedVariables false
set_option linter.unusedSimpArgs false
namespace Go.Proofs.Ytdcabfonjmeajaa.PAlloc
open Go.RowKit Go.Proofs.YtdcabfonjmeajaaW.PrintWords Go.Proofs.YtdcabfonjmeajaaW.PrintLast Go.Proofs.YtdcabfonjmeajaaW.PrintMore

/-! ### conf.placed -/
theorem conf_placed_l2 (l : List Sp) (N : Int) (m : Nat) (sv b : Int) (nets : List Nt) (x0 x1 : Int) (s : Sb) (hs : SmS s) (hF : Com.fairB s.f0 s.f1 = true) (hm : m < l.length) (hl : l.length ≤ 1000) {r : Bool}
    (h1 : ((∀ i, (h : i < s.f3.length) → InS s s.f3[i].f1 ∧ s.f3[i].f1 ≠ sv) ∧ (s.f5 ≠ 0 → Com.hasB s.f0 s.f1 s.f5 = true)) → Ev (fun k => conf_placed.l0 k l N ((m + 1 : Nat) : Int) sv b nets) r)
    (h2 : (¬ ((∀ i, (h : i < s.f3.length) → InS s s.f3[i].f1 ∧ s.f3[i].f1 ≠ sv) ∧ (s.f5 ≠ 0 → Com.hasB s.f0 s.f1 s.f5 = true))) → r = false) :
    Ev (fun k => conf_placed.l2 k l N (m : Int) s.f3 (s.f3.length : Int) 0 sv b nets x0 x1 s.f0 s.f1 s.f2 s.f3 s.f4 s.f5 s.f6) r := by
  have h20 := hs.2.1
  refine loopC (n := s.f3.length) (L := fun k i => conf_placed.l2 k l N (m : Int) s.f3 (s.f3.length : Int) i sv b nets x0 x1 s.f0 s.f1 s.f2 s.f3 s.f4 s.f5 s.f6) (fun i => ∃ h : i < s.f3.length, InS s s.f3[i].f1 ∧ s.f3[i].f1 ≠ sv) false (fun i hi hp r h3 => ?_) (fun i hi hp => ?_) (fun h3 => ?_) (fun h3 => ?_)
  · obtain ⟨_, hp1, hp2⟩ := hp
    refine Ev.step (fun k => ?_) h3
    show conf_placed.l2 (k + 1) _ _ _ _ _ _ _ _ _ _ _ _ _ _ _ _ _ _ = _
    rw [conf_placed.l2, if_pos (by omega), if_pos (by omega), if_pos (by omega), show rd_T59 s.f3 (i : Int) = s.f3[i] from rd_get hi, conf_inside_s s hF, decide_eq_true hp1, Option.bind_some, if_pos rfl, if_neg hp2, wrap_next hi (by omega)]
  · refine Ev.step (f := fun _ => some false) (fun k => ?_) Ev.some'
    show conf_placed.l2 (k + 1) _ _ _ _ _ _ _ _ _ _ _ _ _ _ _ _ _ _ = _
    rw [conf_placed.l2, if_pos (by omega), if_pos (by omega), if_pos (by omega), show rd_T59 s.f3 (i : Int) = s.f3[i] from rd_get hi, conf_inside_s s hF, Option.bind_some]
    by_cases c : InS s s.f3[i].f1
    · rw [if_pos (decide_eq_true c)]
      by_cases c2 : s.f3[i].f1 = sv
      · rw [if_pos c2]
      · exact absurd ⟨hi, c, c2⟩ hp
    · rw [decide_eq_false c, if_neg (by simp)]
  · have h4 : ∀ i, (h : i < s.f3.length) → InS s s.f3[i].f1 ∧ s.f3[i].f1 ≠ sv := fun i hi => (h3 i hi).2
    refine Ev.step (f := fun k => if s.f5 = 0 then conf_placed.l0 k l N ((m + 1 : Nat) : Int) sv b nets else (if Com.hasB s.f0 s.f1 s.f5 = true then conf_placed.l0 k l N ((m + 1 : Nat) : Int) sv b nets else some false)) (fun k => ?_) ?_
    · show conf_placed.l2 (k + 1) _ _ _ _ _ _ _ _ _ _ _ _ _ _ _ _ _ _ = _
      rw [conf_placed.l2, if_neg (by omega), addr_Has_s, Option.bind_some, wrap_next hm (by omega)]
    · by_cases c : s.f5 = 0
      · exact Ev.pos c (h1 ⟨h4, fun h => absurd c h⟩)
      · refine Ev.neg c ?_
        by_cases c2 : Com.hasB s.f0 s.f1 s.f5 = true
        · exact Ev.pos c2 (h1 ⟨h4, fun _ => c2⟩)
        · rw [h2 (fun h => c2 (h.2 c))]; exact Ev.neg c2 Ev.some'
  · obtain ⟨i, hi, hp⟩ := h3
    exact h2 (fun h => hp ⟨hi, h.1 i hi⟩)
theorem conf_placed_l1 (l : List Sp) (N : Int) (m : Nat) (sv b : Int) (nets : List Nt) (x0 x1 : Int) (s : Sb) (hs : SmS s) (hF : Com.fairB s.f0 s.f1 = true) (hm : m < l.length) (hl : l.length ≤ 1000) {r : Bool}
    (h1 : PlaceS sv s → Ev (fun k => conf_placed.l0 k l N ((m + 1 : Nat) : Int) sv b nets) r) (h2 : ¬ PlaceS sv s → r = false) :
    Ev (fun k => conf_placed.l1 k l N (m : Int) s.f2 (s.f2.length : Int) 0 sv b nets x0 x1 s.f0 s.f1 s.f2 s.f3 s.f4 s.f5 s.f6) r := by
  have h20 := hs.1
  refine loopC (n := s.f2.length) (L := fun k i => conf_placed.l1 k l N (m : Int) s.f2 (s.f2.length : Int) i sv b nets x0 x1 s.f0 s.f1 s.f2 s.f3 s.f4 s.f5 s.f6) (fun i => ∃ h : i < s.f2.length, InS s s.f2[i].f0 ∧ InS s s.f2[i].f1 ∧ ¬ (s.f2[i].f0 ≤ sv ∧ sv ≤ s.f2[i].f1)) false (fun i hi hp r h3 => ?_) (fun i hi hp => ?_) (fun h3 => ?_) (fun h3 => ?_)
  · obtain ⟨_, hp1, hp2, hp3⟩ := hp
    refine Ev.step (fun k => ?_) h3
    show conf_placed.l1 (k + 1) _ _ _ _ _ _ _ _ _ _ _ _ _ _ _ _ _ _ = _
    rw [conf_placed.l1, if_pos (by omega), if_pos (by omega), if_pos (by omega), show rd_T62 s.f2 (i : Int) = s.f2[i] from rd_get hi, conf_inside_s s hF, decide_eq_true hp1, Option.bind_some, if_pos rfl, conf_inside_s s hF, decide_eq_true hp2, Option.bind_some, if_pos rfl, conf_has_s, decide_eq_false hp3, Option.bind_some, if_neg (by simp), wrap_next hi (by omega)]
  · refine Ev.step (f := fun _ => some false) (fun k => ?_) Ev.some'
    show conf_placed.l1 (k + 1) _ _ _ _ _ _ _ _ _ _ _ _ _ _ _ _ _ _ = _
    rw [conf_placed.l1, if_pos (by omega), if_pos (by omega), if_pos (by omega), show rd_T62 s.f2 (i : Int) = s.f2[i] from rd_get hi, conf_inside_s s hF, Option.bind_some]
    by_cases c : InS s s.f2[i].f0
    · rw [if_pos (decide_eq_true c), conf_inside_s s hF, Option.bind_some]
      by_cases c2 : InS s s.f2[i].f1
      · rw [if_pos (decide_eq_true c2), conf_has_s, Option.bind_some]
        by_cases c3 : s.f2[i].f0 ≤ sv ∧ sv ≤ s.f2[i].f1
        · rw [if_pos (decide_eq_true c3)]
        · exact absurd ⟨hi, c, c2, c3⟩ hp
      · rw [decide_eq_false c2, if_neg (by simp)]
    · rw [decide_eq_false c, if_neg (by simp)]
  · have h4 : ∀ i, (h : i < s.f2.length) → InS s s.f2[i].f0 ∧ InS s s.f2[i].f1 ∧ ¬ (s.f2[i].f0 ≤ sv ∧ sv ≤ s.f2[i].f1) := fun i hi => (h3 i hi).2
    refine Ev.step (fun k => ?_) (conf_placed_l2 l N m sv b nets x0 x1 s hs hF hm hl (r := r) (fun h => h1 ⟨h4, h.1, h.2⟩) (fun h => h2 (fun h5 => h ⟨h5.2.1, h5.2.2⟩)))
    show conf_placed.l1 (k + 1) _ _ _ _ _ _ _ _ _ _ _ _ _ _ _ _ _ _ = _
    rw [conf_placed.l1, if_neg (by omega)]
  · obtain ⟨i, hi, hp⟩ := h3
    exact h2 (fun h => hp ⟨hi, h.1 i hi⟩)
open Classical in
theorem conf_placed_s (a b : Int) (nets : List Nt) (h : Sm nets) (hF : ∀ n ∈ nets, ∀ s ∈ n.f0, FairS s) : Ev (fun k => conf_placed.f k a b nets) (decide (∀ n ∈ nets, ∀ s ∈ n.f0, PlaceS a s)) := by
  refine Ev.bind (conf_spots_s a b nets h) (f := fun k t => conf_placed.l0 k t (t.length : Int) 0 a b nets) ?_
  have hN : (spotsL nets).length ≤ 1000 := by have := spots_len (n := 0) (fun x hx => (h.2 x hx).1); have := h.1; unfold spotsL; omega
  have hS : ∀ (i : Nat) (hi : i < (spotsL nets).length), SmS (spotsL nets)[i].f2 ∧ FairS (spotsL nets)[i].f2 := fun i hi => (spots_all (F := fun s => SmS s ∧ FairS s)).2 (fun n hn s hs => ⟨(h.2 n hn).2 s hs, hF n hn s hs⟩) _ (List.getElem_mem hi)
  have hr : decide (∀ n ∈ nets, ∀ s ∈ n.f0, PlaceS a s) = decide (∀ x ∈ spotsL nets, PlaceS a x.f2) := decide_eq_decide.2 spots_all.symm
  rw [hr]
  generalize spotsL nets = l at *
  refine loopC (n := l.length) (L := fun k i => conf_placed.l0 k l (l.length : Int) i a b nets) (fun i => ∃ h : i < l.length, PlaceS a l[i].f2) false (fun i hi hp r h3 => ?_) (fun i hi hp => ?_) (fun h3 => ?_) (fun h3 => ?_)
  · obtain ⟨_, hp⟩ := hp
    refine Ev.step (fun k => ?_) (conf_placed_l1 l (l.length : Int) i a b nets l[i].f0 l[i].f1 l[i].f2 (hS i hi).1 (hS i hi).2.1 hi hN (r := r) (fun _ => h3) (fun h => absurd hp h))
    show conf_placed.l0 (k + 1) _ _ _ _ _ _ = _
    rw [conf_placed.l0, if_pos (by omega), if_pos (by omega), if_pos (by omega), show rd_T66 l (i : Int) = l[i] from rd_get hi]
  · refine Ev.step (fun k => ?_) (conf_placed_l1 l (l.length : Int) i a b nets l[i].f0 l[i].f1 l[i].f2 (hS i hi).1 (hS i hi).2.1 hi hN (r := false) (fun h => absurd ⟨hi, h⟩ hp) (fun _ => rfl))
    show conf_placed.l0 (k + 1) _ _ _ _ _ _ = _
    rw [conf_placed.l0, if_pos (by omega), if_pos (by omega), if_pos (by omega), show rd_T66 l (i : Int) = l[i] from rd_get hi]
  · rw [decide_eq_true (fun x hx => by obtain ⟨i, hi, rfl⟩ := List.mem_iff_getElem.1 hx; exact (h3 i hi).2)]
    refine Ev.step (f := fun _ => some true) (fun k => ?_) Ev.some'
    show conf_placed.l0 (k + 1) _ _ _ _ _ _ = _
    rw [conf_placed.l0, if_neg (by omega)]
  · obtain ⟨i, hi, hp⟩ := h3
    exact decide_eq_false (fun h => hp ⟨hi, h _ (List.getElem_mem hi)⟩)

end Go.Proofs.Ytdcabfonjmeajaa.PAlloc
set_option linter.unusedVariables false
set_option linter.unusedSimpArgs false
namespace Go.Proofs.Ytdcabfonjmeajaa.PAlloc
open Go.RowKit Go.Proofs.YtdcabfonjmeajaaW.PrintWords Go.Proofs.YtdcabfonjmeajaaW.PrintLast Go.Proofs.YtdcabfonjmeajaaW.PrintMore

/-! ### addr.Meet -/
/-- Do two prefixes meet? -/
def meetB (b n c m : Int) : Bool := Com.fairB b n && (Com.fairB c m && (decide (b ≤ c ∧ c < b + Com.sz n) || decide (c ≤ b ∧ b < c + Com.sz m)))
theorem addr_Meet_s (b n c m : Int) : addr_Meet.f b n c m = some (meetB b n c m) := by
  unfold addr_Meet.f meetB
  rw [addr_Fair_s, addr_Fair_s, addr_Has_s, addr_Has_s]
  unfold Com.hasB
  simp only [Option.bind_some]
  cases Com.fairB b n <;> cases Com.fairB c m <;> cases decide (b ≤ c ∧ c < b + Com.sz n) <;> simp

end Go.Proofs.Ytdcabfonjmeajaa.PAlloc
set_option linter.unusedVariables false
set_option linter.unusedSimpArgs false
namespace Go.Proofs.Ytdcabfonjmeajaa.PAlloc
open Go.RowKit Go.Proofs.YtdcabfonjmeajaaW.PrintWords Go.Proofs.YtdcabfonjmeajaaW.PrintLast Go.Proofs.YtdcabfonjmeajaaW.PrintMore

/-! ### conf.once -/
theorem conf_once_l3 (same : Bool) (x y : Sp) (hx : SmS x.f2) (hy : SmS y.f2) (i : Nat) (hi : i < x.f2.f3.length) {r : Bool}
    (h1 : (∀ j, (hj : j < y.f2.f3.length) → (same = true → i ≠ j) → DifR x.f0 y.f0 x.f2.f3[i] y.f2.f3[j]) → Ev (fun k => conf_once.l2 k same x.f2.f3 (x.f2.f3.length : Int) ((i + 1 : Nat) : Int) x.f0 x.f1 x.f2.f0 x.f2.f1 x.f2.f2 x.f2.f3 x.f2.f4 x.f2.f5 x.f2.f6 y.f0 y.f1 y.f2.f0 y.f2.f1 y.f2.f2 y.f2.f3 y.f2.f4 y.f2.f5 y.f2.f6) r)
    (h2 : (¬ ∀ j, (hj : j < y.f2.f3.length) → (same = true → i ≠ j) → DifR x.f0 y.f0 x.f2.f3[i] y.f2.f3[j]) → r = false) : Ev (fun k => conf_once.l3 k same (i : Int) x.f2.f3 (x.f2.f3.length : Int) (i : Int) y.f2.f3 (y.f2.f3.length : Int) 0 x.f0 x.f1 x.f2.f0 x.f2.f1 x.f2.f2 x.f2.f3 x.f2.f4 x.f2.f5 x.f2.f6 y.f0 y.f1 y.f2.f0 y.f2.f1 y.f2.f2 y.f2.f3 y.f2.f4 y.f2.f5 y.f2.f6 x.f2.f3[i].f0 x.f2.f3[i].f1) r := by
  have b1 := hx.2.1
  have b2 := hy.2.1
  have E : ∀ j (hj : j < y.f2.f3.length) (r : Bool), (((same = true → i ≠ j) → DifR x.f0 y.f0 x.f2.f3[i] y.f2.f3[j]) → Ev (fun k => conf_once.l3 k same (i : Int) x.f2.f3 (x.f2.f3.length : Int) (i : Int) y.f2.f3 (y.f2.f3.length : Int) ((j + 1 : Nat) : Int) x.f0 x.f1 x.f2.f0 x.f2.f1 x.f2.f2 x.f2.f3 x.f2.f4 x.f2.f5 x.f2.f6 y.f0 y.f1 y.f2.f0 y.f2.f1 y.f2.f2 y.f2.f3 y.f2.f4 y.f2.f5 y.f2.f6 x.f2.f3[i].f0 x.f2.f3[i].f1) r) → ((¬ ((same = true → i ≠ j) → DifR x.f0 y.f0 x.f2.f3[i] y.f2.f3[j])) → r = false) → Ev (fun k => conf_once.l3 k same (i : Int) x.f2.f3 (x.f2.f3.length : Int) (i : Int) y.f2.f3 (y.f2.f3.length : Int) (j : Int) x.f0 x.f1 x.f2.f0 x.f2.f1 x.f2.f2 x.f2.f3 x.f2.f4 x.f2.f5 x.f2.f6 y.f0 y.f1 y.f2.f0 y.f2.f1 y.f2.f2 y.f2.f3 y.f2.f4 y.f2.f5 y.f2.f6 x.f2.f3[i].f0 x.f2.f3[i].f1) r := by
    intro j hj r h3 h4
    have hw : wrap64 ((j : Int) + 1) = ((j + 1 : Nat) : Int) := wrap_next hj (by omega)
    have eJ : rd_T59 y.f2.f3 (j : Int) = y.f2.f3[j] := rd_get hj
    have tail : (same = true → i ≠ j) → Ev (fun k => if x.f2.f3[i].f1 = y.f2.f3[j].f1 then some false else if x.f0 = y.f0 then (if x.f2.f3[i].f0.toList = y.f2.f3[j].f0.toList then some false else conf_once.l3 k same (i : Int) x.f2.f3 (x.f2.f3.length : Int) (i : Int) y.f2.f3 (y.f2.f3.length : Int) ((j + 1 : Nat) : Int) x.f0 x.f1 x.f2.f0 x.f2.f1 x.f2.f2 x.f2.f3 x.f2.f4 x.f2.f5 x.f2.f6 y.f0 y.f1 y.f2.f0 y.f2.f1 y.f2.f2 y.f2.f3 y.f2.f4 y.f2.f5 y.f2.f6 x.f2.f3[i].f0 x.f2.f3[i].f1) else conf_once.l3 k same (i : Int) x.f2.f3 (x.f2.f3.length : Int) (i : Int) y.f2.f3 (y.f2.f3.length : Int) ((j + 1 : Nat) : Int) x.f0 x.f1 x.f2.f0 x.f2.f1 x.f2.f2 x.f2.f3 x.f2.f4 x.f2.f5 x.f2.f6 y.f0 y.f1 y.f2.f0 y.f2.f1 y.f2.f2 y.f2.f3 y.f2.f4 y.f2.f5 y.f2.f6 x.f2.f3[i].f0 x.f2.f3[i].f1) r := by
      intro hs
      by_cases c1 : x.f2.f3[i].f1 = y.f2.f3[j].f1
      · rw [h4 (fun h => (h hs).1 c1)]; exact Ev.pos c1 Ev.some'
      · refine Ev.neg c1 ?_
        by_cases c2 : x.f0 = y.f0
        · refine Ev.pos c2 ?_
          by_cases c3 : x.f2.f3[i].f0.toList = y.f2.f3[j].f0.toList
          · rw [h4 (fun h => (h hs).2 ⟨c2, c3⟩)]; exact Ev.pos c3 Ev.some'
          · exact Ev.neg c3 (h3 (fun _ => ⟨c1, fun h => c3 h.2⟩))
        · exact Ev.neg c2 (h3 (fun _ => ⟨c1, fun h => c2 h.1⟩))
    cases same with
    | true =>
      by_cases c : i = j
      · refine Ev.step (fun k => ?_) (h3 (fun h => absurd c (h rfl)))
        show conf_once.l3 (k + 1) _ _ _ _ _ _ _ _ _ _ _ _ _ _ _ _ _ _ _ _ _ _ _ _ _ _ _ _ = _
        rw [conf_once.l3, if_pos (by omega), if_pos (by omega), if_pos (by omega), if_pos rfl, if_pos (by omega), hw]
      · refine Ev.step (fun k => ?_) (tail (fun _ => c))
        show conf_once.l3 (k + 1) _ _ _ _ _ _ _ _ _ _ _ _ _ _ _ _ _ _ _ _ _ _ _ _ _ _ _ _ = _
        rw [conf_once.l3, if_pos (by omega), if_pos (by omega), if_pos (by omega), if_pos rfl, if_neg (by omega), hw, eJ]
    | false =>
      refine Ev.step (fun k => ?_) (tail (fun h => by cases h))
      show conf_once.l3 (k + 1) _ _ _ _ _ _ _ _ _ _ _ _ _ _ _ _ _ _ _ _ _ _ _ _ _ _ _ _ = _
      rw [conf_once.l3, if_pos (by omega), if_pos (by omega), if_pos (by omega), if_neg (by simp), hw, eJ]
  refine loopC (n := y.f2.f3.length) (L := fun k j => conf_once.l3 k same (i : Int) x.f2.f3 (x.f2.f3.length : Int) (i : Int) y.f2.f3 (y.f2.f3.length : Int) j x.f0 x.f1 x.f2.f0 x.f2.f1 x.f2.f2 x.f2.f3 x.f2.f4 x.f2.f5 x.f2.f6 y.f0 y.f1 y.f2.f0 y.f2.f1 y.f2.f2 y.f2.f3 y.f2.f4 y.f2.f5 y.f2.f6 x.f2.f3[i].f0 x.f2.f3[i].f1) (fun j => ∃ h : j < y.f2.f3.length, (same = true → i ≠ j) → DifR x.f0 y.f0 x.f2.f3[i] y.f2.f3[j]) false (fun j hj hp r h3 => ?_) (fun j hj hp => ?_) (fun h3 => ?_) (fun h3 => ?_)
  · exact E j hj r (fun _ => h3) (fun h => absurd hp.2 h)
  · exact E j hj false (fun h => absurd ⟨hj, h⟩ hp) (fun _ => rfl)
  · refine Ev.step (fun k => ?_) (h1 (fun j hj => (h3 j hj).2))
    show conf_once.l3 (k + 1) _ _ _ _ _ _ _ _ _ _ _ _ _ _ _ _ _ _ _ _ _ _ _ _ _ _ _ _ = _
    rw [conf_once.l3, if_neg (by omega), wrap_next hi (by omega)]
  · obtain ⟨j, hj, hp⟩ := h3
    exact h2 (fun h => hp ⟨hj, h j hj⟩)
theorem conf_once_l2 (same : Bool) (x y : Sp) (hx : SmS x.f2) (hy : SmS y.f2) {r : Bool}
    (hr : r = true ↔ ∀ i j, (hi : i < x.f2.f3.length) → (hj : j < y.f2.f3.length) → (same = true → i ≠ j) → DifR x.f0 y.f0 x.f2.f3[i] y.f2.f3[j]) : Ev (fun k => conf_once.l2 k same x.f2.f3 (x.f2.f3.length : Int) 0 x.f0 x.f1 x.f2.f0 x.f2.f1 x.f2.f2 x.f2.f3 x.f2.f4 x.f2.f5 x.f2.f6 y.f0 y.f1 y.f2.f0 y.f2.f1 y.f2.f2 y.f2.f3 y.f2.f4 y.f2.f5 y.f2.f6) r := by
  have b1 := hx.2.1
  have E : ∀ i (hi : i < x.f2.f3.length) (r : Bool), ((∀ j, (hj : j < y.f2.f3.length) → (same = true → i ≠ j) → DifR x.f0 y.f0 x.f2.f3[i] y.f2.f3[j]) → Ev (fun k => conf_once.l2 k same x.f2.f3 (x.f2.f3.length : Int) ((i + 1 : Nat) : Int) x.f0 x.f1 x.f2.f0 x.f2.f1 x.f2.f2 x.f2.f3 x.f2.f4 x.f2.f5 x.f2.f6 y.f0 y.f1 y.f2.f0 y.f2.f1 y.f2.f2 y.f2.f3 y.f2.f4 y.f2.f5 y.f2.f6) r) → ((¬ ∀ j, (hj : j < y.f2.f3.length) → (same = true → i ≠ j) → DifR x.f0 y.f0 x.f2.f3[i] y.f2.f3[j]) → r = false) → Ev (fun k => conf_once.l2 k same x.f2.f3 (x.f2.f3.length : Int) (i : Int) x.f0 x.f1 x.f2.f0 x.f2.f1 x.f2.f2 x.f2.f3 x.f2.f4 x.f2.f5 x.f2.f6 y.f0 y.f1 y.f2.f0 y.f2.f1 y.f2.f2 y.f2.f3 y.f2.f4 y.f2.f5 y.f2.f6) r := by
    intro i hi r h3 h4
    refine Ev.step (fun k => ?_) (conf_once_l3 same x y hx hy i hi h3 h4)
    show conf_once.l2 (k + 1) _ _ _ _ _ _ _ _ _ _ _ _ _ _ _ _ _ _ _ _ _ _ = _
    rw [conf_once.l2, if_pos (by omega), if_pos (by omega), if_pos (by omega), show rd_T59 x.f2.f3 (i : Int) = x.f2.f3[i] from rd_get hi]
  refine loopC (n := x.f2.f3.length) (L := fun k i => conf_once.l2 k same x.f2.f3 (x.f2.f3.length : Int) i x.f0 x.f1 x.f2.f0 x.f2.f1 x.f2.f2 x.f2.f3 x.f2.f4 x.f2.f5 x.f2.f6 y.f0 y.f1 y.f2.f0 y.f2.f1 y.f2.f2 y.f2.f3 y.f2.f4 y.f2.f5 y.f2.f6) (fun i => ∃ h : i < x.f2.f3.length, ∀ j, (hj : j < y.f2.f3.length) → (same = true → i ≠ j) → DifR x.f0 y.f0 x.f2.f3[i] y.f2.f3[j]) false (fun i hi hp r h3 => ?_) (fun i hi hp => ?_) (fun h3 => ?_) (fun h3 => ?_)
  · exact E i hi r (fun _ => h3) (fun h => absurd hp.2 h)
  · exact E i hi false (fun h => absurd ⟨hi, h⟩ hp) (fun _ => rfl)
  · rw [hr.2 (fun i j hi hj => (h3 i hi).2 j hj)]
    refine Ev.step (f := fun _ => some true) (fun k => ?_) Ev.some'
    show conf_once.l2 (k + 1) _ _ _ _ _ _ _ _ _ _ _ _ _ _ _ _ _ _ _ _ _ _ = _
    rw [conf_once.l2, if_neg (by omega)]
  · obtain ⟨i, hi, hp⟩ := h3
    cases r with
    | false => rfl
    | true => exact absurd ⟨hi, fun j hj => hr.1 rfl i j hi hj⟩ hp
theorem conf_once_l1 (same : Bool) (x y : Sp) (hx : SmS x.f2) (hy : SmS y.f2) (i : Nat) (hi : i < x.f2.f2.length) {r : Bool}
    (h1 : (same = true → ∀ j, (hj : j < y.f2.f2.length) → i ≠ j → DisjP x.f2.f2[i] y.f2.f2[j]) → Ev (fun k => conf_once.l0 k same x.f2.f2 (x.f2.f2.length : Int) ((i + 1 : Nat) : Int) x.f0 x.f1 x.f2.f0 x.f2.f1 x.f2.f2 x.f2.f3 x.f2.f4 x.f2.f5 x.f2.f6 y.f0 y.f1 y.f2.f0 y.f2.f1 y.f2.f2 y.f2.f3 y.f2.f4 y.f2.f5 y.f2.f6) r)
    (h2 : (¬ (same = true → ∀ j, (hj : j < y.f2.f2.length) → i ≠ j → DisjP x.f2.f2[i] y.f2.f2[j])) → r = false) : Ev (fun k => conf_once.l1 k same (i : Int) x.f2.f2 (x.f2.f2.length : Int) (i : Int) y.f2.f2 (y.f2.f2.length : Int) 0 x.f0 x.f1 x.f2.f0 x.f2.f1 x.f2.f2 x.f2.f3 x.f2.f4 x.f2.f5 x.f2.f6 y.f0 y.f1 y.f2.f0 y.f2.f1 y.f2.f2 y.f2.f3 y.f2.f4 y.f2.f5 y.f2.f6 x.f2.f2[i].f0 x.f2.f2[i].f1) r := by
  have b1 := hx.1
  have b2 := hy.1
  have E : ∀ j (hj : j < y.f2.f2.length) (r : Bool), ((same = true → i ≠ j → DisjP x.f2.f2[i] y.f2.f2[j]) → Ev (fun k => conf_once.l1 k same (i : Int) x.f2.f2 (x.f2.f2.length : Int) (i : Int) y.f2.f2 (y.f2.f2.length : Int) ((j + 1 : Nat) : Int) x.f0 x.f1 x.f2.f0 x.f2.f1 x.f2.f2 x.f2.f3 x.f2.f4 x.f2.f5 x.f2.f6 y.f0 y.f1 y.f2.f0 y.f2.f1 y.f2.f2 y.f2.f3 y.f2.f4 y.f2.f5 y.f2.f6 x.f2.f2[i].f0 x.f2.f2[i].f1) r) → ((¬ (same = true → i ≠ j → DisjP x.f2.f2[i] y.f2.f2[j])) → r = false) → Ev (fun k => conf_once.l1 k same (i : Int) x.f2.f2 (x.f2.f2.length : Int) (i : Int) y.f2.f2 (y.f2.f2.length : Int) (j : Int) x.f0 x.f1 x.f2.f0 x.f2.f1 x.f2.f2 x.f2.f3 x.f2.f4 x.f2.f5 x.f2.f6 y.f0 y.f1 y.f2.f0 y.f2.f1 y.f2.f2 y.f2.f3 y.f2.f4 y.f2.f5 y.f2.f6 x.f2.f2[i].f0 x.f2.f2[i].f1) r := by
    intro j hj r h3 h4
    have hw : wrap64 ((j : Int) + 1) = ((j + 1 : Nat) : Int) := wrap_next hj (by omega)
    have eJ : rd_T62 y.f2.f2 (j : Int) = y.f2.f2[j] := rd_get hj
    cases same with
    | true =>
      by_cases c : i = j
      · refine Ev.step (fun k => ?_) (h3 (fun _ h => absurd c h))
        show conf_once.l1 (k + 1) _ _ _ _ _ _ _ _ _ _ _ _ _ _ _ _ _ _ _ _ _ _ _ _ _ _ _ _ = _
        rw [conf_once.l1, if_pos (by omega), if_pos (by omega), if_pos (by omega), if_pos rfl, if_pos (by omega), hw]
      · refine Ev.step (f := fun k => if decide (x.f2.f2[i].f0 ≤ y.f2.f2[j].f0 ∧ y.f2.f2[j].f0 ≤ x.f2.f2[i].f1) = true then some false else (if decide (y.f2.f2[j].f0 ≤ x.f2.f2[i].f0 ∧ x.f2.f2[i].f0 ≤ y.f2.f2[j].f1) = true then some false else conf_once.l1 k true (i : Int) x.f2.f2 (x.f2.f2.length : Int) (i : Int) y.f2.f2 (y.f2.f2.length : Int) ((j + 1 : Nat) : Int) x.f0 x.f1 x.f2.f0 x.f2.f1 x.f2.f2 x.f2.f3 x.f2.f4 x.f2.f5 x.f2.f6 y.f0 y.f1 y.f2.f0 y.f2.f1 y.f2.f2 y.f2.f3 y.f2.f4 y.f2.f5 y.f2.f6 x.f2.f2[i].f0 x.f2.f2[i].f1)) (fun k => ?_) ?_
        · show conf_once.l1 (k + 1) _ _ _ _ _ _ _ _ _ _ _ _ _ _ _ _ _ _ _ _ _ _ _ _ _ _ _ _ = _
          rw [conf_once.l1, if_pos (by omega), if_pos (by omega), if_pos (by omega), if_pos rfl, if_neg (by omega), eJ, conf_has_s, Option.bind_some, conf_has_s, Option.bind_some, hw]
        · by_cases c1 : x.f2.f2[i].f0 ≤ y.f2.f2[j].f0 ∧ y.f2.f2[j].f0 ≤ x.f2.f2[i].f1
          · rw [h4 (fun h => (h rfl c).1 c1)]; exact Ev.pos (decide_eq_true c1) Ev.some'
          · refine Ev.neg (by rw [decide_eq_false c1]; simp) ?_
            by_cases c2 : y.f2.f2[j].f0 ≤ x.f2.f2[i].f0 ∧ x.f2.f2[i].f0 ≤ y.f2.f2[j].f1
            · rw [h4 (fun h => (h rfl c).2 c2)]; exact Ev.pos (decide_eq_true c2) Ev.some'
            · exact Ev.neg (by rw [decide_eq_false c2]; simp) (h3 (fun _ _ => ⟨c1, c2⟩))
    | false =>
      refine Ev.step (fun k => ?_) (h3 (fun h => by cases h))
      show conf_once.l1 (k + 1) _ _ _ _ _ _ _ _ _ _ _ _ _ _ _ _ _ _ _ _ _ _ _ _ _ _ _ _ = _
      rw [conf_once.l1, if_pos (by omega), if_pos (by omega), if_pos (by omega), if_neg (by simp), hw]
  refine loopC (n := y.f2.f2.length) (L := fun k j => conf_once.l1 k same (i : Int) x.f2.f2 (x.f2.f2.length : Int) (i : Int) y.f2.f2 (y.f2.f2.length : Int) j x.f0 x.f1 x.f2.f0 x.f2.f1 x.f2.f2 x.f2.f3 x.f2.f4 x.f2.f5 x.f2.f6 y.f0 y.f1 y.f2.f0 y.f2.f1 y.f2.f2 y.f2.f3 y.f2.f4 y.f2.f5 y.f2.f6 x.f2.f2[i].f0 x.f2.f2[i].f1) (fun j => ∃ h : j < y.f2.f2.length, same = true → i ≠ j → DisjP x.f2.f2[i] y.f2.f2[j]) false (fun j hj hp r h3 => ?_) (fun j hj hp => ?_) (fun h3 => ?_) (fun h3 => ?_)
  · exact E j hj r (fun _ => h3) (fun h => absurd hp.2 h)
  · exact E j hj false (fun h => absurd ⟨hj, h⟩ hp) (fun _ => rfl)
  · refine Ev.step (fun k => ?_) (h1 (fun e j hj => (h3 j hj).2 e))
    show conf_once.l1 (k + 1) _ _ _ _ _ _ _ _ _ _ _ _ _ _ _ _ _ _ _ _ _ _ _ _ _ _ _ _ = _
    rw [conf_once.l1, if_neg (by omega), wrap_next hi (by omega)]
  · obtain ⟨j, hj, hp⟩ := h3
    exact h2 (fun h => hp ⟨hj, fun e => h e j hj⟩)
theorem conf_once_l0 (same : Bool) (x y : Sp) (hx : SmS x.f2) (hy : SmS y.f2) {r : Bool}
    (hr : r = true ↔ (same = true → ∀ i j, (hi : i < x.f2.f2.length) → (hj : j < y.f2.f2.length) → i ≠ j → DisjP x.f2.f2[i] y.f2.f2[j]) ∧
      ∀ i j, (hi : i < x.f2.f3.length) → (hj : j < y.f2.f3.length) → (same = true → i ≠ j) → DifR x.f0 y.f0 x.f2.f3[i] y.f2.f3[j]) : Ev (fun k => conf_once.l0 k same x.f2.f2 (x.f2.f2.length : Int) 0 x.f0 x.f1 x.f2.f0 x.f2.f1 x.f2.f2 x.f2.f3 x.f2.f4 x.f2.f5 x.f2.f6 y.f0 y.f1 y.f2.f0 y.f2.f1 y.f2.f2 y.f2.f3 y.f2.f4 y.f2.f5 y.f2.f6) r := by
  have b1 := hx.1
  have E : ∀ i (hi : i < x.f2.f2.length) (r : Bool), ((same = true → ∀ j, (hj : j < y.f2.f2.length) → i ≠ j → DisjP x.f2.f2[i] y.f2.f2[j]) → Ev (fun k => conf_once.l0 k same x.f2.f2 (x.f2.f2.length : Int) ((i + 1 : Nat) : Int) x.f0 x.f1 x.f2.f0 x.f2.f1 x.f2.f2 x.f2.f3 x.f2.f4 x.f2.f5 x.f2.f6 y.f0 y.f1 y.f2.f0 y.f2.f1 y.f2.f2 y.f2.f3 y.f2.f4 y.f2.f5 y.f2.f6) r) → ((¬ (same = true → ∀ j, (hj : j < y.f2.f2.length) → i ≠ j → DisjP x.f2.f2[i] y.f2.f2[j])) → r = false) → Ev (fun k => conf_once.l0 k same x.f2.f2 (x.f2.f2.length : Int) (i : Int) x.f0 x.f1 x.f2.f0 x.f2.f1 x.f2.f2 x.f2.f3 x.f2.f4 x.f2.f5 x.f2.f6 y.f0 y.f1 y.f2.f0 y.f2.f1 y.f2.f2 y.f2.f3 y.f2.f4 y.f2.f5 y.f2.f6) r := by
    intro i hi r h3 h4
    refine Ev.step (fun k => ?_) (conf_once_l1 same x y hx hy i hi h3 h4)
    show conf_once.l0 (k + 1) _ _ _ _ _ _ _ _ _ _ _ _ _ _ _ _ _ _ _ _ _ _ = _
    rw [conf_once.l0, if_pos (by omega), if_pos (by omega), if_pos (by omega), show rd_T62 x.f2.f2 (i : Int) = x.f2.f2[i] from rd_get hi]
  refine loopC (n := x.f2.f2.length) (L := fun k i => conf_once.l0 k same x.f2.f2 (x.f2.f2.length : Int) i x.f0 x.f1 x.f2.f0 x.f2.f1 x.f2.f2 x.f2.f3 x.f2.f4 x.f2.f5 x.f2.f6 y.f0 y.f1 y.f2.f0 y.f2.f1 y.f2.f2 y.f2.f3 y.f2.f4 y.f2.f5 y.f2.f6) (fun i => ∃ h : i < x.f2.f2.length, same = true → ∀ j, (hj : j < y.f2.f2.length) → i ≠ j → DisjP x.f2.f2[i] y.f2.f2[j]) false (fun i hi hp r h3 => ?_) (fun i hi hp => ?_) (fun h3 => ?_) (fun h3 => ?_)
  · exact E i hi r (fun _ => h3) (fun h => absurd hp.2 h)
  · exact E i hi false (fun h => absurd ⟨hi, h⟩ hp) (fun _ => rfl)
  · refine Ev.step (fun k => ?_) (conf_once_l2 same x y hx hy (r := r) ?_)
    · show conf_once.l0 (k + 1) _ _ _ _ _ _ _ _ _ _ _ _ _ _ _ _ _ _ _ _ _ _ = _
      rw [conf_once.l0, if_neg (by omega)]
    · rw [hr]
      exact ⟨fun h => h.2, fun h => ⟨fun e i j hi hj => (h3 i hi).2 e j hj, h⟩⟩
  · obtain ⟨i, hi, hp⟩ := h3
    cases r with
    | false => rfl
    | true => exact absurd ⟨hi, fun e j hj => (hr.1 rfl).1 e i j hi hj⟩ hp
open Classical in
theorem conf_once_s (x y : Sp) (hx : SmS x.f2) (hy : SmS y.f2) (same : Bool) : Ev (fun k => conf_once.f k x.f0 x.f1 x.f2.f0 x.f2.f1 x.f2.f2 x.f2.f3 x.f2.f4 x.f2.f5 x.f2.f6 y.f0 y.f1 y.f2.f0 y.f2.f1 y.f2.f2 y.f2.f3 y.f2.f4 y.f2.f5 y.f2.f6 same) (decide (OnceP x y same)) := by
  have J : ∀ (b : Bool), (b = true → ¬ OnceP x y same) → (b = false → (same = false → FarS x y)) → Ev (fun k => conf_once.j0 k same b x.f0 x.f1 x.f2.f0 x.f2.f1 x.f2.f2 x.f2.f3 x.f2.f4 x.f2.f5 x.f2.f6 y.f0 y.f1 y.f2.f0 y.f2.f1 y.f2.f2 y.f2.f3 y.f2.f4 y.f2.f5 y.f2.f6) (decide (OnceP x y same)) := by
    intro b hb hc
    cases b with
    | true =>
      rw [decide_eq_false (hb rfl)]
      exact Ev.step (f := fun _ => some false) (fun k => by show conf_once.j0 (k + 1) _ _ _ _ _ _ _ _ _ _ _ _ _ _ _ _ _ _ _ _ = _; rw [conf_once.j0, if_pos rfl]) Ev.some'
    | false =>
      refine Ev.step (fun k => by show conf_once.j0 (k + 1) _ _ _ _ _ _ _ _ _ _ _ _ _ _ _ _ _ _ _ _ = _; rw [conf_once.j0, if_neg (by simp)]) (conf_once_l0 same x y hx hy (r := decide (OnceP x y same)) ?_)
      rw [decide_eq_true_iff]
      exact ⟨fun h => h.2, fun h => ⟨hc rfl, h⟩⟩
  cases same with
  | true =>
    refine Ev.congr (f := fun k => conf_once.j0 k true false x.f0 x.f1 x.f2.f0 x.f2.f1 x.f2.f2 x.f2.f3 x.f2.f4 x.f2.f5 x.f2.f6 y.f0 y.f1 y.f2.f0 y.f2.f1 y.f2.f2 y.f2.f3 y.f2.f4 y.f2.f5 y.f2.f6) (fun k => ?_) (J false (fun h => by cases h) (fun _ h => by cases h))
    unfold conf_once.f
    rw [if_pos rfl]
  | false =>
    refine Ev.congr (f := fun k => if meetB x.f2.f0 x.f2.f1 y.f2.f0 y.f2.f1 = true then conf_once.j0 k false true x.f0 x.f1 x.f2.f0 x.f2.f1 x.f2.f2 x.f2.f3 x.f2.f4 x.f2.f5 x.f2.f6 y.f0 y.f1 y.f2.f0 y.f2.f1 y.f2.f2 y.f2.f3 y.f2.f4 y.f2.f5 y.f2.f6 else (if x.f0 = y.f0 then conf_once.j0 k false false x.f0 x.f1 x.f2.f0 x.f2.f1 x.f2.f2 x.f2.f3 x.f2.f4 x.f2.f5 x.f2.f6 y.f0 y.f1 y.f2.f0 y.f2.f1 y.f2.f2 y.f2.f3 y.f2.f4 y.f2.f5 y.f2.f6 else (if x.f2.f4 = y.f2.f4 then conf_once.j0 k false (decide (x.f2.f4 > 0)) x.f0 x.f1 x.f2.f0 x.f2.f1 x.f2.f2 x.f2.f3 x.f2.f4 x.f2.f5 x.f2.f6 y.f0 y.f1 y.f2.f0 y.f2.f1 y.f2.f2 y.f2.f3 y.f2.f4 y.f2.f5 y.f2.f6 else conf_once.j0 k false false x.f0 x.f1 x.f2.f0 x.f2.f1 x.f2.f2 x.f2.f3 x.f2.f4 x.f2.f5 x.f2.f6 y.f0 y.f1 y.f2.f0 y.f2.f1 y.f2.f2 y.f2.f3 y.f2.f4 y.f2.f5 y.f2.f6))) (fun k => ?_) ?_
    · unfold conf_once.f
      rw [if_neg (by simp), addr_Meet_s, Option.bind_some]
    · by_cases c1 : meetB x.f2.f0 x.f2.f1 y.f2.f0 y.f2.f1 = true
      · refine Ev.pos c1 (J true (fun _ h => ?_) (fun h => by cases h))
        have := (h.1 rfl).1
        rw [show meetC x.f2.f0 x.f2.f1 y.f2.f0 y.f2.f1 = meetB x.f2.f0 x.f2.f1 y.f2.f0 y.f2.f1 from rfl, c1] at this
        cases this
      · have c1' : meetC x.f2.f0 x.f2.f1 y.f2.f0 y.f2.f1 = false := Bool.eq_false_iff.mpr c1
        refine Ev.neg c1 ?_
        by_cases c2 : x.f0 = y.f0
        · exact Ev.pos c2 (J false (fun h => by cases h) (fun _ _ => ⟨c1', fun h => h.1 c2⟩))
        · refine Ev.neg c2 ?_
          by_cases c3 : x.f2.f4 = y.f2.f4
          · exact Ev.pos c3 (J _ (fun h h2 => (h2.1 rfl).2 ⟨c2, c3, of_decide_eq_true h⟩) (fun h _ => ⟨c1', fun h2 => of_decide_eq_false h h2.2.2⟩))
          · exact Ev.neg c3 (J false (fun h => by cases h) (fun _ _ => ⟨c1', fun h => c3 h.2.1⟩))

end Go.Proofs.Ytdcabfonjmeajaa.PAlloc
set_option linter.unusedVariables false
set_option linter.unusedSimpArgs false
namespace Go.Proofs.Ytdcabfonjmeajaa.PAlloc
open Go.RowKit Go.Proofs.YtdcabfonjmeajaaW.PrintWords Go.Proofs.YtdcabfonjmeajaaW.PrintLast Go.Proofs.YtdcabfonjmeajaaW.PrintMore

/-! ### conf.unlike -/
open Classical in
theorem conf_unlike_l1 (l : List Sp) (hl : l.length ≤ 1000) (hS : ∀ (i : Nat) (hi : i < l.length), SmS l[i].f2) (i : Nat) (hi : i < l.length) {r : Bool}
    (h1 : (∀ j, (hj : j < l.length) → OnceP l[i] l[j] (decide (i = j))) → Ev (fun k => conf_unlike.l0 k l l (l.length : Int) ((i + 1 : Nat) : Int)) r) (h2 : (¬ ∀ j, (hj : j < l.length) → OnceP l[i] l[j] (decide (i = j))) → r = false) :
    Ev (fun k => conf_unlike.l1 k l (i : Int) l (l.length : Int) (i : Int) l (l.length : Int) 0 l[i].f0 l[i].f1 l[i].f2.f0 l[i].f2.f1 l[i].f2.f2 l[i].f2.f3 l[i].f2.f4 l[i].f2.f5 l[i].f2.f6) r := by
  have E : ∀ j (hj : j < l.length) (r : Bool), (OnceP l[i] l[j] (decide (i = j)) → Ev (fun k => conf_unlike.l1 k l (i : Int) l (l.length : Int) (i : Int) l (l.length : Int) ((j + 1 : Nat) : Int) l[i].f0 l[i].f1 l[i].f2.f0 l[i].f2.f1 l[i].f2.f2 l[i].f2.f3 l[i].f2.f4 l[i].f2.f5 l[i].f2.f6) r) →
      (¬ OnceP l[i] l[j] (decide (i = j)) → r = false) → Ev (fun k => conf_unlike.l1 k l (i : Int) l (l.length : Int) (i : Int) l (l.length : Int) (j : Int) l[i].f0 l[i].f1 l[i].f2.f0 l[i].f2.f1 l[i].f2.f2 l[i].f2.f3 l[i].f2.f4 l[i].f2.f5 l[i].f2.f6) r := by
    intro j hj r h3 h4
    have eD : ((i : Int) == (j : Int)) = decide (i = j) := by
      by_cases c : i = j
      · subst c; simp
      · rw [decide_eq_false c]; exact beq_eq_false_iff_ne.2 (fun h => c (by omega))
    refine Ev.step (fun k => ?_) (Ev.bind (conf_once_s l[i] l[j] (hS i hi) (hS j hj) (decide (i = j))) (f := fun k t => if t = true then conf_unlike.l1 k l (i : Int) l (l.length : Int) (i : Int) l (l.length : Int) ((j + 1 : Nat) : Int) l[i].f0 l[i].f1 l[i].f2.f0 l[i].f2.f1 l[i].f2.f2 l[i].f2.f3 l[i].f2.f4 l[i].f2.f5 l[i].f2.f6 else some false) ?_)
    · show conf_unlike.l1 (k + 1) _ _ _ _ _ _ _ _ _ _ _ _ _ _ _ _ _ = _
      rw [conf_unlike.l1, if_pos (by omega), if_pos (by omega), if_pos (by omega), show rd_T66 l (j : Int) = l[j] from rd_get hj, wrap_next hj (by omega), eD]
    · by_cases c : OnceP l[i] l[j] (decide (i = j))
      · exact Ev.pos (decide_eq_true c) (h3 c)
      · rw [h4 c]; exact Ev.neg (by rw [decide_eq_false c]; simp) Ev.some'
  refine loopC (n := l.length) (L := fun k j => conf_unlike.l1 k l (i : Int) l (l.length : Int) (i : Int) l (l.length : Int) j l[i].f0 l[i].f1 l[i].f2.f0 l[i].f2.f1 l[i].f2.f2 l[i].f2.f3 l[i].f2.f4 l[i].f2.f5 l[i].f2.f6) (fun j => ∃ h : j < l.length, OnceP l[i] l[j] (decide (i = j))) false (fun j hj hp r h3 => ?_) (fun j hj hp => ?_) (fun h3 => ?_) (fun h3 => ?_)
  · exact E j hj r (fun _ => h3) (fun h => absurd hp.2 h)
  · exact E j hj false (fun h => absurd ⟨hj, h⟩ hp) (fun _ => rfl)
  · refine Ev.step (fun k => ?_) (h1 (fun j hj => (h3 j hj).2))
    show conf_unlike.l1 (k + 1) _ _ _ _ _ _ _ _ _ _ _ _ _ _ _ _ _ = _
    rw [conf_unlike.l1, if_neg (by omega), wrap_next hi (by omega)]
  · obtain ⟨j, hj, hp⟩ := h3
    exact h2 (fun h => hp ⟨hj, h j hj⟩)
open Classical in
theorem conf_unlike_s (a b : Int) (nets : List Nt) (h : Sm nets) : Ev (fun k => conf_unlike.f k a b nets) (decide (UnlikeP (spotsL nets))) := by
  refine Ev.bind (conf_spots_s a b nets h) (f := fun k t => conf_unlike.l0 k t t (t.length : Int) 0) ?_
  have hN : (spotsL nets).length ≤ 1000 := by have := spots_len (n := 0) (fun x hx => (h.2 x hx).1); have := h.1; unfold spotsL; omega
  have hS : ∀ (i : Nat) (hi : i < (spotsL nets).length), SmS (spotsL nets)[i].f2 := fun i hi => (spots_all (F := SmS)).2 (fun n hn s hs => (h.2 n hn).2 s hs) _ (List.getElem_mem hi)
  generalize spotsL nets = l at *
  have E : ∀ i (hi : i < l.length) (r : Bool), ((∀ j, (hj : j < l.length) → OnceP l[i] l[j] (decide (i = j))) → Ev (fun k => conf_unlike.l0 k l l (l.length : Int) ((i + 1 : Nat) : Int)) r) → ((¬ ∀ j, (hj : j < l.length) → OnceP l[i] l[j] (decide (i = j))) → r = false) → Ev (fun k => conf_unlike.l0 k l l (l.length : Int) (i : Int)) r := by
    intro i hi r h3 h4
    refine Ev.step (fun k => ?_) (conf_unlike_l1 l hN hS i hi h3 h4)
    show conf_unlike.l0 (k + 1) _ _ _ _ = _
    rw [conf_unlike.l0, if_pos (by omega), if_pos (by omega), if_pos (by omega), show rd_T66 l (i : Int) = l[i] from rd_get hi]
  refine loopC (n := l.length) (L := fun k i => conf_unlike.l0 k l l (l.length : Int) i) (fun i => ∃ h : i < l.length, ∀ j, (hj : j < l.length) → OnceP l[i] l[j] (decide (i = j))) false (fun i hi hp r h3 => ?_) (fun i hi hp => ?_) (fun h3 => ?_) (fun h3 => ?_)
  · exact E i hi r (fun _ => h3) (fun h => absurd hp.2 h)
  · exact E i hi false (fun h => absurd ⟨hi, h⟩ hp) (fun _ => rfl)
  · rw [decide_eq_true (show UnlikeP l from fun i j hi hj => (h3 i hi).2 j hj)]
    refine Ev.step (f := fun _ => some true) (fun k => ?_) Ev.some'
    show conf_unlike.l0 (k + 1) _ _ _ _ = _
    rw [conf_unlike.l0, if_neg (by omega)]
  · obtain ⟨i, hi, hp⟩ := h3
    exact decide_eq_false (fun h => hp ⟨hi, fun j hj => h i j hi hj⟩)

end Go.Proofs.Ytdcabfonjmeajaa.PAlloc
set_option linter.unusedVariables false
set_option linter.unusedSimpArgs false
namespace Go.Proofs.Ytdcabfonjmeajaa.PAlloc
open Go.RowKit Go.Proofs.YtdcabfonjmeajaaW.PrintWords Go.Proofs.YtdcabfonjmeajaaW.PrintLast Go.Proofs.YtdcabfonjmeajaaW.PrintMore

/-! ### conf.Check -/
open Classical in
theorem conf_Check_s (a b : Int) (nets : List Nt) (h : Sm nets) : Ev (fun k => conf_Check.f k a b nets) (checkI a b nets) := by
  unfold checkI
  refine Ev.bind (conf_form_s a b nets h) (f := fun k t => if t = true then ((conf_placed.f k a b nets).bind fun t193 => (if t193 = true then ((conf_unlike.f k a b nets).bind fun t194 => (if t194 = true then (some 0) else (some 8))) else (some 9))) else (some 1)) ?_
  by_cases c1 : FormP a b nets
  · rw [if_pos c1]
    refine Ev.pos (decide_eq_true c1) (Ev.bind (conf_placed_s a b nets h c1.2.2.2.2.2.2) (f := fun k t193 => (if t193 = true then ((conf_unlike.f k a b nets).bind fun t194 => (if t194 = true then (some 0) else (some 8))) else (some 9))) ?_)
    by_cases c2 : ∀ n ∈ nets, ∀ s ∈ n.f0, PlaceS a s
    · rw [if_pos c2]
      refine Ev.pos (decide_eq_true c2) (Ev.bind (conf_unlike_s a b nets h) (f := fun k t194 => (if t194 = true then (some 0) else (some 8))) ?_)
      by_cases c3 : UnlikeP (spotsL nets)
      · rw [if_pos c3]; exact Ev.pos (decide_eq_true c3) Ev.some'
      · rw [if_neg c3]; exact Ev.neg (by rw [decide_eq_false c3]; simp) Ev.some'
    · rw [if_neg c2]; exact Ev.neg (by rw [decide_eq_false c2]; simp) Ev.some'
  · rw [if_neg c1]; exact Ev.neg (by rw [decide_eq_false c1]; simp) Ev.some'

end Go.Proofs.Ytdcabfonjmeajaa.PAlloc
set_option linter.unusedVariables false
set_option linter.unusedSimpArgs false
namespace Go.Proofs.Ytdcabfonjmeajaa.PAlloc
open Go.RowKit Go.Proofs.YtdcabfonjmeajaaW.PrintWords Go.Proofs.YtdcabfonjmeajaaW.PrintLast Go.Proofs.YtdcabfonjmeajaaW.PrintMore

/-! ### conf.right -/
theorem conf_right_s (a b : Int) (nets : List Nt) (h : Sm nets) : Ev (fun k => conf_right.f k a b nets) (rightL a b nets) := by
  unfold rightL
  refine Ev.bind (conf_Check_s a b nets h) (f := fun k t => if t = 0 then ((conf_spots.f k a b nets).bind fun t197 => (some t197)) else (some ([] : List Sp))) ?_
  by_cases c : checkI a b nets = 0
  · rw [if_pos c]; exact Ev.pos c (Ev.bind (conf_spots_s a b nets h) (f := fun _ t => some t) Ev.some')
  · rw [if_neg c]; exact Ev.neg c Ev.some'

end Go.Proofs.Ytdcabfonjmeajaa.PAlloc
set_option linter.unusedVariables false
set_option linter.unusedSimpArgs false
namespace Go.Proofs.Ytdcabfonjmeajaa.PAlloc
open Go.RowKit Go.Proofs.YtdcabfonjmeajaaW.PrintWords Go.Proofs.YtdcabfonjmeajaaW.PrintLast Go.Proofs.YtdcabfonjmeajaaW.PrintMore

/-! ### conf.KeptFor -/
theorem conf_KeptFor_l1 (l : List Sp) (hl : l.length ≤ 1000) (hS : ∀ x ∈ l, SmS x.f2) (n : Int) (y : ByteArray) (m : Nat) (hm : m < l.length) {r : Int × Bool} (h1 : (if l[m].f0 = n then keptG y l[m].f2 else none) = none → Ev (fun k => conf_KeptFor.l0 k n y l (l.length : Int) ((m + 1 : Nat) : Int)) r) (h2 : ∀ v, (if l[m].f0 = n then keptG y l[m].f2 else none) = some v → r = v) :
    Ev (fun k => conf_KeptFor.l1 k n y l (l.length : Int) (m : Int) l[m].f2.f3 (l[m].f2.f3.length : Int) 0 l[m].f0 l[m].f1 l[m].f2.f0 l[m].f2.f1 l[m].f2.f2 l[m].f2.f3 l[m].f2.f4 l[m].f2.f5 l[m].f2.f6) r := by
  have h20 := (hS _ (List.getElem_mem hm)).2.1
  have eQ : (l[m].f2.f3.findSome? (fun r => if l[m].f0 = n ∧ r.f0.toList = y.toList then some (r.f1, true) else none)) = (if l[m].f0 = n then keptG y l[m].f2 else none) := by
    by_cases c : l[m].f0 = n
    · rw [if_pos c]; unfold keptG; congr 1; funext r; simp [c]
    · rw [if_neg c]; simp [c]
  rw [← eQ] at h1 h2
  refine loopF l[m].f2.f3 (fun r => if l[m].f0 = n ∧ r.f0.toList = y.toList then some (r.f1, true) else none) (L := fun k i => conf_KeptFor.l1 k n y l (l.length : Int) (m : Int) l[m].f2.f3 (l[m].f2.f3.length : Int) i l[m].f0 l[m].f1 l[m].f2.f0 l[m].f2.f1 l[m].f2.f2 l[m].f2.f3 l[m].f2.f4 l[m].f2.f5 l[m].f2.f6) (fun i hi v hv => ?_) (fun i hi hv r h3 => ?_) (fun h3 => ?_) h2
  · by_cases c : l[m].f0 = n ∧ l[m].f2.f3[i].f0.toList = y.toList
    · rw [if_pos c] at hv
      obtain rfl := Option.some.inj hv
      refine Ev.step (f := fun _ => some (l[m].f2.f3[i].f1, true)) (fun k => ?_) Ev.some'
      show conf_KeptFor.l1 (k + 1) _ _ _ _ _ _ _ _ _ _ _ _ _ _ _ _ _ = _
      rw [conf_KeptFor.l1, if_pos (by omega), if_pos (by omega), if_pos (by omega), show rd_T59 l[m].f2.f3 (i : Int) = l[m].f2.f3[i] from rd_get hi, if_pos c.1, if_pos c.2]
    · rw [if_neg c] at hv; cases hv
  · by_cases c : l[m].f0 = n ∧ l[m].f2.f3[i].f0.toList = y.toList
    · rw [if_pos c] at hv; cases hv
    · refine Ev.step (fun k => ?_) h3
      show conf_KeptFor.l1 (k + 1) _ _ _ _ _ _ _ _ _ _ _ _ _ _ _ _ _ = _
      rw [conf_KeptFor.l1, if_pos (by omega), if_pos (by omega), if_pos (by omega), show rd_T59 l[m].f2.f3 (i : Int) = l[m].f2.f3[i] from rd_get hi, wrap_next hi (by omega)]
      by_cases c1 : l[m].f0 = n
      · rw [if_pos c1, if_neg (fun h => c ⟨c1, h⟩)]
      · rw [if_neg c1]
  · refine Ev.step (fun k => ?_) (h1 h3)
    show conf_KeptFor.l1 (k + 1) _ _ _ _ _ _ _ _ _ _ _ _ _ _ _ _ _ = _
    rw [conf_KeptFor.l1, if_neg (by omega), wrap_next hm (by omega)]
theorem conf_KeptFor_s (a b : Int) (nets : List Nt) (h : Sm nets) (n : Int) (y : ByteArray) : Ev (fun k => conf_KeptFor.f k a b nets n y) (keptL a b nets n y) := by
  refine Ev.bind (conf_right_s a b nets h) (f := fun k t => conf_KeptFor.l0 k n y t (t.length : Int) 0) ?_
  have hN := rightL_len (a := a) (b := b) h
  have hS := rightL_sm (a := a) (b := b) h
  unfold keptL
  generalize rightL a b nets = l at *
  have E : ∀ i (hi : i < l.length) (r : Int × Bool), ((if l[i].f0 = n then keptG y l[i].f2 else none) = none → Ev (fun k => conf_KeptFor.l0 k n y l (l.length : Int) ((i + 1 : Nat) : Int)) r) → (∀ v, (if l[i].f0 = n then keptG y l[i].f2 else none) = some v → r = v) → Ev (fun k => conf_KeptFor.l0 k n y l (l.length : Int) (i : Int)) r := by
    intro i hi r h3 h4
    refine Ev.step (fun k => ?_) (conf_KeptFor_l1 l hN hS n y i hi h3 h4)
    show conf_KeptFor.l0 (k + 1) _ _ _ _ _ = _
    rw [conf_KeptFor.l0, if_pos (by omega), if_pos (by omega), if_pos (by omega), show rd_T66 l (i : Int) = l[i] from rd_get hi]
  refine loopF l (fun x => if x.f0 = n then keptG y x.f2 else none) (L := fun k i => conf_KeptFor.l0 k n y l (l.length : Int) i) (fun i hi v hv => E i hi v (fun h => by rw [h] at hv; cases hv) (fun u hu => by rw [hu] at hv; exact (Option.some.inj hv).symm)) (fun i hi hv r h3 => E i hi r (fun _ => h3) (fun u hu => by rw [hv] at hu; cases hu)) (fun h3 => ?_) (fun v hv => getD_some hv)
  rw [getD_none h3]
  refine Ev.step (f := fun _ => some (0, false)) (fun k => ?_) Ev.some'
  show conf_KeptFor.l0 (k + 1) _ _ _ _ _ = _
  rw [conf_KeptFor.l0, if_neg (by omega)]

end Go.Proofs.Ytdcabfonjmeajaa.PAlloc
set_option linter.unusedVariables false
set_option linter.unusedSimpArgs false
namespace Go.Proofs.Ytdcabfonjmeajaa.PAlloc
open Go.RowKit Go.Proofs.YtdcabfonjmeajaaW.PrintWords Go.Proofs.YtdcabfonjmeajaaW.PrintLast Go.Proofs.YtdcabfonjmeajaaW.PrintMore

/-! ### conf.Keeper -/
theorem conf_Keeper_l1 (l : List Sp) (hl : l.length ≤ 1000) (hS : ∀ x ∈ l, SmS x.f2) (x : Int) (m : Nat) (hm : m < l.length) {r : ByteArray × Bool} (h1 : keepG x l[m].f2 = none → Ev (fun k => conf_Keeper.l0 k x l (l.length : Int) ((m + 1 : Nat) : Int)) r) (h2 : ∀ v, keepG x l[m].f2 = some v → r = v) :
    Ev (fun k => conf_Keeper.l1 k x l (l.length : Int) (m : Int) l[m].f2.f3 (l[m].f2.f3.length : Int) 0) r := by
  have h20 := (hS _ (List.getElem_mem hm)).2.1
  refine loopF l[m].f2.f3 (fun r => if r.f1 = x then some (r.f0, true) else none) (L := fun k i => conf_Keeper.l1 k x l (l.length : Int) (m : Int) l[m].f2.f3 (l[m].f2.f3.length : Int) i) (fun i hi v hv => ?_) (fun i hi hv r h3 => ?_) (fun h3 => ?_) h2
  · by_cases c : l[m].f2.f3[i].f1 = x
    · rw [if_pos c] at hv
      obtain rfl := Option.some.inj hv
      refine Ev.step (f := fun _ => some (l[m].f2.f3[i].f0, true)) (fun k => ?_) Ev.some'
      show conf_Keeper.l1 (k + 1) _ _ _ _ _ _ _ = _
      rw [conf_Keeper.l1, if_pos (by omega), if_pos (by omega), if_pos (by omega), show rd_T59 l[m].f2.f3 (i : Int) = l[m].f2.f3[i] from rd_get hi, if_pos c]
    · rw [if_neg c] at hv; cases hv
  · by_cases c : l[m].f2.f3[i].f1 = x
    · rw [if_pos c] at hv; cases hv
    · refine Ev.step (fun k => ?_) h3
      show conf_Keeper.l1 (k + 1) _ _ _ _ _ _ _ = _
      rw [conf_Keeper.l1, if_pos (by omega), if_pos (by omega), if_pos (by omega), show rd_T59 l[m].f2.f3 (i : Int) = l[m].f2.f3[i] from rd_get hi, if_neg c, wrap_next hi (by omega)]
  · refine Ev.step (fun k => ?_) (h1 h3)
    show conf_Keeper.l1 (k + 1) _ _ _ _ _ _ _ = _
    rw [conf_Keeper.l1, if_neg (by omega), wrap_next hm (by omega)]
theorem conf_Keeper_s (a b : Int) (nets : List Nt) (h : Sm nets) (x : Int) : Ev (fun k => conf_Keeper.f k a b nets x) (keepL a b nets x) := by
  refine Ev.bind (conf_right_s a b nets h) (f := fun k t => conf_Keeper.l0 k x t (t.length : Int) 0) ?_
  have hN := rightL_len (a := a) (b := b) h
  have hS := rightL_sm (a := a) (b := b) h
  unfold keepL
  generalize rightL a b nets = l at *
  have E : ∀ i (hi : i < l.length) (r : ByteArray × Bool), (keepG x l[i].f2 = none → Ev (fun k => conf_Keeper.l0 k x l (l.length : Int) ((i + 1 : Nat) : Int)) r) → (∀ v, keepG x l[i].f2 = some v → r = v) → Ev (fun k => conf_Keeper.l0 k x l (l.length : Int) (i : Int)) r := by
    intro i hi r h3 h4
    refine Ev.step (fun k => ?_) (conf_Keeper_l1 l hN hS x i hi h3 h4)
    show conf_Keeper.l0 (k + 1) _ _ _ _ = _
    rw [conf_Keeper.l0, if_pos (by omega), if_pos (by omega), if_pos (by omega), show rd_T66 l (i : Int) = l[i] from rd_get hi]
  refine loopF l (fun y => keepG x y.f2) (L := fun k i => conf_Keeper.l0 k x l (l.length : Int) i) (fun i hi v hv => E i hi v (fun h => by rw [h] at hv; cases hv) (fun u hu => by rw [hu] at hv; exact (Option.some.inj hv).symm)) (fun i hi hv r h3 => E i hi r (fun _ => h3) (fun u hu => by rw [hv] at hu; cases hu)) (fun h3 => ?_) (fun v hv => getD_some hv)
  rw [getD_none h3]
  refine Ev.step (f := fun _ => some (⟨#[]⟩, false)) (fun k => ?_) Ev.some'
  show conf_Keeper.l0 (k + 1) _ _ _ _ = _
  rw [conf_Keeper.l0, if_neg (by omega)]

end Go.Proofs.Ytdcabfonjmeajaa.PAlloc
set_option linter.unusedVariables false
set_option linter.unusedSimpArgs false
namespace Go.Proofs.Ytdcabfonjmeajaa.PAlloc
open Go.RowKit Go.Proofs.YtdcabfonjmeajaaW.PrintWords Go.Proofs.YtdcabfonjmeajaaW.PrintLast Go.Proofs.YtdcabfonjmeajaaW.PrintMore

/-! ### conf.InPool -/
theorem conf_InPool_l1 (l : List Sp) (hl : l.length ≤ 1000) (hS : ∀ x ∈ l, SmS x.f2) (n y : Int) (m : Nat) (hm : m < l.length) {r : Bool} (h1 : (if l[m].f0 = n then poolG y l[m].f2 else none) = none → Ev (fun k => conf_InPool.l0 k n y l (l.length : Int) ((m + 1 : Nat) : Int)) r) (h2 : ∀ v, (if l[m].f0 = n then poolG y l[m].f2 else none) = some v → r = v) :
    Ev (fun k => conf_InPool.l1 k n y l (l.length : Int) (m : Int) l[m].f2.f2 (l[m].f2.f2.length : Int) 0 l[m].f0 l[m].f1 l[m].f2.f0 l[m].f2.f1 l[m].f2.f2 l[m].f2.f3 l[m].f2.f4 l[m].f2.f5 l[m].f2.f6) r := by
  have h20 := (hS _ (List.getElem_mem hm)).1
  have eQ : (l[m].f2.f2.findSome? (fun p => if l[m].f0 = n ∧ (p.f0 ≤ y ∧ y ≤ p.f1) then some true else none)) = (if l[m].f0 = n then poolG y l[m].f2 else none) := by
    by_cases c : l[m].f0 = n
    · rw [if_pos c]; unfold poolG; congr 1; funext r; simp [c]
    · rw [if_neg c]; simp [c]
  rw [← eQ] at h1 h2
  refine loopF l[m].f2.f2 (fun p => if l[m].f0 = n ∧ (p.f0 ≤ y ∧ y ≤ p.f1) then some true else none) (L := fun k i => conf_InPool.l1 k n y l (l.length : Int) (m : Int) l[m].f2.f2 (l[m].f2.f2.length : Int) i l[m].f0 l[m].f1 l[m].f2.f0 l[m].f2.f1 l[m].f2.f2 l[m].f2.f3 l[m].f2.f4 l[m].f2.f5 l[m].f2.f6) (fun i hi v hv => ?_) (fun i hi hv r h3 => ?_) (fun h3 => ?_) h2
  · by_cases c : l[m].f0 = n ∧ (l[m].f2.f2[i].f0 ≤ y ∧ y ≤ l[m].f2.f2[i].f1)
    · rw [if_pos c] at hv
      obtain rfl := Option.some.inj hv
      refine Ev.step (f := fun _ => some true) (fun k => ?_) Ev.some'
      show conf_InPool.l1 (k + 1) _ _ _ _ _ _ _ _ _ _ _ _ _ _ _ _ _ = _
      rw [conf_InPool.l1, if_pos (by omega), if_pos (by omega), if_pos (by omega), show rd_T62 l[m].f2.f2 (i : Int) = l[m].f2.f2[i] from rd_get hi, if_pos c.1, conf_has_s, Option.bind_some, if_pos (decide_eq_true c.2)]
    · rw [if_neg c] at hv; cases hv
  · by_cases c : l[m].f0 = n ∧ (l[m].f2.f2[i].f0 ≤ y ∧ y ≤ l[m].f2.f2[i].f1)
    · rw [if_pos c] at hv; cases hv
    · refine Ev.step (fun k => ?_) h3
      show conf_InPool.l1 (k + 1) _ _ _ _ _ _ _ _ _ _ _ _ _ _ _ _ _ = _
      rw [conf_InPool.l1, if_pos (by omega), if_pos (by omega), if_pos (by omega), show rd_T62 l[m].f2.f2 (i : Int) = l[m].f2.f2[i] from rd_get hi, wrap_next hi (by omega)]
      by_cases c1 : l[m].f0 = n
      · rw [if_pos c1, conf_has_s, Option.bind_some, if_neg (by rw [decide_eq_true_iff]; exact fun h => c ⟨c1, h⟩)]
      · rw [if_neg c1]
  · refine Ev.step (fun k => ?_) (h1 h3)
    show conf_InPool.l1 (k + 1) _ _ _ _ _ _ _ _ _ _ _ _ _ _ _ _ _ = _
    rw [conf_InPool.l1, if_neg (by omega), wrap_next hm (by omega)]
theorem conf_InPool_s (a b : Int) (nets : List Nt) (h : Sm nets) (n y : Int) : Ev (fun k => conf_InPool.f k a b nets n y) (poolL a b nets n y) := by
  refine Ev.bind (conf_right_s a b nets h) (f := fun k t => conf_InPool.l0 k n y t (t.length : Int) 0) ?_
  have hN := rightL_len (a := a) (b := b) h
  have hS := rightL_sm (a := a) (b := b) h
  unfold poolL
  generalize rightL a b nets = l at *
  have E : ∀ i (hi : i < l.length) (r : Bool), ((if l[i].f0 = n then poolG y l[i].f2 else none) = none → Ev (fun k => conf_InPool.l0 k n y l (l.length : Int) ((i + 1 : Nat) : Int)) r) → (∀ v, (if l[i].f0 = n then poolG y l[i].f2 else none) = some v → r = v) → Ev (fun k => conf_InPool.l0 k n y l (l.length : Int) (i : Int)) r := by
    intro i hi r h3 h4
    refine Ev.step (fun k => ?_) (conf_InPool_l1 l hN hS n y i hi h3 h4)
    show conf_InPool.l0 (k + 1) _ _ _ _ _ = _
    rw [conf_InPool.l0, if_pos (by omega), if_pos (by omega), if_pos (by omega), show rd_T66 l (i : Int) = l[i] from rd_get hi]
  refine loopF l (fun x => if x.f0 = n then poolG y x.f2 else none) (L := fun k i => conf_InPool.l0 k n y l (l.length : Int) i) (fun i hi v hv => E i hi v (fun h => by rw [h] at hv; cases hv) (fun u hu => by rw [hu] at hv; exact (Option.some.inj hv).symm)) (fun i hi hv r h3 => E i hi r (fun _ => h3) (fun u hu => by rw [hv] at hu; cases hu)) (fun h3 => ?_) (fun v hv => getD_some hv)
  rw [getD_none h3]
  refine Ev.step (f := fun _ => some false) (fun k => ?_) Ev.some'
  show conf_InPool.l0 (k + 1) _ _ _ _ _ = _
  rw [conf_InPool.l0, if_neg (by omega)]

end Go.Proofs.Ytdcabfonjmeajaa.PAlloc
set_option linter.unusedVariables false
set_option linter.unusedSimpArgs false
namespace Go.Proofs.Ytdcabfonjmeajaa.PAlloc
open Go.RowKit Go.Proofs.YtdcabfonjmeajaaW.PrintWords Go.Proofs.YtdcabfonjmeajaaW.PrintLast Go.Proofs.YtdcabfonjmeajaaW.PrintMore

/-! ### record.Right -/
theorem record_Right_s (l : Le) (hs : l.f3.size ≤ maxLen) : record_Right.f l.f0 l.f1 l.f2 l.f3 = some (leaseB l) := by
  unfold record_Right.f leaseB
  rw [addr_Right_s, key_Right_s l.f3 hs]
  simp only [Option.bind_some]
  by_cases h0 : 0 ≤ l.f0 ∧ l.f0 ≤ 4294967295
  · rw [decide_eq_true h0, if_pos rfl]
    by_cases h1 : l.f1 ≥ 1
    · rw [if_pos h1]
      by_cases h2 : l.f1 ≤ 3
      · rw [if_pos h2]
        by_cases h3 : l.f2 ≥ 0
        · rw [if_pos h3]
          by_cases h4 : l.f2 ≤ 1125899906842624
          · rw [if_pos h4, decide_eq_true ⟨h0.1, h0.2, h1, h2, h3, h4⟩, Bool.true_and]
          · rw [if_neg h4, decide_eq_false (fun h => h4 h.2.2.2.2.2)]; rfl
        · rw [if_neg h3, decide_eq_false (fun h => h3 h.2.2.2.2.1)]; rfl
      · rw [if_neg h2, decide_eq_false (fun h => h2 h.2.2.2.1)]; rfl
    · rw [if_neg h1, decide_eq_false (fun h => h1 h.2.2.1)]; rfl
  · rw [decide_eq_false h0, if_neg (by simp), decide_eq_false (fun h => h0 ⟨h.1, h.2.1⟩)]; rfl

end Go.Proofs.Ytdcabfonjmeajaa.PAlloc
set_option linter.unusedVariables false
set_option linter.unusedSimpArgs false
namespace Go.Proofs.Ytdcabfonjmeajaa.PAlloc
open Go.RowKit Go.Proofs.YtdcabfonjmeajaaW.PrintWords Go.Proofs.YtdcabfonjmeajaaW.PrintLast Go.Proofs.YtdcabfonjmeajaaW.PrintMore

/-! ### table.Right -/
open Classical in
theorem table_Right_l (t : List Le) (ht : t.length ≤ 500) (hk : ∀ l ∈ t, l.f3.size ≤ maxLen) (d : Nat) : ∀ (i : Nat) (k : Nat), i + d = t.length → d < k →
    table_Right.l0 k t t (t.length : Int) i = some (decide (t.length ≤ 64 ∧ ∀ j, i ≤ j → j < t.length → leaseB (atL t j) = true ∧ (0 < j → (atL t (j - 1)).f0 < (atL t j).f0))) := by
  induction d with
  | zero =>
    intro i k hi hk
    obtain ⟨k, rfl⟩ : ∃ m, k = m + 1 := ⟨k - 1, by omega⟩
    rw [table_Right.l0, if_neg (by omega)]
    congr 1; exact decide_eq_decide.2 ⟨fun h => ⟨by omega, fun j a b => by omega⟩, fun h => by omega⟩
  | succ d ih =>
    intro i k hi hkk
    obtain ⟨k, rfl⟩ : ∃ m, k = m + 1 := ⟨k - 1, by omega⟩
    have hw : wrap64 ((i : Int) + 1) = ((i + 1 : Nat) : Int) := by unfold wrap64; omega
    have ihh := ih (i + 1) k (by omega) (by omega)
    rw [table_Right.l0, if_pos (by omega), if_pos (by omega), if_pos (by omega), show rd_T47 t (i : Int) = atL t i from rfl, record_Right_s _ (hk _ (atL_mem (by omega)))]
    simp only [Option.bind_some]
    by_cases h : leaseB (atL t i) = true
    · rw [if_pos h]
      by_cases h0 : (i : Int) > 0
      · have hw2 : wrap64 ((i : Int) - 1) = ((i - 1 : Nat) : Int) := by unfold wrap64; omega
        rw [if_pos h0, hw2, if_pos (by omega), if_pos (by omega), show rd_T47 t ((i - 1 : Nat) : Int) = atL t (i - 1) from rfl]
        by_cases h1 : (atL t (i - 1)).f0 ≥ (atL t i).f0
        · rw [if_pos h1, decide_eq_false]
          rintro ⟨_, h2⟩
          have := (h2 i (by omega) (by omega)).2 (by omega)
          omega
        · rw [if_neg h1, hw, ihh]
          congr 1
          refine decide_eq_decide.2 ⟨fun h2 => ⟨h2.1, fun j a b => ?_⟩, fun h2 => ⟨h2.1, fun j a b => h2.2 j (by omega) b⟩⟩
          rcases Nat.eq_or_lt_of_le a with c | c
          · subst c; exact ⟨h, fun _ => by omega⟩
          · exact h2.2 j (by omega) b
      · rw [if_neg h0, hw, ihh]
        congr 1
        refine decide_eq_decide.2 ⟨fun h2 => ⟨h2.1, fun j a b => ?_⟩, fun h2 => ⟨h2.1, fun j a b => h2.2 j (by omega) b⟩⟩
        rcases Nat.eq_or_lt_of_le a with c | c
        · subst c; exact ⟨h, fun _ => by omega⟩
        · exact h2.2 j (by omega) b
    · rw [if_neg h, decide_eq_false]
      rintro ⟨_, h2⟩
      exact h (h2 i (by omega) (by omega)).1
theorem table_Right_s (t : List Le) (h : Small t) (k : Nat) (hk : t.length < k) : table_Right.f k t = some (decide (Tab t)) := by
  have e := table_Right_l t h.1 h.2 t.length 0 k (by omega) hk
  unfold table_Right.f
  rw [show table_Right.l0 k t t (t.length : Int) 0 = table_Right.l0 k t t (t.length : Int) ((0 : Nat) : Int) from rfl, e]
  congr 1
  refine decide_eq_decide.2 ?_
  rw [tab_iff]
  exact ⟨fun h => ⟨h.1, fun j b => h.2 j (by omega) b⟩, fun h => ⟨h.1, fun j _ b => h.2 j b⟩⟩

end Go.Proofs.Ytdcabfonjmeajaa.PAlloc
set_option linter.unusedVariables false
set_option linter.unusedSimpArgs false
namespace Go.Proofs.Ytdcabfonjmeajaa.PAlloc
open Go.RowKit Go.Proofs.YtdcabfonjmeajaaW.PrintWords Go.Proofs.YtdcabfonjmeajaaW.PrintLast Go.Proofs.YtdcabfonjmeajaaW.PrintMore

/-! ### alloc.fair -/
theorem alloc_fair_s (a b : Int) (nets : List Nt) (h : Sm nets) (t : List Le) (ht : Small t) (n : Int) (key : ByteArray) (hk : key.size ≤ maxLen) : Ev (fun k => alloc_fair.f k a b nets t n key) (fairA a b nets t n key) := by
  refine Ev.bind (conf_Check_s a b nets h) (Ev.ite' (fun c1 => ?_) (fun c1 => Ev.ret (by simp [fairA, c1])))
  refine Ev.bind (a := decide (Tab t)) ⟨t.length + 1, fun k hk => table_Right_s t ht k (by omega)⟩ (Ev.ite' (fun c2 => ?_) (fun c2 => Ev.ret (by simp [fairA, c2])))
  refine Ev.bind (g := fun _ => key_Right.f key) (Ev.congr (fun _ => key_Right_s key hk) (Ev.now _)) (Ev.ite' (fun c3 => ?_) (fun c3 => Ev.ret (by simp [fairA, c3])))
  exact Ev.ite' (fun c4 => Ev.ret (by unfold fairA; rw [c2, c3, decide_eq_true c1]; simp; omega)) (fun c4 => Ev.ret (by unfold fairA; simp; omega))

end Go.Proofs.Ytdcabfonjmeajaa.PAlloc
set_option linter.unusedVariables false
set_option linter.unusedSimpArgs false
namespace Go.Proofs.Ytdcabfonjmeajaa.PAlloc
open Go.RowKit Go.Proofs.YtdcabfonjmeajaaW.PrintWords Go.Proofs.YtdcabfonjmeajaaW.PrintLast Go.Proofs.YtdcabfonjmeajaaW.PrintMore

/-! ### table.good -/
theorem table_good_s (t : List Le) (h : Small t) (k : Nat) (hk : t.length < k) : table_good.f k t = some (goodL t) := by
  unfold table_good.f goodL
  have := h.1
  rw [table_Right_s t h k hk]
  simp only [Option.bind_some]
  by_cases c : Tab t
  · rw [decide_eq_true c, if_pos rfl, if_pos c, if_pos (by simp; omega)]; simp
  · rw [decide_eq_false c, if_neg (by simp), if_neg c]
end Go.Proofs.Ytdcabfonjmeajaa.PAlloc
set_option linter.unusedVariables false
set_option linter.unusedSimpArgs false
namespace Go.Proofs.Ytdcabfonjmeajaa.PAlloc
open Go.RowKit Go.Proofs.YtdcabfonjmeajaaW.PrintWords Go.Proofs.YtdcabfonjmeajaaW.PrintLast Go.Proofs.YtdcabfonjmeajaaW.PrintMore

/-! ### table.Of -/
theorem table_Of_l (t : List Le) (ht : t.length ≤ 500) (key : ByteArray) (d : Nat) : ∀ (i : Nat) (out : List Le) (k : Nat), i + d = t.length → d < k → out.length + d ≤ 1000 → table_Of.l0 k key out t (t.length : Int) i = some (out ++ ofL (t.drop i) key) := by
  induction d with
  | zero =>
    intro i out k hi hk ho
    obtain ⟨k, rfl⟩ : ∃ m, k = m + 1 := ⟨k - 1, by omega⟩
    rw [table_Of.l0, if_neg (by omega), List.drop_eq_nil_of_le (by omega)]; simp [ofL]
  | succ d ih =>
    intro i out k hi hk ho
    obtain ⟨k, rfl⟩ : ∃ m, k = m + 1 := ⟨k - 1, by omega⟩
    have hw : wrap64 ((i : Int) + 1) = ((i + 1 : Nat) : Int) := by unfold wrap64; omega
    have hx : (⟨(atL t i).f0, (atL t i).f1, (atL t i).f2, (atL t i).f3⟩ : Le) = atL t i := rfl
    rw [table_Of.l0, if_pos (by omega), if_pos (by omega), if_pos (by omega), show rd_T47 t (i : Int) = atL t i from rfl, hw, hx, List.drop_eq_getElem_cons (i := i) (by omega), ← atL_get (by omega)]
    unfold ofL
    rw [List.filter_cons]
    by_cases h : (atL t i).f3.toList = key.toList
    · rw [if_pos h, if_pos (by omega), if_pos (by simpa using h), ih (i + 1) _ k (by omega) (by omega) (by simp; omega)]
      simp [ofL]
    · rw [if_neg h, if_neg (by simpa using h), ih (i + 1) _ k (by omega) (by omega) (by omega)]
      rfl
theorem table_Of_s (t : List Le) (h : Small t) (key : ByteArray) (k : Nat) (hk : t.length < k) : table_Of.f k t key = some (ofL (goodL t) key) := by
  have hgl : (goodL t).length ≤ t.length := by unfold goodL; split <;> simp
  have := h.1
  unfold table_Of.f
  rw [table_good_s t h k hk]
  simp only [Option.bind_some]
  have e := table_Of_l (goodL t) (by omega) key (goodL t).length 0 [] k (by omega) (by omega) (by simp; omega)
  rw [List.drop_zero, List.nil_append] at e
  exact e

end Go.Proofs.Ytdcabfonjmeajaa.PAlloc
set_option linter.unusedVariables false
set_option linter.unusedSimpArgs false
namespace Go.Proofs.Ytdcabfonjmeajaa.PAlloc
open Go.RowKit Go.Proofs.YtdcabfonjmeajaaW.PrintWords Go.Proofs.YtdcabfonjmeajaaW.PrintLast Go.Proofs.YtdcabfonjmeajaaW.PrintMore

/-! ### table.Holds -/
theorem table_Holds_s (l : Le) (now : Int) : table_Holds.f l.f0 l.f1 l.f2 l.f3 now = some (holdsB l now) := by
  unfold table_Holds.f holdsB
  by_cases c : l.f1 = 1
  · rw [if_pos c]; congr 1; exact decide_eq_decide.2 ⟨fun h => ⟨c, h⟩, fun h => h.2⟩
  · rw [if_neg c, decide_eq_false (fun h => c h.1)]

end Go.Proofs.Ytdcabfonjmeajaa.PAlloc
set_option linter.unusedVariables false
set_option linter.unusedSimpArgs false
namespace Go.Proofs.Ytdcabfonjmeajaa.PAlloc
open Go.RowKit Go.Proofs.YtdcabfonjmeajaaW.PrintWords Go.Proofs.YtdcabfonjmeajaaW.PrintLast Go.Proofs.YtdcabfonjmeajaaW.PrintMore

/-! ### conf.Find -/
theorem conf_Find_s (a b : Int) (nets : List Nt) (h : Sm nets) (x : Int) : Ev (fun k => conf_Find.f k a b nets x) (findL a b nets x) := by
  refine Ev.bind (conf_right_s a b nets h) (f := fun k t => conf_Find.l0 k x t (t.length : Int) 0) ?_
  have hN := rightL_len (a := a) (b := b) h
  unfold findL
  generalize rightL a b nets = l at *
  refine loopF l (findQ x) (L := fun k i => conf_Find.l0 k x l (l.length : Int) i) (fun i hi v hv => ?_) (fun i hi hv r h3 => ?_) (fun h3 => ?_) (fun v hv => getD_some hv)
  · unfold findQ at hv
    by_cases c : Com.hasB l[i].f2.f0 l[i].f2.f1 x = true
    · rw [if_pos c] at hv
      obtain rfl := Option.some.inj hv
      refine Ev.step (f := fun _ => some (l[i].f0, l[i].f1, true)) (fun k => ?_) Ev.some'
      show conf_Find.l0 (k + 1) _ _ _ _ = _
      rw [conf_Find.l0, if_pos (by omega), if_pos (by omega), if_pos (by omega), show rd_T66 l (i : Int) = l[i] from rd_get hi, addr_Has_s, Option.bind_some, if_pos c]
    · rw [if_neg c] at hv; cases hv
  · unfold findQ at hv
    by_cases c : Com.hasB l[i].f2.f0 l[i].f2.f1 x = true
    · rw [if_pos c] at hv; cases hv
    · refine Ev.step (fun k => ?_) h3
      show conf_Find.l0 (k + 1) _ _ _ _ = _
      rw [conf_Find.l0, if_pos (by omega), if_pos (by omega), if_pos (by omega), show rd_T66 l (i : Int) = l[i] from rd_get hi, addr_Has_s, Option.bind_some, if_neg c, wrap_next hi (by omega)]
  · rw [getD_none h3]
    refine Ev.step (f := fun _ => some (0, 0, false)) (fun k => ?_) Ev.some'
    show conf_Find.l0 (k + 1) _ _ _ _ = _
    rw [conf_Find.l0, if_neg (by omega)]

end Go.Proofs.Ytdcabfonjmeajaa.PAlloc
set_option linter.unusedVariables false
set_option linter.unusedSimpArgs false
namespace Go.Proofs.Ytdcabfonjmeajaa.PAlloc
open Go.RowKit Go.Proofs.YtdcabfonjmeajaaW.PrintWords Go.Proofs.YtdcabfonjmeajaaW.PrintLast Go.Proofs.YtdcabfonjmeajaaW.PrintMore

/-! ### alloc.in -/
theorem alloc_in_s (a b : Int) (nets : List Nt) (h : Sm nets) (n x : Int) : Ev (fun k => alloc_in.f k a b nets n x) (inA a b nets n x) := by
  refine Ev.bind (conf_Find_s a b nets h x) (Ev.ite' (fun c1 => Ev.ret ?_) (fun c1 => Ev.ret ?_))
  · unfold inA; rw [c1]; by_cases c : (findL a b nets x).1 = n <;> simp [c]
  · unfold inA; simp [c1]

end Go.Proofs.Ytdcabfonjmeajaa.PAlloc
set_option linter.unusedVariables false
set_option linter.unusedSimpArgs false
namespace Go.Proofs.Ytdcabfonjmeajaa.PAlloc
open Go.RowKit Go.Proofs.YtdcabfonjmeajaaW.PrintWords Go.Proofs.YtdcabfonjmeajaaW.PrintLast Go.Proofs.YtdcabfonjmeajaaW.PrintMore

/-! ### table.place -/
/-- What a place is: all addresses below it are less; and the one at it is that, or all from it on are greater. -/
def PlaceOf (t : List Le) (a : Int) (p : Nat) (b : Bool) : Prop :=
  p ≤ t.length ∧ (∀ j, j < p → (atL t j).f0 < a) ∧ (b = true → p < t.length ∧ (atL t p).f0 = a) ∧ (b = false → ∀ j, p ≤ j → j < t.length → a < (atL t j).f0)
theorem table_place_l (t : List Le) (ht : t.length ≤ 500) (hs : Asc t) (a : Int) (d : Nat) : ∀ (lo hi : Nat) (k : Nat), hi ≤ lo + d → lo ≤ hi → hi ≤ t.length → d < k → (∀ j, j < lo → (atL t j).f0 < a) → (∀ j, hi ≤ j → j < t.length → a < (atL t j).f0) →
    ∃ (p : Nat) (b : Bool), table_place.l0 k t a lo hi = some ((p : Int), b) ∧ PlaceOf t a p b := by
  induction d using Nat.strongRecOn with
  | _ d ih =>
    intro lo hi k hd hle hhi hk h1 h2
    obtain ⟨k, rfl⟩ : ∃ m, k = m + 1 := ⟨k - 1, by omega⟩
    rw [table_place.l0]
    by_cases c : (lo : Int) < hi
    · have hm : wrap64 (Int.tdiv (wrap64 ((lo : Int) + hi)) 2) = (((lo + hi) / 2 : Nat) : Int) := by
        rw [show wrap64 ((lo : Int) + hi) = (lo : Int) + hi from by unfold wrap64; omega, Int.tdiv_eq_ediv_of_nonneg (by omega)]; unfold wrap64; omega
      rw [if_pos c, hm, if_pos (by omega), if_pos (by omega), show rd_T47 t (((lo + hi) / 2 : Nat) : Int) = atL t ((lo + hi) / 2) from rfl]
      clear hm
      generalize hmid : (lo + hi) / 2 = m
      have hm1 : lo ≤ m := by omega
      have hm2 : m < hi := by omega
      clear hmid
      by_cases e : (atL t m).f0 = a
      · rw [if_pos e]
        refine ⟨m, true, by rw [beq_iff_eq.2 e], by omega, fun j hj => by rw [← e]; exact asc_at hs hj (by omega), fun _ => ⟨by omega, e⟩, fun h => (by cases h)⟩
      · rw [if_neg e]
        by_cases l : (atL t m).f0 < a
        · rw [if_pos l, show wrap64 ((m : Int) + 1) = ((m + 1 : Nat) : Int) from by unfold wrap64; omega]
          refine ih (hi - (m + 1)) (by omega) (m + 1) hi k (by omega) (by omega) hhi (by omega) (fun j hj => ?_) h2
          rcases Nat.lt_or_ge j m with c | c
          · exact Int.lt_trans (asc_at hs c (by omega)) l
          · obtain rfl : j = m := by omega
            exact l
        · rw [if_neg l]
          refine ih (m - lo) (by omega) lo m k (by omega) (by omega) (by omega) (by omega) h1 (fun j a1 b1 => ?_)
          rcases Nat.eq_or_lt_of_le a1 with c | c
          · subst c; omega
          · have := asc_at hs c b1; omega
    · obtain rfl : lo = hi := by omega
      rw [if_neg c]
      by_cases n : (lo : Int) < (t.length : Int)
      · rw [if_pos n, if_pos (by omega), show rd_T47 t (lo : Int) = atL t lo from rfl]
        have := h2 lo (by omega) (by omega)
        refine ⟨lo, false, by rw [beq_eq_false_iff_ne.2 (by omega)], by omega, h1, fun h => (by cases h), fun _ => h2⟩
      · rw [if_neg n]
        exact ⟨lo, false, rfl, by omega, h1, fun h => (by cases h), fun _ => h2⟩
theorem table_place_s (t : List Le) (ht : t.length ≤ 500) (hs : Asc t) (a : Int) (k : Nat) (hk : t.length < k) : ∃ (p : Nat) (b : Bool), table_place.f k t a = some ((p : Int), b) ∧ PlaceOf t a p b := by
  unfold table_place.f
  exact table_place_l t ht hs a t.length 0 t.length k (by omega) (by omega) (by omega) hk (fun j h => by omega) (fun j h1 h2 => by omega)

end Go.Proofs.Ytdcabfonjmeajaa.PAlloc
set_option linter.unusedVariables false
set_option linter.unusedSimpArgs false
namespace Go.Proofs.Ytdcabfonjmeajaa.PAlloc
open Go.RowKit Go.Proofs.YtdcabfonjmeajaaW.PrintWords Go.Proofs.YtdcabfonjmeajaaW.PrintLast Go.Proofs.YtdcabfonjmeajaaW.PrintMore

/-! ### table.Get -/
theorem table_Get_s (t : List Le) (h : Small t) (a : Int) (k : Nat) (hk : t.length + 1 < k) : table_Get.f k t a = some (ans (getL (goodL t) a)) := by
  unfold table_Get.f
  have hg := goodL_tab t
  have hgl : (goodL t).length ≤ t.length := by unfold goodL; split <;> simp
  rw [table_good_s t h k (by omega)]
  simp only [Option.bind_some]
  generalize goodL t = g at *
  have hg64 := hg.1
  obtain ⟨p, b, hp, hp1, hp2, hp3, hp4⟩ := table_place_s g (by omega) hg.2.2 a k (by omega)
  rw [hp]
  simp only [Option.bind_some]
  cases b with
  | true =>
    obtain ⟨q1, q2⟩ := hp3 rfl
    rw [if_pos rfl, if_pos (by omega), if_pos (by omega), ← q2, getL_some hg.2.2 (atL_mem q1)]
    rfl
  | false =>
    rw [if_neg (by simp), getL_none]
    · rfl
    · intro l hl
      obtain ⟨j, hj, rfl⟩ := mem_atL hl
      rcases Nat.lt_or_ge j p with c | c
      · have := hp2 j c; omega
      · have := hp4 rfl j c hj; omega

end Go.Proofs.Ytdcabfonjmeajaa.PAlloc
set_option linter.unusedVariables false
set_option linter.unusedSimpArgs false
namespace Go.Proofs.Ytdcabfonjmeajaa.PAlloc
open Go.RowKit Go.Proofs.YtdcabfonjmeajaaW.PrintWords Go.Proofs.YtdcabfonjmeajaaW.PrintLast Go.Proofs.YtdcabfonjmeajaaW.PrintMore

/-! ### table.Rests -/
theorem table_Rests_s (l : Le) (now : Int) : table_Rests.f l.f0 l.f1 l.f2 l.f3 now = some (restsB l now) := by
  unfold table_Rests.f restsB
  by_cases c : l.f1 = 3
  · rw [if_pos c]; congr 1; exact decide_eq_decide.2 ⟨fun h => ⟨c, h⟩, fun h => h.2⟩
  · rw [if_neg c, decide_eq_false (fun h => c h.1)]

end Go.Proofs.Ytdcabfonjmeajaa.PAlloc
set_option linter.unusedVariables false
set_option linter.unusedSimpArgs false
namespace Go.Proofs.Ytdcabfonjmeajaa.PAlloc
open Go.RowKit Go.Proofs.YtdcabfonjmeajaaW.PrintWords Go.Proofs.YtdcabfonjmeajaaW.PrintLast Go.Proofs.YtdcabfonjmeajaaW.PrintMore

/-! ### table.Free -/
theorem table_Free_s (t : List Le) (h : Small t) (a : Int) (key : ByteArray) (now : Int) (k : Nat) (hk : t.length + 1 < k) : table_Free.f k t a key now = some (freeB (goodL t) a key now) := by
  unfold table_Free.f freeB
  rw [table_Get_s t h a k hk]
  simp only [Option.bind_some]
  cases getL (goodL t) a with
  | none => rfl
  | some l =>
    simp only [ans]
    rw [if_pos trivial, table_Rests_s, table_Holds_s]
    simp only [Option.bind_some]
    cases restsB l now <;> cases holdsB l now <;> simp
    rw [Bool.eq_iff_iff]; simp

end Go.Proofs.Ytdcabfonjmeajaa.PAlloc
set_option linter.unusedVariables false
set_option linter.unusedSimpArgs false
namespace Go.Proofs.Ytdcabfonjmeajaa.PAlloc
open Go.RowKit Go.Proofs.YtdcabfonjmeajaaW.PrintWords Go.Proofs.YtdcabfonjmeajaaW.PrintLast Go.Proofs.YtdcabfonjmeajaaW.PrintMore

/-! ### alloc.May -/
theorem ofL_small {t : List Le} (ht : Small t) (key : ByteArray) : (ofL t key).length ≤ 500 := Nat.le_trans (List.length_filter_le _ _) ht.1
theorem alloc_May_l0 (a b : Int) (nets : List Nt) (h : Sm nets) (t : List Le) (ht : Small t) (n : Int) (key : ByteArray) (x now : Int) (l : List Le) (hl : l.length ≤ 500) :
    Ev (fun k => alloc_May.l0 k t n key x now l (l.length : Int) 0 a b nets) (!l.any (othP a b nets n x now) && freeB (goodL t) x key now) := by
  have e : (!l.any (othP a b nets n x now) && freeB (goodL t) x key now) = l.foldr (fun l r => if othP a b nets n x now l = true then false else r) (freeB (goodL t) x key now) := by
    induction l with
    | nil => rfl
    | cons y l ih =>
      rw [List.foldr_cons, ← ih (by simp at hl; omega), List.any_cons]
      cases othP a b nets n x now y <;> simp
  rw [e]
  refine loopR l _ (L := fun k i => alloc_May.l0 k t n key x now l (l.length : Int) i a b nets) (fun i hi r h3 => ?_) ?_
  · have eT : rd_T47 l (i : Int) = l[i] := rd_get hi
    refine Ev.step (fun k => by show alloc_May.l0 (k + 1) _ _ _ _ _ _ _ _ _ _ _ = _; rw [alloc_May.l0, if_pos (by omega), if_pos (by omega), if_pos (by omega), eT, wrap_next hi (by omega)]) ?_
    refine Ev.ite' (fun c2 => by simpa [c2, othP] using h3) (fun c2 => ?_)
    refine Ev.bind (Ev.congr (fun _ => table_Holds_s l[i] now) (Ev.now _)) (Ev.ite' (fun c3 => ?_) (fun c3 => by simpa [c2, c3, othP] using h3))
    exact Ev.bind (alloc_in_s a b nets h n _) (Ev.ite' (fun c4 => Ev.ret (by simp [c2, c3, c4, othP])) (fun c4 => by simpa [c2, c3, c4, othP] using h3))
  · refine Ev.step (fun k => by show alloc_May.l0 (k + 1) _ _ _ _ _ _ _ _ _ _ _ = _; rw [alloc_May.l0, if_neg (by omega)]) ?_
    exact Ev.bind (a := freeB (goodL t) x key now) ⟨t.length + 2, fun k hk => table_Free_s t ht x key now k (by omega)⟩ (Ev.ret rfl)
theorem alloc_May_j1 (a b : Int) (nets : List Nt) (h : Sm nets) (t : List Le) (ht : Small t) (hT : Tab t) (n : Int) (key : ByteArray) (x now : Int) : Ev (fun k => alloc_May.j1 k t n key x now a b nets) (!otherA a b nets t n key x now && freeB t x key now) := by
  refine Ev.step (fun k => by rw [alloc_May.j1]) ?_
  refine Ev.bind (a := ofL (goodL t) key) ⟨t.length + 1, fun k hk => table_Of_s t ht key k (by omega)⟩ ?_
  have := alloc_May_l0 a b nets h t ht n key x now (ofL (goodL t) key) (by rw [goodL_of hT]; exact ofL_small ht key)
  rw [goodL_of hT] at this ⊢
  exact this
theorem alloc_May_j0 (a b : Int) (nets : List Nt) (h : Sm nets) (t : List Le) (ht : Small t) (hT : Tab t) (n : Int) (key : ByteArray) (x now : Int) (q : Bool) :
    Ev (fun k => alloc_May.j0 k t n key x now (keepL a b nets x).1 (keepL a b nets x).2 q a b nets) ((q || poolA a b nets n key x) && (!otherA a b nets t n key x now && freeB t x key now)) := by
  have hj := alloc_May_j1 a b nets h t ht hT n key x now
  refine Ev.step (fun k => by rw [alloc_May.j0]) ?_
  refine Ev.ite' (fun c1 => by simpa [c1] using hj) (fun c1 => ?_)
  refine Ev.bind (conf_InPool_s a b nets h n x) (Ev.ite' (fun c2 => ?_) (fun c2 => Ev.ret (by simp [c1, c2, poolA])))
  refine Ev.ite' (fun c3 => ?_) (fun c3 => by simpa [c1, c2, c3, poolA] using hj)
  exact Ev.ite' (fun c4 => by simpa [c1, c2, c3, c4, poolA] using hj) (fun c4 => Ev.ret (by simp [c1, c2, c3, c4, poolA]))
theorem alloc_May_s (a b : Int) (nets : List Nt) (h : Sm nets) (t : List Le) (ht : Small t) (n : Int) (key : ByteArray) (hk : key.size ≤ maxLen) (x now : Int) : Ev (fun k => alloc_May.f k a b nets t n key x now) (mayA a b nets t n key x now) := by
  refine Ev.bind (alloc_fair_s a b nets h t ht n key hk) (Ev.ite' (fun c1 => ?_) (fun c1 => Ev.ret (by simp [mayA, c1])))
  have hT := (fairA_iff.1 c1).2.1
  refine Ev.bind (conf_KeptFor_s a b nets h n key) (Ev.bind (conf_Keeper_s a b nets h x) (Ev.ite' (fun c2 => ?_) (fun c2 => ?_)))
  · exact Ev.eqv (alloc_May_j0 a b nets h t ht hT n key x now _) (by simp [mayA, c1, mineA, c2, beqD])
  · exact Ev.eqv (alloc_May_j0 a b nets h t ht hT n key x now _) (by simp [mayA, c1, mineA, c2])

end Go.Proofs.Ytdcabfonjmeajaa.PAlloc
set_option linter.unusedVariables false
set_option linter.unusedSimpArgs false
namespace Go.Proofs.Ytdcabfonjmeajaa.PAlloc
open Go.RowKit Go.Proofs.YtdcabfonjmeajaaW.PrintWords Go.Proofs.YtdcabfonjmeajaaW.PrintLast Go.Proofs.YtdcabfonjmeajaaW.PrintMore

/-! ### boarderref01.Right -/
theorem boarderref01_Right_s (a : Int) : boarderref01_Right.f a = some (decide (0 ≤ a ∧ a ≤ 4294967295)) := by
  unfold boarderref01_Right.f
  by_cases h : a ≥ 0
  · rw [if_pos h]; congr 1; exact decide_eq_decide.2 ⟨fun h2 => ⟨h, by omega⟩, fun h2 => by omega⟩
  · rw [if_neg h, decide_eq_false (by omega)]

end Go.Proofs.Ytdcabfonjmeajaa.PAlloc
set_option linter.unusedVariables false
set_option linter.unusedSimpArgs false
namespace Go.Proofs.Ytdcabfonjmeajaa.PAlloc
open Go.RowKit Go.Proofs.YtdcabfonjmeajaaW.PrintWords Go.Proofs.YtdcabfonjmeajaaW.PrintLast Go.Proofs.YtdcabfonjmeajaaW.PrintMore

/-! ### boarderref07.Right -/
theorem boarderref07_Right_s (s : ByteArray) : boarderref07_Right.f s = some (keyB s) := by
  unfold boarderref07_Right.f keyB
  by_cases h0 : (s.size : Int) < 3
  · rw [if_pos h0, decide_eq_false (show ¬ 3 ≤ s.size by omega)]; rfl
  · rw [if_neg h0, if_pos (by omega), decide_eq_true (show 3 ≤ s.size by omega), Bool.true_and]
    by_cases h1 : bt s 0 = 105
    · rw [if_pos h1]
      by_cases h2 : (s.size : Int) ≤ 256
      · rw [if_pos h2, decide_eq_true (show bt s 0 = 105 ∧ s.size ≤ 256 from ⟨h1, by omega⟩)]; rfl
      · rw [if_neg h2, if_neg (by omega), decide_eq_false (by omega), decide_eq_false (by omega)]; rfl
    · rw [if_neg h1, decide_eq_false (show ¬ (bt s 0 = 105 ∧ s.size ≤ 256) from fun h => h1 h.1), Bool.false_or]
      by_cases h3 : bt s 0 = 104
      · rw [if_pos h3]
        congr 1
        exact decide_eq_decide.2 ⟨fun h => ⟨h3, by omega⟩, fun h => by omega⟩
      · rw [if_neg h3, decide_eq_false (fun h => h3 h.1)]

end Go.Proofs.Ytdcabfonjmeajaa.PAlloc
set_option linter.unusedVariables false
set_option linter.unusedSimpArgs false
namespace Go.Proofs.Ytdcabfonjmeajaa.PAlloc
open Go.RowKit Go.Proofs.YtdcabfonjmeajaaW.PrintWords Go.Proofs.YtdcabfonjmeajaaW.PrintLast Go.Proofs.YtdcabfonjmeajaaW.PrintMore

/-! ### boarderref01.Size -/
theorem boarderref01_Size_l (d : Nat) : ∀ (n : Int) (x : Nat) (k : Nat), 0 ≤ n → n + d = 32 → x * 2 ^ d ≤ 4294967296 → d < k → boarderref01_Size.l0 k x n = some ((x * 2 ^ d : Nat) : Int) := by
  induction d with
  | zero =>
    intro n x k h0 h1 h2 hk
    obtain ⟨k, rfl⟩ : ∃ m, k = m + 1 := ⟨k - 1, by omega⟩
    rw [boarderref01_Size.l0, if_neg (by omega)]; simp
  | succ d ih =>
    intro n x k h0 h1 h2 hk
    obtain ⟨k, rfl⟩ : ∃ m, k = m + 1 := ⟨k - 1, by omega⟩
    have hp := Nat.two_pow_pos d
    have e : x * 2 ^ (d + 1) = x * 2 * 2 ^ d := by rw [Nat.pow_succ, Nat.mul_assoc, Nat.mul_comm 2]
    have hx : x * 2 ≤ 4294967296 := by
      rw [e] at h2
      exact Nat.le_trans (Nat.le_mul_of_pos_right _ hp) h2
    rw [boarderref01_Size.l0, if_pos (by omega), show wrap64 ((x : Int) * 2) = ((x * 2 : Nat) : Int) from by unfold wrap64; omega, show wrap64 (n + 1) = n + 1 from by unfold wrap64; omega, ih (n + 1) (x * 2) k (by omega) (by omega) (by omega) (by omega), e]
theorem boarderref01_Size_s (n : Int) (h0 : 0 ≤ n) (h1 : n ≤ 32) (k : Nat) (hk : 40 ≤ k) : boarderref01_Size.f k n = some (Com.sz n : Int) := by
  have e := boarderref01_Size_l (32 - n.toNat) n 1 k h0 (by omega) (by have := Com.sz_le n; unfold Com.sz at this; omega) (by omega)
  rw [Nat.one_mul] at e
  exact e

end Go.Proofs.Ytdcabfonjmeajaa.PAlloc
set_option linter.unusedVariables false
set_option linter.unusedSimpArgs false
namespace Go.Proofs.Ytdcabfonjmeajaa.PAlloc
open Go.RowKit Go.Proofs.YtdcabfonjmeajaaW.PrintWords Go.Proofs.YtdcabfonjmeajaaW.PrintLast Go.Proofs.YtdcabfonjmeajaaW.PrintMore

/-! ### boarderref01.Fair -/
theorem boarderref01_Fair_s (b n : Int) (k : Nat) (hk : 40 ≤ k) : boarderref01_Fair.f k b n = some (Com.fairB b n) := by
  unfold boarderref01_Fair.f Com.fairB
  by_cases h0 : n ≥ 0
  · rw [if_pos h0]
    by_cases h1 : n ≤ 32
    · rw [if_pos h1, boarderref01_Right_s]
      simp only [Option.bind_some]
      by_cases h2 : 0 ≤ b ∧ b ≤ 4294967295
      · have hp := Com.sz_pos n
        rw [decide_eq_true h2, if_pos rfl, boarderref01_Size_s n h0 h1 k hk, Option.bind_some, if_neg (by omega), Int.tmod_eq_emod_of_nonneg h2.1]
        congr 1
        rw [Bool.eq_iff_iff, beq_iff_eq, decide_eq_true_iff]
        exact ⟨fun h => ⟨h0, h1, h2.1, h2.2, h⟩, fun h => h.2.2.2.2⟩
      · rw [decide_eq_false h2, if_neg (by simp), decide_eq_false (fun h => h2 ⟨h.2.2.1, h.2.2.2.1⟩)]
    · rw [if_neg h1, decide_eq_false (fun h => h1 h.2.1)]
  · rw [if_neg h0, decide_eq_false (fun h => h0 h.1)]

end Go.Proofs.Ytdcabfonjmeajaa.PAlloc
set_option linter.unusedVariables false
set_option linter.unusedSimpArgs false
namespace Go.Proofs.Ytdcabfonjmeajaa.PAlloc
open Go.RowKit Go.Proofs.YtdcabfonjmeajaaW.PrintWords Go.Proofs.YtdcabfonjmeajaaW.PrintLast Go.Proofs.YtdcabfonjmeajaaW.PrintMore

/-! ### boarderref13.subnet -/
theorem boarderref13_subnet_l1 (a b : Int) (p : List Rg) (l : List Rs) (c d e : Int) (hl : l.length ≤ 20) {r : Bool} (hr : r = decide (∀ i, (h : i < l.length) → keyB l[i].f0 = true)) : Ev (fun k => boarderref13_subnet.l1 k 0 a b p l c d e) r := by
  refine loopC (n := l.length) (L := fun k i => boarderref13_subnet.l1 k i a b p l c d e) (fun i => (h : i < l.length) → keyB l[i].f0 = true) false (fun i hi hp r h => ?_) (fun i hi hp => ?_) (fun h => ?_) (fun h => ?_)
  · refine Ev.step (fun k => ?_) h
    show boarderref13_subnet.l1 (k + 1) _ _ _ _ _ _ _ _ = _
    rw [boarderref13_subnet.l1, if_pos (by omega), if_pos (by omega), show rd_T59 l (i : Int) = l[i] from rd_get hi, boarderref07_Right_s, hp hi, Option.bind_some, if_pos rfl, wrap_next hi (by omega)]
  · refine Ev.step (f := fun _ => some false) (fun k => ?_) Ev.some'
    have h2 : keyB l[i].f0 = false := by
      cases h : keyB l[i].f0 with
      | false => rfl
      | true => exact absurd (fun _ => h) hp
    show boarderref13_subnet.l1 (k + 1) _ _ _ _ _ _ _ _ = _
    rw [boarderref13_subnet.l1, if_pos (by omega), if_pos (by omega), show rd_T59 l (i : Int) = l[i] from rd_get hi, boarderref07_Right_s, h2, Option.bind_some, if_neg (by simp)]
  · rw [hr, decide_eq_true (fun i hi => h i hi hi)]
    refine Ev.step (f := fun _ => some true) (fun k => ?_) Ev.some'
    show boarderref13_subnet.l1 (k + 1) _ _ _ _ _ _ _ _ = _
    rw [boarderref13_subnet.l1, if_neg (by omega)]
  · obtain ⟨i, hi, hp⟩ := h
    rw [hr]
    exact decide_eq_false (fun h => hp (fun hi => h i hi))
theorem boarderref13_subnet_l0 (a b : Int) (p : List Rg) (l : List Rs) (c d e : Int) (hl : l.length ≤ 20) (hp : p.length ≤ 20) {r : Bool}
    (hr : r = decide ((∀ i, (h : i < p.length) → p[i].f0 ≤ p[i].f1) ∧ ∀ i, (h : i < l.length) → keyB l[i].f0 = true)) : Ev (fun k => boarderref13_subnet.l0 k 0 a b p l c d e) r := by
  refine loopC (n := p.length) (L := fun k i => boarderref13_subnet.l0 k i a b p l c d e) (fun i => (h : i < p.length) → p[i].f0 ≤ p[i].f1) false (fun i hi hp r h => ?_) (fun i hi hp => ?_) (fun h => ?_) (fun h => ?_)
  · refine Ev.step (fun k => ?_) h
    have := hp hi
    clear hp
    show boarderref13_subnet.l0 (k + 1) _ _ _ _ _ _ _ _ = _
    rw [boarderref13_subnet.l0, if_pos (by omega), if_pos (by omega), show rd_T62 p (i : Int) = p[i] from rd_get hi, if_neg (by omega), wrap_next hi (by omega)]
  · refine Ev.step (f := fun _ => some false) (fun k => ?_) Ev.some'
    have : p[i].f1 < p[i].f0 := by
      by_cases h : p[i].f1 < p[i].f0
      · exact h
      · exact absurd (fun _ => Int.not_lt.1 h) hp
    clear hp
    show boarderref13_subnet.l0 (k + 1) _ _ _ _ _ _ _ _ = _
    rw [boarderref13_subnet.l0, if_pos (by omega), if_pos (by omega), show rd_T62 p (i : Int) = p[i] from rd_get hi, if_pos this]
  · refine Ev.step (fun k => ?_) (boarderref13_subnet_l1 a b p l c d e hl ?_)
    · show boarderref13_subnet.l0 (k + 1) _ _ _ _ _ _ _ _ = _
      rw [boarderref13_subnet.l0, if_neg (by omega)]
    · rw [hr]; exact decide_eq_decide.2 ⟨fun h2 => h2.2, fun h2 => ⟨fun i hi => h i hi hi, h2⟩⟩
  · obtain ⟨i, hi, hp⟩ := h
    rw [hr]
    exact decide_eq_false (fun h => hp (fun hi => h.1 i hi))
open Classical in
theorem boarderref13_subnet_s (s : Sb) (hs : SmS s) : Ev (fun k => boarderref13_subnet.f k s.f0 s.f1 s.f2 s.f3 s.f4 s.f5 s.f6) (decide (FairS s)) := by
  obtain ⟨h1, h2, h3⟩ := hs
  have J1 : ∀ (x : Bool), (x = true → ¬ FairS s) → (x = false → (FairS s ↔ ((∀ i, (h : i < s.f2.length) → s.f2[i].f0 ≤ s.f2[i].f1) ∧ ∀ i, (h : i < s.f3.length) → keyB s.f3[i].f0 = true))) →
      Ev (fun k => boarderref13_subnet.j1 k x s.f0 s.f1 s.f2 s.f3 s.f4 s.f5 s.f6) (decide (FairS s)) := by
    intro x hx hy
    cases x with
    | true =>
      rw [decide_eq_false (hx rfl)]
      exact Ev.step (f := fun _ => some false) (fun k => by show boarderref13_subnet.j1 (k + 1) _ _ _ _ _ _ _ _ = _; rw [boarderref13_subnet.j1, if_pos rfl]) Ev.some'
    | false =>
      refine Ev.step (fun k => by show boarderref13_subnet.j1 (k + 1) _ _ _ _ _ _ _ _ = _; rw [boarderref13_subnet.j1, if_neg (by simp)]) (boarderref13_subnet_l0 _ _ _ _ _ _ _ h2 h1 ?_)
      exact decide_eq_decide.2 (hy rfl)
  have J0 : ∀ (x : Bool), (x = true → ¬ FairS s) → (x = false → (Com.fairB s.f0 s.f1 = true ∧ 8 ≤ s.f1 ∧ s.f1 ≤ 30 ∧ s.f2.length ≤ 4 ∧ s.f3.length ≤ 8)) →
      Ev (fun k => boarderref13_subnet.j0 k x s.f0 s.f1 s.f2 s.f3 s.f4 s.f5 s.f6) (decide (FairS s)) := by
    intro x hx hy
    cases x with
    | true =>
      rw [decide_eq_false (hx rfl)]
      exact Ev.step (f := fun _ => some false) (fun k => by show boarderref13_subnet.j0 (k + 1) _ _ _ _ _ _ _ _ = _; rw [boarderref13_subnet.j0, if_pos rfl]) Ev.some'
    | false =>
      obtain ⟨b1, b2, b3, b4, b5⟩ := hy rfl
      refine Ev.step (fun k => by show boarderref13_subnet.j0 (k + 1) _ _ _ _ _ _ _ _ = _; rw [boarderref13_subnet.j0, if_neg (by simp)]) ?_
      by_cases a1 : s.f4 < 0
      · exact Ev.pos a1 (J1 true (fun _ h => by have := h.2.2.2.2.2.1; omega) (fun h => by cases h))
      · refine Ev.neg a1 ?_
        by_cases a2 : s.f4 > 99
        · exact Ev.pos a2 (J1 true (fun _ h => by have := h.2.2.2.2.2.2.1; omega) (fun h => by cases h))
        · refine Ev.neg a2 ?_
          by_cases a3 : s.f6 < 1
          · exact Ev.pos a3 (J1 true (fun _ h => by have := h.2.2.2.2.2.2.2.1; omega) (fun h => by cases h))
          · refine Ev.neg a3 (J1 _ (fun h h2 => ?_) (fun h => ?_))
            · have := of_decide_eq_true h; have := h2.2.2.2.2.2.2.2.2.1; omega
            · have := of_decide_eq_false h
              exact ⟨fun h => h.2.2.2.2.2.2.2.2.2, fun h => ⟨b1, b2, b3, b4, b5, Int.not_lt.1 a1, Int.not_lt.1 a2, Int.not_lt.1 a3, Int.not_lt.1 this, h⟩⟩
  refine Ev.bind (g := fun k => boarderref01_Fair.f k s.f0 s.f1) (a := Com.fairB s.f0 s.f1) ⟨40, fun k hk => boarderref01_Fair_s _ _ k hk⟩ (f := fun k t => if t = true then _ else _) ?_
  by_cases a1 : Com.fairB s.f0 s.f1 = true
  · refine Ev.pos a1 ?_
    by_cases a2 : s.f1 < 8
    · exact Ev.pos a2 (J0 true (fun _ h => by have := h.2.1; omega) (fun h => by cases h))
    · refine Ev.neg a2 ?_
      by_cases a3 : s.f1 > 30
      · exact Ev.pos a3 (J0 true (fun _ h => by have := h.2.2.1; omega) (fun h => by cases h))
      · refine Ev.neg a3 ?_
        by_cases a4 : (s.f2.length : Int) > 4
        · exact Ev.pos a4 (J0 true (fun _ h => by have := h.2.2.2.1; omega) (fun h => by cases h))
        · refine Ev.neg a4 (J0 _ (fun h h2 => ?_) (fun h => ?_))
          · have := of_decide_eq_true h; have := h2.2.2.2.2.1; omega
          · have := of_decide_eq_false h; exact ⟨a1, by omega, by omega, by omega, by omega⟩
  · exact Ev.neg a1 (J0 true (fun _ h => a1 h.1) (fun h => by cases h))

end Go.Proofs.Ytdcabfonjmeajaa.PAlloc
set_option linter.unusedVariables false
set_option linter.unusedSimpArgs false
namespace Go.Proofs.Ytdcabfonjmeajaa.PAlloc
open Go.RowKit Go.Proofs.YtdcabfonjmeajaaW.PrintWords Go.Proofs.YtdcabfonjmeajaaW.PrintLast Go.Proofs.YtdcabfonjmeajaaW.PrintMore

/-! ### boarderref13.Form -/
open Classical in
theorem boarderref13_Form_l1 (a b : Int) (nets : List Nt) (m : Nat) (hm : m < nets.length) (h : Sm nets) {r : Bool} (h1 : (∀ s ∈ nets[m].f0, FairS s) → Ev (fun k => boarderref13_Form.l0 k ((m + 1 : Nat) : Int) a b nets) r) (h2 : (¬ ∀ s ∈ nets[m].f0, FairS s) → r = false) :
    Ev (fun k => boarderref13_Form.l1 k (m : Int) 0 a b nets) r := by
  have hN := h.1
  have h10 := (h.2 nets[m] (List.getElem_mem hm)).1
  have eN : rd_T41 nets (m : Int) = nets[m] := rd_get hm
  refine loopC (n := nets[m].f0.length) (L := fun k i => boarderref13_Form.l1 k (m : Int) i a b nets) (fun i => ∃ h : i < nets[m].f0.length, FairS nets[m].f0[i]) false (fun i hi hp r h3 => ?_) (fun i hi hp => ?_) (fun h3 => ?_) (fun h3 => ?_)
  · obtain ⟨_, hp⟩ := hp
    have e := boarderref13_subnet_s nets[m].f0[i] ((h.2 _ (List.getElem_mem hm)).2 _ (List.getElem_mem hi))
    rw [decide_eq_true hp] at e
    refine Ev.step (fun k => ?_) (Ev.bind e (f := fun k t => if t = true then boarderref13_Form.l1 k (m : Int) ((i + 1 : Nat) : Int) a b nets else some false) (Ev.pos rfl h3))
    show boarderref13_Form.l1 (k + 1) _ _ _ _ _ = _
    rw [boarderref13_Form.l1, if_pos (by omega), if_pos (by omega), eN, if_pos (by omega), if_pos (by omega), show rd_T57 nets[m].f0 (i : Int) = nets[m].f0[i] from rd_get hi, wrap_next hi (by omega)]
  · have e := boarderref13_subnet_s nets[m].f0[i] ((h.2 _ (List.getElem_mem hm)).2 _ (List.getElem_mem hi))
    rw [decide_eq_false (fun h => hp ⟨hi, h⟩)] at e
    refine Ev.step (fun k => ?_) (Ev.bind e (f := fun k t => if t = true then boarderref13_Form.l1 k (m : Int) ((i + 1 : Nat) : Int) a b nets else some false) (Ev.neg (by simp) Ev.some'))
    show boarderref13_Form.l1 (k + 1) _ _ _ _ _ = _
    rw [boarderref13_Form.l1, if_pos (by omega), if_pos (by omega), eN, if_pos (by omega), if_pos (by omega), show rd_T57 nets[m].f0 (i : Int) = nets[m].f0[i] from rd_get hi, wrap_next hi (by omega)]
  · refine Ev.step (fun k => ?_) (h1 (fun s hs => by obtain ⟨i, hi, rfl⟩ := List.mem_iff_getElem.1 hs; exact (h3 i hi).2))
    show boarderref13_Form.l1 (k + 1) _ _ _ _ _ = _
    rw [boarderref13_Form.l1, if_pos (by omega), if_pos (by omega), eN, if_neg (by omega), wrap_next hm (by omega)]
  · obtain ⟨i, hi, hp⟩ := h3
    exact h2 (fun h => hp ⟨hi, h _ (List.getElem_mem hi)⟩)
theorem boarderref13_Form_l0 (a b : Int) (nets : List Nt) (h : Sm nets) {r : Bool} (hr : r = true ↔ (∀ n ∈ nets, 1 ≤ n.f0.length ∧ n.f0.length ≤ 4) ∧ ∀ n ∈ nets, ∀ s ∈ n.f0, FairS s) : Ev (fun k => boarderref13_Form.l0 k 0 a b nets) r := by
  have hN := h.1
  have J : ∀ (i : Nat) (hi : i < nets.length) (x : Bool) (r : Bool), (x = true → r = false) → (x = false → Ev (fun k => boarderref13_Form.l1 k (i : Int) 0 a b nets) r) → Ev (fun k => boarderref13_Form.j2 k (i : Int) x a b nets) r := by
    intro i hi x r hx hy
    cases x with
    | true => rw [hx rfl]; exact Ev.step (f := fun _ => some false) (fun k => by show boarderref13_Form.j2 (k + 1) _ _ _ _ _ = _; rw [boarderref13_Form.j2, if_pos rfl]) Ev.some'
    | false => exact Ev.step (fun k => by show boarderref13_Form.j2 (k + 1) _ _ _ _ _ = _; rw [boarderref13_Form.j2, if_neg (by simp)]) (hy rfl)
  have S : ∀ (i : Nat) (hi : i < nets.length) (r : Bool), ((1 ≤ nets[i].f0.length ∧ nets[i].f0.length ≤ 4) → Ev (fun k => boarderref13_Form.l1 k (i : Int) 0 a b nets) r) → (¬ (1 ≤ nets[i].f0.length ∧ nets[i].f0.length ≤ 4) → r = false) → Ev (fun k => boarderref13_Form.l0 k (i : Int) a b nets) r := by
    intro i hi r h1 h2
    refine Ev.step (f := fun k => if (nets[i].f0.length : Int) = 0 then boarderref13_Form.j2 k (i : Int) true a b nets else boarderref13_Form.j2 k (i : Int) (decide ((nets[i].f0.length : Int) > 4)) a b nets) (fun k => ?_) ?_
    · show boarderref13_Form.l0 (k + 1) _ _ _ _ = _
      rw [boarderref13_Form.l0, if_pos (by omega), if_pos (by omega), show rd_T41 nets (i : Int) = nets[i] from rd_get hi]
    · by_cases c : (nets[i].f0.length : Int) = 0
      · exact Ev.pos c (J i hi true r (fun _ => h2 (by omega)) (fun h => by cases h))
      · refine Ev.neg c (J i hi _ r (fun h => ?_) (fun h => ?_))
        · have := of_decide_eq_true h; exact h2 (by omega)
        · have := of_decide_eq_false h; exact h1 (by omega)
  refine loopC (n := nets.length) (L := fun k i => boarderref13_Form.l0 k i a b nets) (fun i => ∃ h : i < nets.length, (1 ≤ nets[i].f0.length ∧ nets[i].f0.length ≤ 4) ∧ ∀ s ∈ nets[i].f0, FairS s) false (fun i hi hp r h3 => ?_) (fun i hi hp => ?_) (fun h2 => ?_) (fun h => ?_)
  · obtain ⟨_, hp1, hp2⟩ := hp
    exact S i hi r (fun _ => boarderref13_Form_l1 a b nets i hi h (fun _ => h3) (fun h => absurd hp2 h)) (fun h => absurd hp1 h)
  · refine S i hi false (fun h1 => boarderref13_Form_l1 a b nets i hi h (fun h4 => absurd ⟨hi, h1, h4⟩ hp) (fun _ => rfl)) (fun _ => rfl)
  · rw [hr.2 ⟨fun n hn => by obtain ⟨i, hi, rfl⟩ := List.mem_iff_getElem.1 hn; exact (h2 i hi).2.1, fun n hn => by obtain ⟨i, hi, rfl⟩ := List.mem_iff_getElem.1 hn; exact (h2 i hi).2.2⟩]
    refine Ev.step (f := fun _ => some true) (fun k => ?_) Ev.some'
    show boarderref13_Form.l0 (k + 1) _ _ _ _ = _
    rw [boarderref13_Form.l0, if_neg (by omega)]
  · obtain ⟨i, hi, hp⟩ := h
    cases r with
    | false => rfl
    | true => exact absurd ⟨hi, (hr.1 rfl).1 _ (List.getElem_mem hi), (hr.1 rfl).2 _ (List.getElem_mem hi)⟩ hp
open Classical in
theorem boarderref13_Form_s (a b : Int) (nets : List Nt) (h : Sm nets) : Ev (fun k => boarderref13_Form.f k a b nets) (decide (FormP a b nets)) := by
  have J : ∀ (x : Bool), (x = true → ¬ FormP a b nets) → (x = false → (FormP a b nets ↔ ((∀ n ∈ nets, 1 ≤ n.f0.length ∧ n.f0.length ≤ 4) ∧ ∀ n ∈ nets, ∀ s ∈ n.f0, FairS s))) →
      Ev (fun k => boarderref13_Form.j0 k x a b nets) (decide (FormP a b nets)) := by
    intro x hx hy
    cases x with
    | true =>
      rw [decide_eq_false (hx rfl)]
      exact Ev.step (f := fun _ => some false) (fun k => by show boarderref13_Form.j0 (k + 1) _ _ _ _ = _; rw [boarderref13_Form.j0, if_pos rfl]) Ev.some'
    | false =>
      refine Ev.step (fun k => by show boarderref13_Form.j0 (k + 1) _ _ _ _ = _; rw [boarderref13_Form.j0, if_neg (by simp)]) (boarderref13_Form_l0 a b nets h ?_)
      rw [decide_eq_true_iff]; exact hy rfl
  simp only [boarderref13_Form.f, boarderref01_Right_s, Option.bind_some]
  by_cases a1 : 0 ≤ a ∧ a ≤ 4294967295
  · refine Ev.pos (decide_eq_true a1) ?_
    by_cases a2 : b < 1
    · exact Ev.pos a2 (J true (fun _ h => by have := h.2.2.1; omega) (fun h => by cases h))
    · refine Ev.neg a2 ?_
      by_cases a3 : b > 2147483648
      · exact Ev.pos a3 (J true (fun _ h => by have := h.2.2.2.1; omega) (fun h => by cases h))
      · refine Ev.neg a3 (J _ (fun h3 h4 => ?_) (fun h3 => ?_))
        · have := of_decide_eq_true h3; have := h4.2.2.2.2.1; omega
        · have := of_decide_eq_false h3
          exact ⟨fun h => h.2.2.2.2.2, fun h => ⟨a1.1, a1.2, Int.not_lt.1 a2, Int.not_lt.1 a3, by omega, h⟩⟩
  · exact Ev.neg (by rw [decide_eq_false a1]; simp) (J true (fun _ h => a1 ⟨h.1, h.2.1⟩) (fun h => by cases h))

end Go.Proofs.Ytdcabfonjmeajaa.PAlloc
set_option linter.unusedVariables false
set_option linter.unusedSimpArgs false
namespace Go.Proofs.Ytdcabfonjmeajaa.PAlloc
open Go.RowKit Go.Proofs.YtdcabfonjmeajaaW.PrintWords Go.Proofs.YtdcabfonjmeajaaW.PrintLast Go.Proofs.YtdcabfonjmeajaaW.PrintMore

/-! ### boarderref01.Has -/
theorem boarderref01_Has_s (b n a : Int) (k : Nat) (hk : 40 ≤ k) : boarderref01_Has.f k b n a = some (Com.hasB b n a) := by
  unfold boarderref01_Has.f Com.hasB
  rw [boarderref01_Fair_s b n k hk, Option.bind_some]
  by_cases h : Com.fairB b n = true
  · obtain ⟨h0, h1, h2, h3, h4⟩ := (Com.fairB_iff b n).1 h
    have he := Com.fair_end b n h
    have hz := Com.sz_le n
    rw [if_pos h, h, Bool.true_and, boarderref01_Right_s, Option.bind_some]
    by_cases ha : 0 ≤ a ∧ a ≤ 4294967295
    · rw [decide_eq_true ha, if_pos rfl]
      by_cases hb : a ≥ b
      · rw [if_pos hb, boarderref01_Size_s n h0 h1 k hk, Option.bind_some, show wrap64 (b + (Com.sz n : Int)) = b + (Com.sz n : Int) from by unfold wrap64; omega]
        congr 1; exact decide_eq_decide.2 ⟨fun h2 => ⟨hb, h2⟩, fun h2 => h2.2⟩
      · rw [if_neg hb, decide_eq_false (fun h => hb h.1)]
    · rw [decide_eq_false ha, if_neg (by simp), decide_eq_false (by omega)]
  · rw [if_neg h, Bool.eq_false_iff.2 h, Bool.false_and]

end Go.Proofs.Ytdcabfonjmeajaa.PAlloc
set_option linter.unusedVariables false
set_option linter.unusedSimpArgs false
namespace Go.Proofs.Ytdcabfonjmeajaa.PAlloc
open Go.RowKit Go.Proofs.YtdcabfonjmeajaaW.PrintWords Go.Proofs.YtdcabfonjmeajaaW.PrintLast Go.Proofs.YtdcabfonjmeajaaW.PrintMore

/-! ### boarderref01.Last -/
theorem boarderref01_Last_s (b n : Int) (h : Com.fairB b n = true) (k : Nat) (hk : 40 ≤ k) : boarderref01_Last.f k b n = some (b + (Com.sz n : Int) - 1) := by
  unfold boarderref01_Last.f
  obtain ⟨h0, h1, h2, h3, h4⟩ := (Com.fairB_iff b n).1 h
  have := Com.sz_le n
  rw [boarderref01_Size_s n h0 h1 k hk, Option.bind_some, show wrap64 (wrap64 (b + (Com.sz n : Int)) - 1) = b + (Com.sz n : Int) - 1 from by unfold wrap64; omega]

end Go.Proofs.Ytdcabfonjmeajaa.PAlloc
set_option linter.unusedVariables false
set_option linter.unusedSimpArgs false
namespace Go.Proofs.Ytdcabfonjmeajaa.PAlloc
open Go.RowKit Go.Proofs.YtdcabfonjmeajaaW.PrintWords Go.Proofs.YtdcabfonjmeajaaW.PrintLast Go.Proofs.YtdcabfonjmeajaaW.PrintMore

/-! ### boarderref13.lends -/
theorem boarderref13_lends_s (s : Sb) (h : Com.fairB s.f0 s.f1 = true) (a : Int) : Ev (fun k => boarderref13_lends.f k s.f0 s.f1 s.f2 s.f3 s.f4 s.f5 s.f6 a) (decide (InS s a)) := by
  refine ⟨40, fun k hk => ?_⟩
  show boarderref13_lends.f k _ _ _ _ _ _ _ _ = _
  unfold boarderref13_lends.f
  rw [boarderref01_Last_s _ _ h k hk, Option.bind_some]
  by_cases c : a > s.f0
  · rw [if_pos c]; congr 1; exact decide_eq_decide.2 ⟨fun h2 => ⟨c, h2⟩, fun h2 => h2.2⟩
  · rw [if_neg c, decide_eq_false (fun h2 => c h2.1)]

end Go.Proofs.Ytdcabfonjmeajaa.PAlloc
set_option linter.unusedVariables false
set_option linter.unusedSimpArgs false
namespace Go.Proofs.Ytdcabfonjmeajaa.PAlloc
open Go.RowKit Go.Proofs.YtdcabfonjmeajaaW.PrintWords Go.Proofs.YtdcabfonjmeajaaW.PrintLast Go.Proofs.YtdcabfonjmeajaaW.PrintMore

/-! ### boarderref13.Places -/
theorem boarderref13_Places_l3 (m j : Nat) (sv b : Int) (nets : List Nt) (s : Sb) (hs : SmS s) (hF : Com.fairB s.f0 s.f1 = true) (hj : j ≤ 1000) {r : Bool}
    (h1 : ((∀ i, (h : i < s.f3.length) → InS s s.f3[i].f1 ∧ s.f3[i].f1 ≠ sv) ∧ (s.f5 ≠ 0 → Com.hasB s.f0 s.f1 s.f5 = true)) → Ev (fun k => boarderref13_Places.l1 k (m : Int) ((j + 1 : Nat) : Int) sv b nets) r)
    (h2 : (¬ ((∀ i, (h : i < s.f3.length) → InS s s.f3[i].f1 ∧ s.f3[i].f1 ≠ sv) ∧ (s.f5 ≠ 0 → Com.hasB s.f0 s.f1 s.f5 = true))) → r = false) :
    Ev (fun k => boarderref13_Places.l3 k (m : Int) (j : Int) 0 sv b nets s.f0 s.f1 s.f2 s.f3 s.f4 s.f5 s.f6) r := by
  have h20 := hs.2.1
  have hw : wrap64 ((j : Int) + 1) = ((j + 1 : Nat) : Int) := by unfold wrap64; omega
  refine loopC (n := s.f3.length) (L := fun k i => boarderref13_Places.l3 k (m : Int) (j : Int) i sv b nets s.f0 s.f1 s.f2 s.f3 s.f4 s.f5 s.f6) (fun i => ∃ h : i < s.f3.length, InS s s.f3[i].f1 ∧ s.f3[i].f1 ≠ sv) false (fun i hi hp r h3 => ?_) (fun i hi hp => ?_) (fun h3 => ?_) (fun h3 => ?_)
  · obtain ⟨_, hp1, hp2⟩ := hp
    have e := boarderref13_lends_s s hF s.f3[i].f1
    rw [decide_eq_true hp1] at e
    refine Ev.step (fun k => ?_) (Ev.bind e (f := fun k t => if t = true then (if s.f3[i].f1 = sv then some false else boarderref13_Places.l3 k (m : Int) (j : Int) ((i + 1 : Nat) : Int) sv b nets s.f0 s.f1 s.f2 s.f3 s.f4 s.f5 s.f6) else some false) (Ev.pos rfl (Ev.neg hp2 h3)))
    show boarderref13_Places.l3 (k + 1) _ _ _ _ _ _ _ _ _ _ _ _ _ = _
    rw [boarderref13_Places.l3, if_pos (by omega), if_pos (by omega), show rd_T59 s.f3 (i : Int) = s.f3[i] from rd_get hi, wrap_next hi (by omega)]
  · have e := boarderref13_lends_s s hF s.f3[i].f1
    refine Ev.step (fun k => ?_) (Ev.bind e (f := fun k t => if t = true then (if s.f3[i].f1 = sv then some false else boarderref13_Places.l3 k (m : Int) (j : Int) ((i + 1 : Nat) : Int) sv b nets s.f0 s.f1 s.f2 s.f3 s.f4 s.f5 s.f6) else some false) ?_)
    · show boarderref13_Places.l3 (k + 1) _ _ _ _ _ _ _ _ _ _ _ _ _ = _
      rw [boarderref13_Places.l3, if_pos (by omega), if_pos (by omega), show rd_T59 s.f3 (i : Int) = s.f3[i] from rd_get hi, wrap_next hi (by omega)]
    · by_cases c : InS s s.f3[i].f1
      · refine Ev.pos (decide_eq_true c) ?_
        by_cases c2 : s.f3[i].f1 = sv
        · exact Ev.pos c2 Ev.some'
        · exact absurd ⟨hi, c, c2⟩ hp
      · exact Ev.neg (by rw [decide_eq_false c]; simp) Ev.some'
  · have h4 : ∀ i, (h : i < s.f3.length) → InS s s.f3[i].f1 ∧ s.f3[i].f1 ≠ sv := fun i hi => (h3 i hi).2
    refine Ev.step (f := fun k => if s.f5 = 0 then boarderref13_Places.l1 k (m : Int) ((j + 1 : Nat) : Int) sv b nets else ((boarderref01_Has.f k s.f0 s.f1 s.f5).bind fun t => if t = true then boarderref13_Places.l1 k (m : Int) ((j + 1 : Nat) : Int) sv b nets else some false)) (fun k => ?_) ?_
    · show boarderref13_Places.l3 (k + 1) _ _ _ _ _ _ _ _ _ _ _ _ _ = _
      rw [boarderref13_Places.l3, if_neg (by omega), hw]
    · by_cases c : s.f5 = 0
      · exact Ev.pos c (h1 ⟨h4, fun h => absurd c h⟩)
      · refine Ev.neg c (Ev.bind (g := fun k => boarderref01_Has.f k s.f0 s.f1 s.f5) (a := Com.hasB s.f0 s.f1 s.f5) ⟨40, fun k hk => boarderref01_Has_s _ _ _ k hk⟩ (f := fun k t => if t = true then boarderref13_Places.l1 k (m : Int) ((j + 1 : Nat) : Int) sv b nets else some false) ?_)
        by_cases c2 : Com.hasB s.f0 s.f1 s.f5 = true
        · exact Ev.pos c2 (h1 ⟨h4, fun _ => c2⟩)
        · rw [h2 (fun h => c2 (h.2 c))]; exact Ev.neg c2 Ev.some'
  · obtain ⟨i, hi, hp⟩ := h3
    exact h2 (fun h => hp ⟨hi, h.1 i hi⟩)
theorem boarderref13_Places_l2 (m j : Nat) (sv b : Int) (nets : List Nt) (s : Sb) (hs : SmS s) (hF : Com.fairB s.f0 s.f1 = true) (hj : j ≤ 1000) {r : Bool}
    (h1 : PlaceS sv s → Ev (fun k => boarderref13_Places.l1 k (m : Int) ((j + 1 : Nat) : Int) sv b nets) r) (h2 : ¬ PlaceS sv s → r = false) :
    Ev (fun k => boarderref13_Places.l2 k (m : Int) (j : Int) 0 sv b nets s.f0 s.f1 s.f2 s.f3 s.f4 s.f5 s.f6) r := by
  have h20 := hs.1
  have E : ∀ i (hi : i < s.f2.length) (r : Bool), ((InS s s.f2[i].f0 ∧ InS s s.f2[i].f1 ∧ ¬ (s.f2[i].f0 ≤ sv ∧ sv ≤ s.f2[i].f1)) → Ev (fun k => boarderref13_Places.l2 k (m : Int) (j : Int) ((i + 1 : Nat) : Int) sv b nets s.f0 s.f1 s.f2 s.f3 s.f4 s.f5 s.f6) r) →
      (¬ (InS s s.f2[i].f0 ∧ InS s s.f2[i].f1 ∧ ¬ (s.f2[i].f0 ≤ sv ∧ sv ≤ s.f2[i].f1)) → r = false) → Ev (fun k => boarderref13_Places.l2 k (m : Int) (j : Int) (i : Int) sv b nets s.f0 s.f1 s.f2 s.f3 s.f4 s.f5 s.f6) r := by
    intro i hi r h3 h4
    refine Ev.step (fun k => ?_) (Ev.bind (boarderref13_lends_s s hF s.f2[i].f0) (f := fun k t => if t = true then ((boarderref13_lends.f k s.f0 s.f1 s.f2 s.f3 s.f4 s.f5 s.f6 s.f2[i].f1).bind fun t2 => if t2 = true then (if sv ≥ s.f2[i].f0 then (if sv ≤ s.f2[i].f1 then some false else boarderref13_Places.l2 k (m : Int) (j : Int) ((i + 1 : Nat) : Int) sv b nets s.f0 s.f1 s.f2 s.f3 s.f4 s.f5 s.f6) else boarderref13_Places.l2 k (m : Int) (j : Int) ((i + 1 : Nat) : Int) sv b nets s.f0 s.f1 s.f2 s.f3 s.f4 s.f5 s.f6) else some false) else some false) ?_)
    · show boarderref13_Places.l2 (k + 1) _ _ _ _ _ _ _ _ _ _ _ _ _ = _
      rw [boarderref13_Places.l2, if_pos (by omega), if_pos (by omega), show rd_T62 s.f2 (i : Int) = s.f2[i] from rd_get hi, wrap_next hi (by omega)]
    · by_cases c : InS s s.f2[i].f0
      · refine Ev.pos (decide_eq_true c) (Ev.bind (boarderref13_lends_s s hF s.f2[i].f1) (f := fun k t2 => if t2 = true then (if sv ≥ s.f2[i].f0 then (if sv ≤ s.f2[i].f1 then some false else boarderref13_Places.l2 k (m : Int) (j : Int) ((i + 1 : Nat) : Int) sv b nets s.f0 s.f1 s.f2 s.f3 s.f4 s.f5 s.f6) else boarderref13_Places.l2 k (m : Int) (j : Int) ((i + 1 : Nat) : Int) sv b nets s.f0 s.f1 s.f2 s.f3 s.f4 s.f5 s.f6) else some false) ?_)
        by_cases c2 : InS s s.f2[i].f1
        · refine Ev.pos (decide_eq_true c2) ?_
          by_cases c3 : sv ≥ s.f2[i].f0
          · refine Ev.pos c3 ?_
            by_cases c4 : sv ≤ s.f2[i].f1
            · rw [h4 (fun h => h.2.2 ⟨c3, c4⟩)]; exact Ev.pos c4 Ev.some'
            · exact Ev.neg c4 (h3 ⟨c, c2, fun h => c4 h.2⟩)
          · exact Ev.neg c3 (h3 ⟨c, c2, fun h => c3 h.1⟩)
        · rw [h4 (fun h => c2 h.2.1)]; exact Ev.neg (by rw [decide_eq_false c2]; simp) Ev.some'
      · rw [h4 (fun h => c h.1)]; exact Ev.neg (by rw [decide_eq_false c]; simp) Ev.some'
  refine loopC (n := s.f2.length) (L := fun k i => boarderref13_Places.l2 k (m : Int) (j : Int) i sv b nets s.f0 s.f1 s.f2 s.f3 s.f4 s.f5 s.f6) (fun i => ∃ h : i < s.f2.length, InS s s.f2[i].f0 ∧ InS s s.f2[i].f1 ∧ ¬ (s.f2[i].f0 ≤ sv ∧ sv ≤ s.f2[i].f1)) false (fun i hi hp r h3 => ?_) (fun i hi hp => ?_) (fun h3 => ?_) (fun h3 => ?_)
  · exact E i hi r (fun _ => h3) (fun h => absurd hp.2 h)
  · exact E i hi false (fun h => absurd ⟨hi, h⟩ hp) (fun _ => rfl)
  · have h4 : ∀ i, (h : i < s.f2.length) → InS s s.f2[i].f0 ∧ InS s s.f2[i].f1 ∧ ¬ (s.f2[i].f0 ≤ sv ∧ sv ≤ s.f2[i].f1) := fun i hi => (h3 i hi).2
    refine Ev.step (fun k => ?_) (boarderref13_Places_l3 m j sv b nets s hs hF hj (r := r) (fun h => h1 ⟨h4, h.1, h.2⟩) (fun h => h2 (fun h5 => h ⟨h5.2.1, h5.2.2⟩)))
    show boarderref13_Places.l2 (k + 1) _ _ _ _ _ _ _ _ _ _ _ _ _ = _
    rw [boarderref13_Places.l2, if_neg (by omega)]
  · obtain ⟨i, hi, hp⟩ := h3
    exact h2 (fun h => hp ⟨hi, h.1 i hi⟩)
theorem boarderref13_Places_l1 (m : Nat) (sv b : Int) (nets : List Nt) (hm : m < nets.length) (h : Sm nets) (hF : ∀ n ∈ nets, ∀ s ∈ n.f0, FairS s) {r : Bool} (h1 : (∀ s ∈ nets[m].f0, PlaceS sv s) → Ev (fun k => boarderref13_Places.l0 k ((m + 1 : Nat) : Int) sv b nets) r) (h2 : (¬ ∀ s ∈ nets[m].f0, PlaceS sv s) → r = false) :
    Ev (fun k => boarderref13_Places.l1 k (m : Int) 0 sv b nets) r := by
  have hN := h.1
  have h10 := (h.2 nets[m] (List.getElem_mem hm)).1
  have eN : rd_T41 nets (m : Int) = nets[m] := rd_get hm
  have E : ∀ i (hi : i < nets[m].f0.length) (r : Bool), (PlaceS sv nets[m].f0[i] → Ev (fun k => boarderref13_Places.l1 k (m : Int) ((i + 1 : Nat) : Int) sv b nets) r) → (¬ PlaceS sv nets[m].f0[i] → r = false) → Ev (fun k => boarderref13_Places.l1 k (m : Int) (i : Int) sv b nets) r := by
    intro i hi r h3 h4
    refine Ev.step (fun k => ?_) (boarderref13_Places_l2 m i sv b nets nets[m].f0[i] ((h.2 _ (List.getElem_mem hm)).2 _ (List.getElem_mem hi)) (hF _ (List.getElem_mem hm) _ (List.getElem_mem hi)).1 (by omega) h3 h4)
    show boarderref13_Places.l1 (k + 1) _ _ _ _ _ = _
    rw [boarderref13_Places.l1, if_pos (by omega), if_pos (by omega), eN, if_pos (by omega), if_pos (by omega), show rd_T57 nets[m].f0 (i : Int) = nets[m].f0[i] from rd_get hi]
  refine loopC (n := nets[m].f0.length) (L := fun k i => boarderref13_Places.l1 k (m : Int) i sv b nets) (fun i => ∃ h : i < nets[m].f0.length, PlaceS sv nets[m].f0[i]) false (fun i hi hp r h3 => ?_) (fun i hi hp => ?_) (fun h3 => ?_) (fun h3 => ?_)
  · exact E i hi r (fun _ => h3) (fun h => absurd hp.2 h)
  · exact E i hi false (fun h => absurd ⟨hi, h⟩ hp) (fun _ => rfl)
  · refine Ev.step (fun k => ?_) (h1 (fun s hs => by obtain ⟨i, hi, rfl⟩ := List.mem_iff_getElem.1 hs; exact (h3 i hi).2))
    show boarderref13_Places.l1 (k + 1) _ _ _ _ _ = _
    rw [boarderref13_Places.l1, if_pos (by omega), if_pos (by omega), eN, if_neg (by omega), wrap_next hm (by omega)]
  · obtain ⟨i, hi, hp⟩ := h3
    exact h2 (fun h => hp ⟨hi, h _ (List.getElem_mem hi)⟩)
open Classical in
theorem boarderref13_Places_s (a b : Int) (nets : List Nt) (h : Sm nets) (hF : ∀ n ∈ nets, ∀ s ∈ n.f0, FairS s) : Ev (fun k => boarderref13_Places.f k a b nets) (decide (∀ n ∈ nets, ∀ s ∈ n.f0, PlaceS a s)) := by
  have hN := h.1
  have E : ∀ i (hi : i < nets.length) (r : Bool), ((∀ s ∈ nets[i].f0, PlaceS a s) → Ev (fun k => boarderref13_Places.l0 k ((i + 1 : Nat) : Int) a b nets) r) → ((¬ ∀ s ∈ nets[i].f0, PlaceS a s) → r = false) → Ev (fun k => boarderref13_Places.l0 k (i : Int) a b nets) r := by
    intro i hi r h3 h4
    refine Ev.step (fun k => ?_) (boarderref13_Places_l1 i a b nets hi h hF h3 h4)
    show boarderref13_Places.l0 (k + 1) _ _ _ _ = _
    rw [boarderref13_Places.l0, if_pos (by omega)]
  refine loopC (n := nets.length) (L := fun k i => boarderref13_Places.l0 k i a b nets) (fun i => ∃ h : i < nets.length, ∀ s ∈ nets[i].f0, PlaceS a s) false (fun i hi hp r h3 => ?_) (fun i hi hp => ?_) (fun h3 => ?_) (fun h3 => ?_)
  · exact E i hi r (fun _ => h3) (fun h => absurd hp.2 h)
  · exact E i hi false (fun h => absurd ⟨hi, h⟩ hp) (fun _ => rfl)
  · rw [decide_eq_true (fun n hn => by obtain ⟨i, hi, rfl⟩ := List.mem_iff_getElem.1 hn; exact (h3 i hi).2)]
    refine Ev.step (f := fun _ => some true) (fun k => ?_) Ev.some'
    show boarderref13_Places.l0 (k + 1) _ _ _ _ = _
    rw [boarderref13_Places.l0, if_neg (by omega)]
  · obtain ⟨i, hi, hp⟩ := h3
    exact decide_eq_false (fun h => hp ⟨hi, h _ (List.getElem_mem hi)⟩)

end Go.Proofs.Ytdcabfonjmeajaa.PAlloc
set_option linter.unusedVariables false
set_option linter.unusedSimpArgs false
namespace Go.Proofs.Ytdcabfonjmeajaa.PAlloc
open Go.RowKit Go.Proofs.YtdcabfonjmeajaaW.PrintWords Go.Proofs.YtdcabfonjmeajaaW.PrintLast Go.Proofs.YtdcabfonjmeajaaW.PrintMore

/-! ### boarderref13.Flat -/
theorem boarderref13_Flat_l1 (a b : Int) (nets : List Nt) (m : Nat) (hm : m < nets.length) (hn : nets.length ≤ 10) (h10 : nets[m].f0.length ≤ 10) : ∀ (d i : Nat) (o1 : List Sb) (o2 : List Int) (r : List Sb × List Int), i + d = nets[m].f0.length → o1.length + d ≤ 1000 → o2.length + d ≤ 1000 →
    Ev (fun k => boarderref13_Flat.l0 k (o1 ++ (subAt (m : Int) i (nets[m].f0.drop i)).map (·.f2)) (o2 ++ (subAt (m : Int) i (nets[m].f0.drop i)).map (·.f0)) ((m + 1 : Nat) : Int) a b nets) r → Ev (fun k => boarderref13_Flat.l1 k o1 o2 (m : Int) (i : Int) a b nets) r := by
  have eN : rd_T41 nets (m : Int) = nets[m] := rd_get hm
  intro d
  induction d with
  | zero =>
    intro i o1 o2 r hi ho1 ho2 h
    rw [List.drop_eq_nil_of_le (by omega), subAt, List.map_nil, List.map_nil, List.append_nil, List.append_nil] at h
    refine Ev.step (fun k => ?_) h
    show boarderref13_Flat.l1 (k + 1) _ _ _ _ _ _ _ = _
    rw [boarderref13_Flat.l1, if_pos (by omega), if_pos (by omega), eN, if_neg (by omega), wrap_next hm (by omega)]
  | succ d ih =>
    intro i o1 o2 r hi ho1 ho2 h
    have hl : i < nets[m].f0.length := by omega
    refine Ev.step (fun k => ?_) (ih (i + 1) (o1 ++ [nets[m].f0[i]]) (o2 ++ [(m : Int)]) r (by omega) (by rw [List.length_append, List.length_singleton]; omega) (by rw [List.length_append, List.length_singleton]; omega) ?_)
    · show boarderref13_Flat.l1 (k + 1) _ _ _ _ _ _ _ = _
      rw [boarderref13_Flat.l1, if_pos (by omega), if_pos (by omega), eN, if_pos (by omega), if_pos (by omega), if_pos (by omega), if_pos (by omega), show rd_T57 nets[m].f0 (i : Int) = nets[m].f0[i] from rd_get hl, wrap_next hl (by omega)]
    · rw [List.append_assoc, List.singleton_append, List.append_assoc, List.singleton_append]
      rwa [List.drop_eq_getElem_cons hl, subAt, List.map_cons, List.map_cons] at h
theorem boarderref13_Flat_l0 (a b : Int) (nets : List Nt) (hn : nets.length ≤ 10) (hx : ∀ x ∈ nets, x.f0.length ≤ 10) : ∀ (d m : Nat) (o1 : List Sb) (o2 : List Int), m + d = nets.length → o1.length + 10 * d ≤ 500 → o2.length + 10 * d ≤ 500 →
    Ev (fun k => boarderref13_Flat.l0 k o1 o2 (m : Int) a b nets) (o1 ++ (spotsFrom m (nets.drop m)).map (·.f2), o2 ++ (spotsFrom m (nets.drop m)).map (·.f0)) := by
  intro d
  induction d with
  | zero =>
    intro m o1 o2 hm ho1 ho2
    rw [List.drop_eq_nil_of_le (by omega), spotsFrom, List.map_nil, List.map_nil, List.append_nil, List.append_nil]
    refine Ev.step (f := fun _ => some (o1, o2)) (fun k => ?_) Ev.some'
    show boarderref13_Flat.l0 (k + 1) _ _ _ _ _ _ = _
    rw [boarderref13_Flat.l0, if_neg (by omega)]
  | succ d ih =>
    intro m o1 o2 hm ho1 ho2
    have hl : m < nets.length := by omega
    have h10 := hx nets[m] (List.getElem_mem hl)
    rw [List.drop_eq_getElem_cons hl, spotsFrom, List.map_append, List.map_append, ← List.append_assoc, ← List.append_assoc]
    refine Ev.step (fun k => ?_) (boarderref13_Flat_l1 a b nets m hl hn h10 nets[m].f0.length 0 o1 o2 _ (by omega) (by omega) (by omega) ?_)
    · show boarderref13_Flat.l0 (k + 1) _ _ _ _ _ _ = _
      rw [boarderref13_Flat.l0, if_pos (by omega)]
      rfl
    · rw [List.drop_zero]
      exact ih (m + 1) _ _ (by omega) (by rw [List.length_append, List.length_map, subAt_len]; omega) (by rw [List.length_append, List.length_map, subAt_len]; omega)
theorem boarderref13_Flat_s (a b : Int) (nets : List Nt) (h : Sm nets) : Ev (fun k => boarderref13_Flat.f k a b nets) ((spotsL nets).map (·.f2), (spotsL nets).map (·.f0)) := by
  have e := boarderref13_Flat_l0 a b nets h.1 (fun x hx => (h.2 x hx).1) nets.length 0 [] [] (by omega) (by have := h.1; simp; omega) (by have := h.1; simp; omega)
  rw [List.drop_zero, List.nil_append, List.nil_append] at e
  exact e

end Go.Proofs.Ytdcabfonjmeajaa.PAlloc
set_option linter.unusedVariables false
set_option linter.unusedSimpArgs false
namespace Go.Proofs.Ytdcabfonjmeajaa.PAlloc
open Go.RowKit Go.Proofs.YtdcabfonjmeajaaW.PrintWords Go.Proofs.YtdcabfonjmeajaaW.PrintLast Go.Proofs.YtdcabfonjmeajaaW.PrintMore

/-! ### boarderref13.Pooled -/
open Classical in
theorem boarderref13_Pooled_s (s : Sb) (hs : SmS s) : Ev (fun k => boarderref13_Pooled.f k s.f0 s.f1 s.f2 s.f3 s.f4 s.f5 s.f6) (decide (PooledP s)) := by
  have h20 := hs.1
  have E1 : ∀ i (hi : i < s.f2.length) (r : Bool), ((∀ j, (hj : j < i) → ¬ OverP s.f2[i] s.f2[j]) → Ev (fun k => boarderref13_Pooled.l0 k ((i + 1 : Nat) : Int) s.f0 s.f1 s.f2 s.f3 s.f4 s.f5 s.f6) r) → ((¬ ∀ j, (hj : j < i) → ¬ OverP s.f2[i] s.f2[j]) → r = true) → Ev (fun k => boarderref13_Pooled.l1 k (i : Int) 0 s.f0 s.f1 s.f2 s.f3 s.f4 s.f5 s.f6) r := by
    intro i hi r h1 h2
    have eI : rd_T62 s.f2 (i : Int) = s.f2[i] := rd_get hi
    have E : ∀ j (hj : j < i) (r : Bool), (¬ OverP s.f2[i] s.f2[j] → Ev (fun k => boarderref13_Pooled.l1 k (i : Int) ((j + 1 : Nat) : Int) s.f0 s.f1 s.f2 s.f3 s.f4 s.f5 s.f6) r) → (OverP s.f2[i] s.f2[j] → r = true) → Ev (fun k => boarderref13_Pooled.l1 k (i : Int) (j : Int) s.f0 s.f1 s.f2 s.f3 s.f4 s.f5 s.f6) r := by
      intro j hj r h3 h4
      have hj2 : j < s.f2.length := by omega
      refine Ev.step (f := fun k => if s.f2[i].f0 ≤ s.f2[j].f1 then (if s.f2[j].f0 ≤ s.f2[i].f1 then some true else boarderref13_Pooled.l1 k (i : Int) ((j + 1 : Nat) : Int) s.f0 s.f1 s.f2 s.f3 s.f4 s.f5 s.f6) else boarderref13_Pooled.l1 k (i : Int) ((j + 1 : Nat) : Int) s.f0 s.f1 s.f2 s.f3 s.f4 s.f5 s.f6) (fun k => ?_) ?_
      · show boarderref13_Pooled.l1 (k + 1) _ _ _ _ _ _ _ _ _ = _
        rw [boarderref13_Pooled.l1, if_pos (by omega), if_pos (by omega), if_pos (by omega), if_pos (by omega), if_pos (by omega), eI, show rd_T62 s.f2 (j : Int) = s.f2[j] from rd_get hj2, wrap_next hj (by omega)]
      · by_cases c1 : s.f2[i].f0 ≤ s.f2[j].f1
        · refine Ev.pos c1 ?_
          by_cases c2 : s.f2[j].f0 ≤ s.f2[i].f1
          · rw [h4 ⟨c1, c2⟩]; exact Ev.pos c2 Ev.some'
          · exact Ev.neg c2 (h3 (fun h => c2 h.2))
        · exact Ev.neg c1 (h3 (fun h => c1 h.1))
    refine loopC (n := i) (L := fun k j => boarderref13_Pooled.l1 k (i : Int) j s.f0 s.f1 s.f2 s.f3 s.f4 s.f5 s.f6) (fun j => ∃ h : j < i, ¬ OverP s.f2[i] s.f2[j]) true (fun j hj hp r h3 => ?_) (fun j hj hp => ?_) (fun h3 => ?_) (fun h3 => ?_)
    · exact E j hj r (fun _ => h3) (fun h => absurd h hp.2)
    · exact E j hj true (fun h => absurd ⟨hj, h⟩ hp) (fun _ => rfl)
    · refine Ev.step (fun k => ?_) (h1 (fun j hj => (h3 j hj).2))
      show boarderref13_Pooled.l1 (k + 1) _ _ _ _ _ _ _ _ _ = _
      rw [boarderref13_Pooled.l1, if_neg (by omega), wrap_next hi (by omega)]
    · obtain ⟨j, hj, hp⟩ := h3
      exact h2 (fun h => hp ⟨hj, h j hj⟩)
  have E0 : ∀ i (hi : i < s.f2.length) (r : Bool), ((∀ j, (hj : j < i) → ¬ OverP s.f2[i] s.f2[j]) → Ev (fun k => boarderref13_Pooled.l0 k ((i + 1 : Nat) : Int) s.f0 s.f1 s.f2 s.f3 s.f4 s.f5 s.f6) r) → ((¬ ∀ j, (hj : j < i) → ¬ OverP s.f2[i] s.f2[j]) → r = true) → Ev (fun k => boarderref13_Pooled.l0 k (i : Int) s.f0 s.f1 s.f2 s.f3 s.f4 s.f5 s.f6) r := by
    intro i hi r h1 h2
    refine Ev.step (fun k => ?_) (E1 i hi r h1 h2)
    show boarderref13_Pooled.l0 (k + 1) _ _ _ _ _ _ _ _ = _
    rw [boarderref13_Pooled.l0, if_pos (by omega)]
  refine loopC (n := s.f2.length) (L := fun k i => boarderref13_Pooled.l0 k i s.f0 s.f1 s.f2 s.f3 s.f4 s.f5 s.f6) (fun i => ∃ h : i < s.f2.length, ∀ j, (hj : j < i) → ¬ OverP s.f2[i] s.f2[j]) true (fun i hi hp r h3 => ?_) (fun i hi hp => ?_) (fun h3 => ?_) (fun h3 => ?_)
  · exact E0 i hi r (fun _ => h3) (fun h => absurd hp.2 h)
  · exact E0 i hi true (fun h => absurd ⟨hi, h⟩ hp) (fun _ => rfl)
  · rw [decide_eq_false (show ¬ PooledP s by rintro ⟨i, j, hi, hj, ho⟩; exact (h3 i hi).2 j hj ho)]
    refine Ev.step (f := fun _ => some false) (fun k => ?_) Ev.some'
    show boarderref13_Pooled.l0 (k + 1) _ _ _ _ _ _ _ _ = _
    rw [boarderref13_Pooled.l0, if_neg (by omega)]
  · obtain ⟨i, hi, hp⟩ := h3
    refine decide_eq_true ?_
    by_cases c : PooledP s
    · exact c
    · exact absurd ⟨hi, fun j hj ho => c ⟨i, j, hi, hj, ho⟩⟩ hp

end Go.Proofs.Ytdcabfonjmeajaa.PAlloc
set_option linter.unusedVariables false
set_option linter.unusedSimpArgs false
namespace Go.Proofs.Ytdcabfonjmeajaa.PAlloc
open Go.RowKit Go.Proofs.YtdcabfonjmeajaaW.PrintWords Go.Proofs.YtdcabfonjmeajaaW.PrintLast Go.Proofs.YtdcabfonjmeajaaW.PrintMore

/-! ### boarderref01.Meet -/
theorem boarderref01_Meet_s (b n c m : Int) (k : Nat) (hk : 41 ≤ k) : boarderref01_Meet.f k b n c m = some (meetB b n c m) := by
  obtain ⟨k, rfl⟩ : ∃ q, k = q + 1 := ⟨k - 1, by omega⟩
  unfold boarderref01_Meet.f meetB
  rw [boarderref01_Fair_s b n _ (by omega), boarderref01_Fair_s c m _ (by omega)]
  simp only [Option.bind_some]
  by_cases h : Com.fairB b n = true
  · rw [h, if_pos rfl, Bool.true_and]
    by_cases h2 : Com.fairB c m = true
    · rw [h2, Bool.true_and, boarderref01_Meet.j0, if_neg (by simp), boarderref01_Last_s c m h2 k (by omega), boarderref01_Last_s b n h k (by omega)]
      simp only [Option.bind_some]
      have p1 := Com.sz_pos n
      have p2 := Com.sz_pos m
      by_cases q1 : b ≤ c + (Com.sz m : Int) - 1
      · rw [if_pos q1]
        congr 1
        rw [Bool.eq_iff_iff, Bool.or_eq_true, decide_eq_true_iff, decide_eq_true_iff, decide_eq_true_iff]
        omega
      · rw [if_neg q1]
        congr 1
        rw [eq_comm, Bool.or_eq_false_iff, decide_eq_false_iff_not, decide_eq_false_iff_not]
        omega
    · rw [Bool.eq_false_iff.2 h2, Bool.false_and, boarderref01_Meet.j0]; rfl
  · rw [Bool.eq_false_iff.2 h, if_neg (by simp), Bool.false_and, boarderref01_Meet.j0]; rfl

end Go.Proofs.Ytdcabfonjmeajaa.PAlloc
set_option linter.unusedVariables false
set_option linter.unusedSimpArgs false
namespace Go.Proofs.Ytdcabfonjmeajaa.PAlloc
open Go.RowKit Go.Proofs.YtdcabfonjmeajaaW.PrintWords Go.Proofs.YtdcabfonjmeajaaW.PrintLast Go.Proofs.YtdcabfonjmeajaaW.PrintMore

/-! ### boarderref13.Twice -/
theorem boarderref13_Twice_l4 (R : List (Rs × Int)) (hR : R.length ≤ 100000) (a : Nat) (ha : a < R.length) {r : Bool} (h1 : (∀ b, (hb : b < a) → DD R[a] R[b]) → Ev (fun k => boarderref13_Twice.l3 k (R.map (·.1)) (R.map (·.2)) ((a + 1 : Nat) : Int)) r) (h2 : (¬ ∀ b, (hb : b < a) → DD R[a] R[b]) → r = true) :
    Ev (fun k => boarderref13_Twice.l4 k (R.map (·.1)) (R.map (·.2)) (a : Int) 0) r := by
  have l1 : (R.map (·.1)).length = R.length := List.length_map ..
  have l2 : (R.map (·.2)).length = R.length := List.length_map ..
  have g1 : ∀ b (hb : b < R.length), rd_T59 (R.map (·.1)) (b : Int) = R[b].1 := fun b hb => (rd_get (by omega)).trans (List.getElem_map ..)
  have g2 : ∀ b (hb : b < R.length), rd (R.map (·.2)) (b : Int) = R[b].2 := fun b hb => (rd_get (d := (0 : Int)) (by omega)).trans (List.getElem_map ..)
  have E : ∀ b (hb : b < a) (r : Bool), (DD R[a] R[b] → Ev (fun k => boarderref13_Twice.l4 k (R.map (·.1)) (R.map (·.2)) (a : Int) ((b + 1 : Nat) : Int)) r) → (¬ DD R[a] R[b] → r = true) → Ev (fun k => boarderref13_Twice.l4 k (R.map (·.1)) (R.map (·.2)) (a : Int) (b : Int)) r := by
    intro b hb r h3 h4
    have hb2 : b < R.length := by omega
    refine Ev.step (f := fun k => if R[a].1.f1 = R[b].1.f1 then some true else (if R[a].2 = R[b].2 then (if R[a].1.f0.toList = R[b].1.f0.toList then some true else boarderref13_Twice.l4 k (R.map (·.1)) (R.map (·.2)) (a : Int) ((b + 1 : Nat) : Int)) else boarderref13_Twice.l4 k (R.map (·.1)) (R.map (·.2)) (a : Int) ((b + 1 : Nat) : Int))) (fun k => ?_) ?_
    · have q1 : (a : Int) < ((R.map (·.2)).length : Int) := by omega
      have q2 : (b : Int) < ((R.map (·.2)).length : Int) := by omega
      show boarderref13_Twice.l4 (k + 1) _ _ _ _ = _
      rw [boarderref13_Twice.l4, if_pos (by omega), if_pos (by omega), if_pos (by omega), if_pos (by omega), if_pos (by omega), if_pos q1, if_pos q2, g1 a ha, g1 b hb2, g2 a ha, g2 b hb2, wrap_next hb (by omega)]
    · by_cases c1 : R[a].1.f1 = R[b].1.f1
      · rw [h4 (fun h => h.1 c1)]; exact Ev.pos c1 Ev.some'
      · refine Ev.neg c1 ?_
        by_cases c2 : R[a].2 = R[b].2
        · refine Ev.pos c2 ?_
          by_cases c3 : R[a].1.f0.toList = R[b].1.f0.toList
          · rw [h4 (fun h => h.2 ⟨c2, c3⟩)]; exact Ev.pos c3 Ev.some'
          · exact Ev.neg c3 (h3 ⟨c1, fun h => c3 h.2⟩)
        · exact Ev.neg c2 (h3 ⟨c1, fun h => c2 h.1⟩)
  refine loopC (n := a) (L := fun k b => boarderref13_Twice.l4 k (R.map (·.1)) (R.map (·.2)) (a : Int) b) (fun b => ∃ h : b < a, DD R[a] R[b]) true (fun j hj hp r h3 => ?_) (fun j hj hp => ?_) (fun h3 => ?_) (fun h3 => ?_)
  · exact E j hj r (fun _ => h3) (fun h => absurd hp.2 h)
  · exact E j hj true (fun h => absurd ⟨hj, h⟩ hp) (fun _ => rfl)
  · refine Ev.step (fun k => ?_) (h1 (fun j hj => (h3 j hj).2))
    show boarderref13_Twice.l4 (k + 1) _ _ _ _ = _
    rw [boarderref13_Twice.l4, if_neg (by omega), wrap_next ha (by omega)]
  · obtain ⟨j, hj, hp⟩ := h3
    exact h2 (fun h => hp ⟨hj, h j hj⟩)
theorem boarderref13_Twice_l3 (R : List (Rs × Int)) (hR : R.length ≤ 100000) {r : Bool} (hr : r = false ↔ ∀ a b, (ha : a < R.length) → (hb : b < a) → DD R[a] R[b]) : Ev (fun k => boarderref13_Twice.l3 k (R.map (·.1)) (R.map (·.2)) 0) r := by
  have l1 : (R.map (·.1)).length = R.length := List.length_map ..
  have E : ∀ a (ha : a < R.length) (r : Bool), ((∀ b, (hb : b < a) → DD R[a] R[b]) → Ev (fun k => boarderref13_Twice.l3 k (R.map (·.1)) (R.map (·.2)) ((a + 1 : Nat) : Int)) r) → ((¬ ∀ b, (hb : b < a) → DD R[a] R[b]) → r = true) → Ev (fun k => boarderref13_Twice.l3 k (R.map (·.1)) (R.map (·.2)) (a : Int)) r := by
    intro a ha r h3 h4
    refine Ev.step (fun k => ?_) (boarderref13_Twice_l4 R hR a ha h3 h4)
    show boarderref13_Twice.l3 (k + 1) _ _ _ = _
    rw [boarderref13_Twice.l3, if_pos (by omega)]
  refine loopC (n := R.length) (L := fun k a => boarderref13_Twice.l3 k (R.map (·.1)) (R.map (·.2)) a) (fun a => ∃ h : a < R.length, ∀ b, (hb : b < a) → DD R[a] R[b]) true (fun j hj hp r h3 => ?_) (fun j hj hp => ?_) (fun h3 => ?_) (fun h3 => ?_)
  · exact E j hj r (fun _ => h3) (fun h => absurd hp.2 h)
  · exact E j hj true (fun h => absurd ⟨hj, h⟩ hp) (fun _ => rfl)
  · rw [hr.2 (fun a b ha hb => (h3 a ha).2 b hb)]
    refine Ev.step (f := fun _ => some false) (fun k => ?_) Ev.some'
    show boarderref13_Twice.l3 (k + 1) _ _ _ = _
    rw [boarderref13_Twice.l3, if_neg (by omega)]
  · obtain ⟨a, ha, hp⟩ := h3
    cases r with
    | true => rfl
    | false => exact absurd ⟨ha, fun b hb => hr.1 rfl a b ha hb⟩ hp
theorem resL_take (l : List Sp) (i : Nat) (hi : i < l.length) : resL (l.take (i + 1)) = resL (l.take i) ++ l[i].f2.f3.map (fun r => (r, l[i].f0)) := by
  unfold resL
  rw [List.take_succ_eq_append_getElem hi, List.flatMap_append]
  simp
theorem resL_len {l : List Sp} (hS : ∀ x ∈ l, SmS x.f2) : (resL l).length ≤ 20 * l.length := by
  unfold resL
  induction l with
  | nil => simp
  | cons x t ih =>
    rw [List.flatMap_cons, List.length_append, List.length_map, List.length_cons]
    have := ih (fun y hy => hS y (List.mem_cons_of_mem _ hy))
    have := (hS x List.mem_cons_self).2.1
    omega
theorem boarderref13_Twice_l2 (l : List Sp) (hl : l.length ≤ 1000) (hS : ∀ x ∈ l, SmS x.f2) (i : Nat) (hi : i < l.length) {r : Bool} (h1 : Ev (fun k => boarderref13_Twice.l0 k (l.map (·.f2)) (l.map (·.f0)) ((resL (l.take (i + 1))).map (·.1)) ((resL (l.take (i + 1))).map (·.2)) ((i + 1 : Nat) : Int)) r) :
    Ev (fun k => boarderref13_Twice.l2 k (l.map (·.f2)) (l.map (·.f0)) ((resL (l.take i)).map (·.1)) ((resL (l.take i)).map (·.2)) (i : Int) 0) r := by
  have l1 : (l.map (·.f2)).length = l.length := List.length_map ..
  have l2 : (l.map (·.f0)).length = l.length := List.length_map ..
  have eI : rd_T57 (l.map (·.f2)) (i : Int) = l[i].f2 := (rd_get (by omega)).trans (List.getElem_map ..)
  have eN : rd (l.map (·.f0)) (i : Int) = l[i].f0 := (rd_get (d := (0 : Int)) (by omega)).trans (List.getElem_map ..)
  have hs := (hS _ (List.getElem_mem hi)).2.1
  have hR : (resL (l.take i)).length ≤ 20000 := by
    have := resL_len (l := l.take i) (fun x hx => hS x (List.mem_of_mem_take hx))
    have : (l.take i).length ≤ 1000 := by rw [List.length_take]; omega
    omega
  rw [resL_take l i hi, List.map_append, List.map_append, List.map_map, List.map_map] at h1
  have H : ∀ (d j : Nat) (o1 : List Rs) (o2 : List Int), j + d = l[i].f2.f3.length → o1.length + d ≤ 30000 → o2.length + d ≤ 30000 →
      Ev (fun k => boarderref13_Twice.l0 k (l.map (·.f2)) (l.map (·.f0)) (o1 ++ (l[i].f2.f3.drop j)) (o2 ++ (l[i].f2.f3.drop j).map (fun _ => l[i].f0)) ((i + 1 : Nat) : Int)) r → Ev (fun k => boarderref13_Twice.l2 k (l.map (·.f2)) (l.map (·.f0)) o1 o2 (i : Int) (j : Int)) r := by
    intro d
    induction d with
    | zero =>
      intro j o1 o2 hj ho1 ho2 h
      rw [List.drop_eq_nil_of_le (by omega), List.map_nil, List.append_nil, List.append_nil] at h
      refine Ev.step (fun k => ?_) h
      show boarderref13_Twice.l2 (k + 1) _ _ _ _ _ _ = _
      rw [boarderref13_Twice.l2, if_pos (by omega), if_pos (by omega), eI, if_neg (by omega), wrap_next hi (by omega)]
    | succ d ih =>
      intro j o1 o2 hj ho1 ho2 h
      have hj2 : j < l[i].f2.f3.length := by omega
      refine Ev.step (fun k => ?_) (ih (j + 1) (o1 ++ [l[i].f2.f3[j]]) (o2 ++ [l[i].f0]) (by omega) (by rw [List.length_append, List.length_singleton]; omega) (by rw [List.length_append, List.length_singleton]; omega) ?_)
      · show boarderref13_Twice.l2 (k + 1) _ _ _ _ _ _ = _
        rw [boarderref13_Twice.l2, if_pos (by omega), if_pos (by omega), eI, if_pos (by omega), if_pos (by omega), if_pos (by omega), if_pos (by omega), if_pos (by omega), eN, show rd_T59 l[i].f2.f3 (j : Int) = l[i].f2.f3[j] from rd_get hj2, wrap_next hj2 (by omega)]
      · rw [List.append_assoc, List.singleton_append, List.append_assoc, List.singleton_append]
        rwa [List.drop_eq_getElem_cons hj2, List.map_cons] at h
  refine H l[i].f2.f3.length 0 _ _ (by omega) (by rw [List.length_map]; omega) (by rw [List.length_map]; omega) ?_
  rw [List.drop_zero]
  have e1 : List.map ((fun x : Rs × Int => x.1) ∘ fun r => (r, l[i].f0)) l[i].f2.f3 = l[i].f2.f3 := by
    rw [show ((fun x : Rs × Int => x.1) ∘ fun r => (r, l[i].f0)) = id from rfl, List.map_id]
  rw [e1] at h1
  exact h1
theorem boarderref13_Twice_l1 (l : List Sp) (hl : l.length ≤ 1000) (hS : ∀ x ∈ l, SmS x.f2) (i : Nat) (hi : i < l.length) (o1 : List Rs) (o2 : List Int) {r : Bool} (h1 : (∀ j, (hj : j < i) → FarS l[i] l[j]) → Ev (fun k => boarderref13_Twice.l2 k (l.map (·.f2)) (l.map (·.f0)) o1 o2 (i : Int) 0) r) (h2 : (¬ ∀ j, (hj : j < i) → FarS l[i] l[j]) → r = true) :
    Ev (fun k => boarderref13_Twice.l1 k (l.map (·.f2)) (l.map (·.f0)) o1 o2 (i : Int) 0) r := by
  have l1 : (l.map (·.f2)).length = l.length := List.length_map ..
  have l2 : (l.map (·.f0)).length = l.length := List.length_map ..
  have g1 : ∀ b (hb : b < l.length), rd_T57 (l.map (·.f2)) (b : Int) = l[b].f2 := fun b hb => (rd_get (by omega)).trans (List.getElem_map ..)
  have g2 : ∀ b (hb : b < l.length), rd (l.map (·.f0)) (b : Int) = l[b].f0 := fun b hb => (rd_get (d := (0 : Int)) (by omega)).trans (List.getElem_map ..)
  have E : ∀ j (hj : j < i) (r : Bool), (FarS l[i] l[j] → Ev (fun k => boarderref13_Twice.l1 k (l.map (·.f2)) (l.map (·.f0)) o1 o2 (i : Int) ((j + 1 : Nat) : Int)) r) → (¬ FarS l[i] l[j] → r = true) → Ev (fun k => boarderref13_Twice.l1 k (l.map (·.f2)) (l.map (·.f0)) o1 o2 (i : Int) (j : Int)) r := by
    intro j hj r h3 h4
    have hj2 : j < l.length := by omega
    refine Ev.step (fun k => ?_) (Ev.bind (g := fun k => boarderref01_Meet.f k l[i].f2.f0 l[i].f2.f1 l[j].f2.f0 l[j].f2.f1) (a := meetC l[i].f2.f0 l[i].f2.f1 l[j].f2.f0 l[j].f2.f1) ⟨41, fun k hk => boarderref01_Meet_s _ _ _ _ k hk⟩ (f := fun k t => if t = true then some true else (if l[i].f0 = l[j].f0 then boarderref13_Twice.l1 k (l.map (·.f2)) (l.map (·.f0)) o1 o2 (i : Int) ((j + 1 : Nat) : Int) else (if l[i].f2.f4 > 0 then (if l[i].f2.f4 = l[j].f2.f4 then some true else boarderref13_Twice.l1 k (l.map (·.f2)) (l.map (·.f0)) o1 o2 (i : Int) ((j + 1 : Nat) : Int)) else boarderref13_Twice.l1 k (l.map (·.f2)) (l.map (·.f0)) o1 o2 (i : Int) ((j + 1 : Nat) : Int)))) ?_)
    · show boarderref13_Twice.l1 (k + 1) _ _ _ _ _ _ = _
      rw [boarderref13_Twice.l1, if_pos (by omega), if_pos (by omega), if_pos (by omega), if_pos (by omega), if_pos (by omega), if_pos (by omega), if_pos (by omega), g1 i hi, g1 j hj2, g2 i hi, g2 j hj2, wrap_next hj (by omega)]
    · by_cases c0 : meetC l[i].f2.f0 l[i].f2.f1 l[j].f2.f0 l[j].f2.f1 = true
      · rw [h4 (fun h => by rw [h.1] at c0; cases c0)]; exact Ev.pos c0 Ev.some'
      · have c0' := Bool.eq_false_iff.mpr c0
        refine Ev.neg c0 ?_
        by_cases c1 : l[i].f0 = l[j].f0
        · exact Ev.pos c1 (h3 ⟨c0', fun h => h.1 c1⟩)
        · refine Ev.neg c1 ?_
          by_cases c2 : l[i].f2.f4 > 0
          · refine Ev.pos c2 ?_
            by_cases c3 : l[i].f2.f4 = l[j].f2.f4
            · rw [h4 (fun h => h.2 ⟨c1, c3, c2⟩)]; exact Ev.pos c3 Ev.some'
            · exact Ev.neg c3 (h3 ⟨c0', fun h => c3 h.2.1⟩)
          · exact Ev.neg c2 (h3 ⟨c0', fun h => c2 h.2.2⟩)
  refine loopC (n := i) (L := fun k j => boarderref13_Twice.l1 k (l.map (·.f2)) (l.map (·.f0)) o1 o2 (i : Int) j) (fun j => ∃ h : j < i, FarS l[i] l[j]) true (fun j hj hp r h3 => ?_) (fun j hj hp => ?_) (fun h3 => ?_) (fun h3 => ?_)
  · exact E j hj r (fun _ => h3) (fun h => absurd hp.2 h)
  · exact E j hj true (fun h => absurd ⟨hj, h⟩ hp) (fun _ => rfl)
  · refine Ev.step (fun k => ?_) (h1 (fun j hj => (h3 j hj).2))
    show boarderref13_Twice.l1 (k + 1) _ _ _ _ _ _ = _
    rw [boarderref13_Twice.l1, if_neg (by omega)]
  · obtain ⟨j, hj, hp⟩ := h3
    exact h2 (fun h => hp ⟨hj, h j hj⟩)
open Classical in
theorem boarderref13_Twice_s (a b : Int) (nets : List Nt) (h : Sm nets) : Ev (fun k => boarderref13_Twice.f k a b nets) (decide (¬ FreeP (spotsL nets))) := by
  refine Ev.bind (boarderref13_Flat_s a b nets h) (f := fun k t => boarderref13_Twice.l0 k t.1 t.2 ([] : List Rs) ([] : List Int) 0) ?_
  have hN : (spotsL nets).length ≤ 1000 := by have := spots_len (n := 0) (fun x hx => (h.2 x hx).1); have := h.1; unfold spotsL; omega
  have hS : ∀ x ∈ spotsL nets, SmS x.f2 := (spots_all (F := SmS)).2 (fun n hn s hs => (h.2 n hn).2 s hs)
  generalize spotsL nets = l at *
  have l1 : (l.map (·.f2)).length = l.length := List.length_map ..
  have hR : (resL l).length ≤ 100000 := by have := resL_len hS; omega
  have step : ∀ i (hi : i < l.length) (r : Bool), ((¬ PooledP l[i].f2 ∧ ∀ j, (hj : j < i) → FarS l[i] l[j]) → Ev (fun k => boarderref13_Twice.l0 k (l.map (·.f2)) (l.map (·.f0)) ((resL (l.take (i + 1))).map (·.1)) ((resL (l.take (i + 1))).map (·.2)) ((i + 1 : Nat) : Int)) r) →
      ((¬ (¬ PooledP l[i].f2 ∧ ∀ j, (hj : j < i) → FarS l[i] l[j])) → r = true) → Ev (fun k => boarderref13_Twice.l0 k (l.map (·.f2)) (l.map (·.f0)) ((resL (l.take i)).map (·.1)) ((resL (l.take i)).map (·.2)) (i : Int)) r := by
    intro i hi r h3 h4
    have eI : rd_T57 (l.map (·.f2)) (i : Int) = l[i].f2 := (rd_get (by omega)).trans (List.getElem_map ..)
    refine Ev.step (fun k => ?_) (Ev.bind (boarderref13_Pooled_s l[i].f2 (hS _ (List.getElem_mem hi))) (f := fun k t => if t = true then some true else boarderref13_Twice.l1 k (l.map (·.f2)) (l.map (·.f0)) ((resL (l.take i)).map (·.1)) ((resL (l.take i)).map (·.2)) (i : Int) 0) ?_)
    · show boarderref13_Twice.l0 (k + 1) _ _ _ _ _ = _
      rw [boarderref13_Twice.l0, if_pos (by omega), if_pos (by omega), eI]
    · by_cases c : PooledP l[i].f2
      · rw [h4 (fun h => h.1 c)]; exact Ev.pos (decide_eq_true c) Ev.some'
      · exact Ev.neg (by rw [decide_eq_false c]; simp) (boarderref13_Twice_l1 l hN hS i hi _ _ (fun h5 => boarderref13_Twice_l2 l hN hS i hi (h3 ⟨c, h5⟩)) (fun h5 => h4 (fun h => h5 h.2)))
  have H : ∀ d i, i + d = l.length → (∀ j, (hj : j < l.length) → j < i → (¬ PooledP l[j].f2 ∧ ∀ q, (hq : q < j) → FarS l[j] l[q])) → Ev (fun k => boarderref13_Twice.l0 k (l.map (·.f2)) (l.map (·.f0)) ((resL (l.take i)).map (·.1)) ((resL (l.take i)).map (·.2)) (i : Int)) (decide (¬ FreeP l)) := by
    intro d
    induction d with
    | zero =>
      intro i hi hp
      obtain rfl : i = l.length := by omega
      rw [List.take_length]
      refine Ev.step (fun k => ?_) (boarderref13_Twice_l3 (resL l) hR (r := decide (¬ FreeP l)) ?_)
      · show boarderref13_Twice.l0 (k + 1) _ _ _ _ _ = _
        rw [boarderref13_Twice.l0, if_neg (by omega)]
      · rw [decide_eq_false_iff_not, Classical.not_not]
        exact ⟨fun h => h.2, fun h2 => ⟨fun j hj => hp j hj hj, h2⟩⟩
    | succ d ih =>
      intro i hi hp
      have hl : i < l.length := by omega
      refine step i hl _ (fun h3 => ih (i + 1) (by omega) (fun j hj hji => ?_)) (fun h3 => decide_eq_true (fun h4 => h3 (h4.1 i hl)))
      rcases Nat.lt_succ_iff_lt_or_eq.1 hji with c | c
      · exact hp j hj c
      · subst c; exact h3
  exact H l.length 0 (by omega) (fun j _ hj => absurd hj (by omega))

end Go.Proofs.Ytdcabfonjmeajaa.PAlloc
set_option linter.unusedVariables false
set_option linter.unusedSimpArgs false
namespace Go.Proofs.Ytdcabfonjmeajaa.PAlloc
open Go.RowKit Go.Proofs.YtdcabfonjmeajaaW.PrintWords Go.Proofs.YtdcabfonjmeajaaW.PrintLast Go.Proofs.YtdcabfonjmeajaaW.PrintMore

/-! ### boarderref13.Check -/
open Classical in
theorem boarderref13_Check_s (a b : Int) (nets : List Nt) (h : Sm nets) : Ev (fun k => boarderref13_Check.f k a b nets) (checkI a b nets) := by
  unfold checkI
  refine Ev.bind (boarderref13_Form_s a b nets h) (f := fun k t => if t = true then ((boarderref13_Places.f k a b nets).bind fun t337 => (if t337 = true then ((boarderref13_Twice.f k a b nets).bind fun t338 => (if t338 = true then (some 8) else (some 0))) else (some 9))) else (some 1)) ?_
  by_cases c1 : FormP a b nets
  · rw [if_pos c1]
    refine Ev.pos (decide_eq_true c1) (Ev.bind (boarderref13_Places_s a b nets h c1.2.2.2.2.2.2) (f := fun k t337 => (if t337 = true then ((boarderref13_Twice.f k a b nets).bind fun t338 => (if t338 = true then (some 8) else (some 0))) else (some 9))) ?_)
    by_cases c2 : ∀ n ∈ nets, ∀ s ∈ n.f0, PlaceS a s
    · rw [if_pos c2]
      refine Ev.pos (decide_eq_true c2) (Ev.bind (boarderref13_Twice_s a b nets h) (f := fun k t338 => (if t338 = true then (some 8) else (some 0))) ?_)
      by_cases c3 : UnlikeP (spotsL nets)
      · rw [if_pos c3]
        exact Ev.neg (by rw [decide_eq_true_iff]; exact fun h => h ((form_unlike c1).1 c3)) Ev.some'
      · rw [if_neg c3]
        exact Ev.pos (by rw [decide_eq_true_iff]; exact fun h => c3 ((form_unlike c1).2 h)) Ev.some'
    · rw [if_neg c2]; exact Ev.neg (by rw [decide_eq_false c2]; simp) Ev.some'
  · rw [if_neg c1]; exact Ev.neg (by rw [decide_eq_false c1]; simp) Ev.some'

end Go.Proofs.Ytdcabfonjmeajaa.PAlloc
set_option linter.unusedVariables false
set_option linter.unusedSimpArgs false
namespace Go.Proofs.Ytdcabfonjmeajaa.PAlloc
open Go.RowKit Go.Proofs.YtdcabfonjmeajaaW.PrintWords Go.Proofs.YtdcabfonjmeajaaW.PrintLast Go.Proofs.YtdcabfonjmeajaaW.PrintMore

/-! ### boarderref13.KeptFor -/
theorem boarderref13_KeptFor_l0 (l : List Sb) (hl : l.length ≤ 1000) (hS : ∀ s ∈ l, SmS s) (y : ByteArray) : Ev (fun k => boarderref13_KeptFor.l0 k y l 0) ((l.findSome? (keptG y)).getD (0, false)) := by
  have E : ∀ m (hm : m < l.length) (r : Int × Bool), (keptG y l[m] = none → Ev (fun k => boarderref13_KeptFor.l0 k y l ((m + 1 : Nat) : Int)) r) → (∀ v, keptG y l[m] = some v → r = v) → Ev (fun k => boarderref13_KeptFor.l0 k y l (m : Int)) r := by
    intro m hm r h1 h2
    have h20 := (hS _ (List.getElem_mem hm)).2.1
    have eN : rd_T57 l (m : Int) = l[m] := rd_get hm
    refine Ev.step (f := fun k => boarderref13_KeptFor.l1 k y l (m : Int) 0) (fun k => ?_) (loopF l[m].f3 (fun r => if r.f0.toList = y.toList then some (r.f1, true) else none) (L := fun k i => boarderref13_KeptFor.l1 k y l (m : Int) i) (fun i hi v hv => ?_) (fun i hi hv r h3 => ?_) (fun h3 => ?_) h2)
    · show boarderref13_KeptFor.l0 (k + 1) _ _ _ = _
      rw [boarderref13_KeptFor.l0, if_pos (by omega)]
    · by_cases c : l[m].f3[i].f0.toList = y.toList
      · rw [if_pos c] at hv
        obtain rfl := Option.some.inj hv
        refine Ev.step (f := fun _ => some (l[m].f3[i].f1, true)) (fun k => ?_) Ev.some'
        show boarderref13_KeptFor.l1 (k + 1) _ _ _ _ = _
        rw [boarderref13_KeptFor.l1, if_pos (by omega), if_pos (by omega), eN, if_pos (by omega), if_pos (by omega), show rd_T59 l[m].f3 (i : Int) = l[m].f3[i] from rd_get hi, if_pos c]
      · rw [if_neg c] at hv; cases hv
    · by_cases c : l[m].f3[i].f0.toList = y.toList
      · rw [if_pos c] at hv; cases hv
      · refine Ev.step (fun k => ?_) h3
        show boarderref13_KeptFor.l1 (k + 1) _ _ _ _ = _
        rw [boarderref13_KeptFor.l1, if_pos (by omega), if_pos (by omega), eN, if_pos (by omega), if_pos (by omega), show rd_T59 l[m].f3 (i : Int) = l[m].f3[i] from rd_get hi, if_neg c, wrap_next hi (by omega)]
    · refine Ev.step (fun k => ?_) (h1 h3)
      show boarderref13_KeptFor.l1 (k + 1) _ _ _ _ = _
      rw [boarderref13_KeptFor.l1, if_pos (by omega), if_pos (by omega), eN, if_neg (by omega), wrap_next hm (by omega)]
  refine loopF l (keptG y) (L := fun k i => boarderref13_KeptFor.l0 k y l i) (fun i hi v hv => E i hi v (fun h => by rw [h] at hv; cases hv) (fun u hu => by rw [hu] at hv; exact (Option.some.inj hv).symm)) (fun i hi hv r h3 => E i hi r (fun _ => h3) (fun u hu => by rw [hv] at hu; cases hu)) (fun h3 => ?_) (fun v hv => getD_some hv)
  rw [getD_none h3]
  refine Ev.step (f := fun _ => some (0, false)) (fun k => ?_) Ev.some'
  show boarderref13_KeptFor.l0 (k + 1) _ _ _ = _
  rw [boarderref13_KeptFor.l0, if_neg (by omega)]
theorem boarderref13_KeptFor_s (a b : Int) (nets : List Nt) (h : Sm nets) (n : Int) (y : ByteArray) : Ev (fun k => boarderref13_KeptFor.f k a b nets n y) (keptL a b nets n y) := by
  refine Ev.bind (boarderref13_Check_s a b nets h) (f := fun k t => if t = 0 then (if n < 0 then boarderref13_KeptFor.j0 k n y true a b nets else boarderref13_KeptFor.j0 k n y (decide (n ≥ (nets.length : Int))) a b nets) else boarderref13_KeptFor.j0 k n y true a b nets) ?_
  have J : Ev (fun k => boarderref13_KeptFor.j0 k n y true a b nets) (0, false) := Ev.step (f := fun _ => some (0, false)) (fun k => by show boarderref13_KeptFor.j0 (k + 1) _ _ _ _ _ _ = _; rw [boarderref13_KeptFor.j0, if_pos rfl]) Ev.some'
  unfold keptL rightL
  by_cases c : checkI a b nets = 0
  · rw [if_pos c]
    refine Ev.pos c ?_
    unfold spotsL
    rw [spots_find n (keptG y) nets 0]
    by_cases c1 : n < 0
    · rw [if_neg (by omega)]; exact Ev.pos c1 J
    · refine Ev.neg c1 ?_
      by_cases c2 : n ≥ (nets.length : Int)
      · rw [if_neg (by omega), decide_eq_true c2]; exact J
      · rw [if_pos (by omega), decide_eq_false c2]
        obtain ⟨m, rfl⟩ := Int.eq_ofNat_of_zero_le (Int.not_lt.1 c1)
        have hm : m < nets.length := by have := Int.not_le.1 c2; omega
        have e1 : (nets.getD ((m : Int) - ((0 : Nat) : Int)).toNat ⟨[]⟩) = nets[m] := by
          rw [show ((m : Int) - ((0 : Nat) : Int)).toNat = m by omega, List.getD_eq_getElem?_getD, List.getElem?_eq_getElem hm]; rfl
        rw [e1]
        refine Ev.step (fun k => ?_) (boarderref13_KeptFor_l0 nets[m].f0 (by have := (h.2 _ (List.getElem_mem hm)).1; omega) (h.2 _ (List.getElem_mem hm)).2 y)
        show boarderref13_KeptFor.j0 (k + 1) _ _ _ _ _ _ = _
        rw [boarderref13_KeptFor.j0, if_neg (by simp), if_pos (by omega), if_pos (by omega), show rd_T41 nets (m : Int) = nets[m] from rd_get hm]
  · rw [if_neg c]; exact Ev.neg c J

end Go.Proofs.Ytdcabfonjmeajaa.PAlloc
set_option linter.unusedVariables false
set_option linter.unusedSimpArgs false
namespace Go.Proofs.Ytdcabfonjmeajaa.PAlloc
open Go.RowKit Go.Proofs.YtdcabfonjmeajaaW.PrintWords Go.Proofs.YtdcabfonjmeajaaW.PrintLast Go.Proofs.YtdcabfonjmeajaaW.PrintMore

/-! ### boarderref13.Keeper -/
theorem boarderref13_Keeper_l0 (l : List Sb) (hl : l.length ≤ 1000) (hS : ∀ s ∈ l, SmS s) (x : Int) : Ev (fun k => boarderref13_Keeper.l0 k x l 0) ((l.findSome? (keepG x)).getD (⟨#[]⟩, false)) := by
  have E : ∀ m (hm : m < l.length) (r : ByteArray × Bool), (keepG x l[m] = none → Ev (fun k => boarderref13_Keeper.l0 k x l ((m + 1 : Nat) : Int)) r) → (∀ v, keepG x l[m] = some v → r = v) → Ev (fun k => boarderref13_Keeper.l0 k x l (m : Int)) r := by
    intro m hm r h1 h2
    have h20 := (hS _ (List.getElem_mem hm)).2.1
    have eN : rd_T57 l (m : Int) = l[m] := rd_get hm
    refine Ev.step (f := fun k => boarderref13_Keeper.l1 k x l (m : Int) 0) (fun k => ?_) (loopF l[m].f3 (fun r => if r.f1 = x then some (r.f0, true) else none) (L := fun k i => boarderref13_Keeper.l1 k x l (m : Int) i) (fun i hi v hv => ?_) (fun i hi hv r h3 => ?_) (fun h3 => ?_) h2)
    · show boarderref13_Keeper.l0 (k + 1) _ _ _ = _
      rw [boarderref13_Keeper.l0, if_pos (by omega)]
    · by_cases c : l[m].f3[i].f1 = x
      · rw [if_pos c] at hv
        obtain rfl := Option.some.inj hv
        refine Ev.step (f := fun _ => some (l[m].f3[i].f0, true)) (fun k => ?_) Ev.some'
        show boarderref13_Keeper.l1 (k + 1) _ _ _ _ = _
        rw [boarderref13_Keeper.l1, if_pos (by omega), if_pos (by omega), eN, if_pos (by omega), if_pos (by omega), show rd_T59 l[m].f3 (i : Int) = l[m].f3[i] from rd_get hi, if_pos c]
      · rw [if_neg c] at hv; cases hv
    · by_cases c : l[m].f3[i].f1 = x
      · rw [if_pos c] at hv; cases hv
      · refine Ev.step (fun k => ?_) h3
        show boarderref13_Keeper.l1 (k + 1) _ _ _ _ = _
        rw [boarderref13_Keeper.l1, if_pos (by omega), if_pos (by omega), eN, if_pos (by omega), if_pos (by omega), show rd_T59 l[m].f3 (i : Int) = l[m].f3[i] from rd_get hi, if_neg c, wrap_next hi (by omega)]
    · refine Ev.step (fun k => ?_) (h1 h3)
      show boarderref13_Keeper.l1 (k + 1) _ _ _ _ = _
      rw [boarderref13_Keeper.l1, if_pos (by omega), if_pos (by omega), eN, if_neg (by omega), wrap_next hm (by omega)]
  refine loopF l (keepG x) (L := fun k i => boarderref13_Keeper.l0 k x l i) (fun i hi v hv => E i hi v (fun h => by rw [h] at hv; cases hv) (fun u hu => by rw [hu] at hv; exact (Option.some.inj hv).symm)) (fun i hi hv r h3 => E i hi r (fun _ => h3) (fun u hu => by rw [hv] at hu; cases hu)) (fun h3 => ?_) (fun v hv => getD_some hv)
  rw [getD_none h3]
  refine Ev.step (f := fun _ => some (⟨#[]⟩, false)) (fun k => ?_) Ev.some'
  show boarderref13_Keeper.l0 (k + 1) _ _ _ = _
  rw [boarderref13_Keeper.l0, if_neg (by omega)]
theorem boarderref13_Keeper_s (a b : Int) (nets : List Nt) (h : Sm nets) (x : Int) : Ev (fun k => boarderref13_Keeper.f k a b nets x) (keepL a b nets x) := by
  refine Ev.bind (boarderref13_Check_s a b nets h) (f := fun k t => if t = 0 then ((boarderref13_Flat.f k a b nets).bind fun bt355 => (boarderref13_Keeper.l0 k x bt355.1 0)) else some ((⟨#[]⟩ : ByteArray), false)) ?_
  unfold keepL rightL
  by_cases c : checkI a b nets = 0
  · rw [if_pos c]
    have hN : (spotsL nets).length ≤ 1000 := by have := spots_len (n := 0) (fun x hx => (h.2 x hx).1); have := h.1; unfold spotsL; omega
    have hS : ∀ x ∈ spotsL nets, SmS x.f2 := (spots_all (F := SmS)).2 (fun n hn s hs => (h.2 n hn).2 s hs)
    have e := boarderref13_Keeper_l0 ((spotsL nets).map (·.f2)) (by rw [List.length_map]; exact hN) (fun s hs => by obtain ⟨y, hy, rfl⟩ := List.mem_map.1 hs; exact hS y hy) x
    rw [List.findSome?_map] at e
    exact Ev.pos c (Ev.bind (boarderref13_Flat_s a b nets h) (f := fun k t => boarderref13_Keeper.l0 k x t.1 0) e)
  · rw [if_neg c]; exact Ev.neg c Ev.some'

end Go.Proofs.Ytdcabfonjmeajaa.PAlloc
set_option linter.unusedVariables false
set_option linter.unusedSimpArgs false
namespace Go.Proofs.Ytdcabfonjmeajaa.PAlloc
open Go.RowKit Go.Proofs.YtdcabfonjmeajaaW.PrintWords Go.Proofs.YtdcabfonjmeajaaW.PrintLast Go.Proofs.YtdcabfonjmeajaaW.PrintMore

/-! ### boarderref13.InPool -/
theorem boarderref13_InPool_l0 (l : List Sb) (hl : l.length ≤ 1000) (hS : ∀ s ∈ l, SmS s) (y : Int) : Ev (fun k => boarderref13_InPool.l0 k y l 0) ((l.findSome? (poolG y)).getD false) := by
  have E : ∀ m (hm : m < l.length) (r : Bool), (poolG y l[m] = none → Ev (fun k => boarderref13_InPool.l0 k y l ((m + 1 : Nat) : Int)) r) → (∀ v, poolG y l[m] = some v → r = v) → Ev (fun k => boarderref13_InPool.l0 k y l (m : Int)) r := by
    intro m hm r h1 h2
    have h20 := (hS _ (List.getElem_mem hm)).1
    have eN : rd_T57 l (m : Int) = l[m] := rd_get hm
    refine Ev.step (f := fun k => boarderref13_InPool.l1 k y l (m : Int) 0) (fun k => ?_) (loopF l[m].f2 (fun p => if p.f0 ≤ y ∧ y ≤ p.f1 then some true else none) (L := fun k i => boarderref13_InPool.l1 k y l (m : Int) i) (fun i hi v hv => ?_) (fun i hi hv r h3 => ?_) (fun h3 => ?_) h2)
    · show boarderref13_InPool.l0 (k + 1) _ _ _ = _
      rw [boarderref13_InPool.l0, if_pos (by omega)]
    · by_cases c : l[m].f2[i].f0 ≤ y ∧ y ≤ l[m].f2[i].f1
      · rw [if_pos c] at hv
        obtain rfl := Option.some.inj hv
        refine Ev.step (f := fun _ => some true) (fun k => ?_) Ev.some'
        show boarderref13_InPool.l1 (k + 1) _ _ _ _ = _
        rw [boarderref13_InPool.l1, if_pos (by omega), if_pos (by omega), eN, if_pos (by omega), if_pos (by omega), show rd_T62 l[m].f2 (i : Int) = l[m].f2[i] from rd_get hi, if_pos c.1, if_pos c.2]
      · rw [if_neg c] at hv; cases hv
    · by_cases c : l[m].f2[i].f0 ≤ y ∧ y ≤ l[m].f2[i].f1
      · rw [if_pos c] at hv; cases hv
      · refine Ev.step (f := fun k => if y ≥ l[m].f2[i].f0 then (if y ≤ l[m].f2[i].f1 then some true else boarderref13_InPool.l1 k y l (m : Int) ((i + 1 : Nat) : Int)) else boarderref13_InPool.l1 k y l (m : Int) ((i + 1 : Nat) : Int)) (fun k => ?_) ?_
        · show boarderref13_InPool.l1 (k + 1) _ _ _ _ = _
          rw [boarderref13_InPool.l1, if_pos (by omega), if_pos (by omega), eN, if_pos (by omega), if_pos (by omega), show rd_T62 l[m].f2 (i : Int) = l[m].f2[i] from rd_get hi, wrap_next hi (by omega)]
        · by_cases c1 : y ≥ l[m].f2[i].f0
          · exact Ev.pos c1 (Ev.neg (fun h => c ⟨c1, h⟩) h3)
          · exact Ev.neg c1 h3
    · refine Ev.step (fun k => ?_) (h1 h3)
      show boarderref13_InPool.l1 (k + 1) _ _ _ _ = _
      rw [boarderref13_InPool.l1, if_pos (by omega), if_pos (by omega), eN, if_neg (by omega), wrap_next hm (by omega)]
  refine loopF l (poolG y) (L := fun k i => boarderref13_InPool.l0 k y l i) (fun i hi v hv => E i hi v (fun h => by rw [h] at hv; cases hv) (fun u hu => by rw [hu] at hv; exact (Option.some.inj hv).symm)) (fun i hi hv r h3 => E i hi r (fun _ => h3) (fun u hu => by rw [hv] at hu; cases hu)) (fun h3 => ?_) (fun v hv => getD_some hv)
  rw [getD_none h3]
  refine Ev.step (f := fun _ => some false) (fun k => ?_) Ev.some'
  show boarderref13_InPool.l0 (k + 1) _ _ _ = _
  rw [boarderref13_InPool.l0, if_neg (by omega)]
theorem boarderref13_InPool_s (a b : Int) (nets : List Nt) (h : Sm nets) (n y : Int) : Ev (fun k => boarderref13_InPool.f k a b nets n y) (poolL a b nets n y) := by
  refine Ev.bind (boarderref13_Check_s a b nets h) (f := fun k t => if t = 0 then (if n < 0 then boarderref13_InPool.j0 k n y true a b nets else boarderref13_InPool.j0 k n y (decide (n ≥ (nets.length : Int))) a b nets) else boarderref13_InPool.j0 k n y true a b nets) ?_
  have J : Ev (fun k => boarderref13_InPool.j0 k n y true a b nets) false := Ev.step (f := fun _ => some false) (fun k => by show boarderref13_InPool.j0 (k + 1) _ _ _ _ _ _ = _; rw [boarderref13_InPool.j0, if_pos rfl]) Ev.some'
  unfold poolL rightL
  by_cases c : checkI a b nets = 0
  · rw [if_pos c]
    refine Ev.pos c ?_
    unfold spotsL
    rw [spots_find n (poolG y) nets 0]
    by_cases c1 : n < 0
    · rw [if_neg (by omega)]; exact Ev.pos c1 J
    · refine Ev.neg c1 ?_
      by_cases c2 : n ≥ (nets.length : Int)
      · rw [if_neg (by omega), decide_eq_true c2]; exact J
      · rw [if_pos (by omega), decide_eq_false c2]
        obtain ⟨m, rfl⟩ := Int.eq_ofNat_of_zero_le (Int.not_lt.1 c1)
        have hm : m < nets.length := by have := Int.not_le.1 c2; omega
        have e1 : (nets.getD ((m : Int) - ((0 : Nat) : Int)).toNat ⟨[]⟩) = nets[m] := by
          rw [show ((m : Int) - ((0 : Nat) : Int)).toNat = m by omega, List.getD_eq_getElem?_getD, List.getElem?_eq_getElem hm]; rfl
        rw [e1]
        refine Ev.step (fun k => ?_) (boarderref13_InPool_l0 nets[m].f0 (by have := (h.2 _ (List.getElem_mem hm)).1; omega) (h.2 _ (List.getElem_mem hm)).2 y)
        show boarderref13_InPool.j0 (k + 1) _ _ _ _ _ _ = _
        rw [boarderref13_InPool.j0, if_neg (by simp), if_pos (by omega), if_pos (by omega), show rd_T41 nets (m : Int) = nets[m] from rd_get hm]
  · rw [if_neg c]; exact Ev.neg c J

end Go.Proofs.Ytdcabfonjmeajaa.PAlloc
set_option linter.unusedVariables false
set_option linter.unusedSimpArgs false
namespace Go.Proofs.Ytdcabfonjmeajaa.PAlloc
open Go.RowKit Go.Proofs.YtdcabfonjmeajaaW.PrintWords Go.Proofs.YtdcabfonjmeajaaW.PrintLast Go.Proofs.YtdcabfonjmeajaaW.PrintMore

/-! ### boarderref09.Right -/
theorem boarderref09_Right_s (l : Le) : boarderref09_Right.f l.f0 l.f1 l.f2 l.f3 = some (leaseB l) := by
  unfold boarderref09_Right.f leaseB
  rw [boarderref01_Right_s, boarderref07_Right_s]
  simp only [Option.bind_some]
  by_cases h0 : 0 ≤ l.f0 ∧ l.f0 ≤ 4294967295
  · rw [decide_eq_true h0, if_pos rfl]
    cases hk : keyB l.f3 with
    | false => rw [if_neg (by simp), Bool.and_false]
    | true =>
      rw [if_pos rfl, Bool.and_true]
      have fin : (if l.f2 ≥ 0 then (some (decide (l.f2 ≤ 1125899906842624))) else (some false)) = some (decide (0 ≤ l.f2 ∧ l.f2 ≤ 1125899906842624)) := by
        by_cases h3 : l.f2 ≥ 0
        · rw [if_pos h3]; congr 1; exact decide_eq_decide.2 ⟨fun h => ⟨h3, h⟩, fun h => h.2⟩
        · rw [if_neg h3, decide_eq_false (fun h => h3 h.1)]
      rw [fin]
      by_cases c1 : l.f1 = 1
      · rw [if_pos c1]; congr 1; exact decide_eq_decide.2 ⟨fun h => ⟨h0.1, h0.2, by omega, by omega, h.1, h.2⟩, fun h => ⟨h.2.2.2.2.1, h.2.2.2.2.2⟩⟩
      · rw [if_neg c1]
        by_cases c2 : l.f1 = 2
        · rw [if_pos c2]; congr 1; exact decide_eq_decide.2 ⟨fun h => ⟨h0.1, h0.2, by omega, by omega, h.1, h.2⟩, fun h => ⟨h.2.2.2.2.1, h.2.2.2.2.2⟩⟩
        · rw [if_neg c2]
          by_cases c3 : l.f1 = 3
          · rw [if_pos c3]; congr 1; exact decide_eq_decide.2 ⟨fun h => ⟨h0.1, h0.2, by omega, by omega, h.1, h.2⟩, fun h => ⟨h.2.2.2.2.1, h.2.2.2.2.2⟩⟩
          · rw [if_neg c3, decide_eq_false (by omega)]
  · rw [decide_eq_false h0, if_neg (by simp), decide_eq_false (fun h => h0 ⟨h.1, h.2.1⟩)]; rfl

end Go.Proofs.Ytdcabfonjmeajaa.PAlloc
set_option linter.unusedVariables false
set_option linter.unusedSimpArgs false
namespace Go.Proofs.Ytdcabfonjmeajaa.PAlloc
open Go.RowKit Go.Proofs.YtdcabfonjmeajaaW.PrintWords Go.Proofs.YtdcabfonjmeajaaW.PrintLast Go.Proofs.YtdcabfonjmeajaaW.PrintMore

/-! ### boarderref12.Right -/
open Classical in
theorem boarderref12_Right_l (t : List Le) (ht : t.length ≤ maxLen) (d : Nat) : ∀ (i : Nat) (k : Nat), i + d = t.length → d < k →
    boarderref12_Right.l0 k t i = some (decide (∀ j, i ≤ j → j < t.length → leaseB (atL t j) = true ∧ (j + 1 < t.length → (atL t j).f0 < (atL t (j + 1)).f0))) := by
  simp only [maxLen] at ht
  induction d with
  | zero =>
    intro i k hi hk
    obtain ⟨k, rfl⟩ : ∃ m, k = m + 1 := ⟨k - 1, by omega⟩
    rw [boarderref12_Right.l0, if_neg (by omega), decide_eq_true (fun j a b => by omega)]
  | succ d ih =>
    intro i k hi hkk
    obtain ⟨k, rfl⟩ : ∃ m, k = m + 1 := ⟨k - 1, by omega⟩
    have hw : wrap64 ((i : Int) + 1) = ((i + 1 : Nat) : Int) := by unfold wrap64; omega
    have ihh := ih (i + 1) k (by omega) (by omega)
    rw [boarderref12_Right.l0, if_pos (by omega), if_pos (by omega), show rd_T47 t (i : Int) = atL t i from rfl, boarderref09_Right_s, hw]
    simp only [Option.bind_some]
    by_cases h : leaseB (atL t i) = true
    · rw [if_pos h]
      by_cases h0 : ((i + 1 : Nat) : Int) < (t.length : Int)
      · rw [if_pos h0, if_pos (by omega), show rd_T47 t ((i + 1 : Nat) : Int) = atL t (i + 1) from rfl]
        by_cases h1 : (atL t (i + 1)).f0 ≤ (atL t i).f0
        · rw [if_pos h1, decide_eq_false]
          intro h2
          have := (h2 i (by omega) (by omega)).2 (by omega)
          omega
        · rw [if_neg h1, ihh]
          congr 1
          refine decide_eq_decide.2 ⟨fun h2 j a b => ?_, fun h2 j a b => h2 j (by omega) b⟩
          rcases Nat.eq_or_lt_of_le a with c | c
          · subst c; exact ⟨h, fun _ => by omega⟩
          · exact h2 j (by omega) b
      · rw [if_neg h0, ihh]
        congr 1
        refine decide_eq_decide.2 ⟨fun h2 j a b => ?_, fun h2 j a b => h2 j (by omega) b⟩
        rcases Nat.eq_or_lt_of_le a with c | c
        · subst c; exact ⟨h, fun _ => by omega⟩
        · exact h2 j (by omega) b
    · rw [if_neg h, decide_eq_false]
      intro h2
      exact h (h2 i (by omega) (by omega)).1
theorem boarderref12_Right_s (t : List Le) (ht : t.length ≤ maxLen) (k : Nat) (hk : t.length < k) : boarderref12_Right.f k t = some (decide (Tab t)) := by
  unfold boarderref12_Right.f
  by_cases c : (t.length : Int) > 64
  · rw [if_pos c, decide_eq_false (fun h => by have := h.1; omega)]
  · have e := boarderref12_Right_l t ht t.length 0 k (by omega) hk
    rw [if_neg c, show boarderref12_Right.l0 k t 0 = boarderref12_Right.l0 k t ((0 : Nat) : Int) from rfl, e]
    congr 1
    refine decide_eq_decide.2 ?_
    rw [tab_iff2]
    exact ⟨fun h => ⟨by omega, fun j b => h j (by omega) b⟩, fun h j _ b => h.2 j b⟩

end Go.Proofs.Ytdcabfonjmeajaa.PAlloc
set_option linter.unusedVariables false
set_option linter.unusedSimpArgs false
namespace Go.Proofs.Ytdcabfonjmeajaa.PAlloc
open Go.RowKit Go.Proofs.YtdcabfonjmeajaaW.PrintWords Go.Proofs.YtdcabfonjmeajaaW.PrintLast Go.Proofs.YtdcabfonjmeajaaW.PrintMore

/-! ### boarderref15.Fair -/
theorem boarderref15_Fair_s (a b : Int) (nets : List Nt) (h : Sm nets) (t : List Le) (ht : Small t) (n : Int) (key : ByteArray) : Ev (fun k => boarderref15_Fair.f k a b nets t n key) (fairA a b nets t n key) := by
  have hl : t.length ≤ maxLen := Nat.le_trans ht.1 (by decide)
  refine Ev.bind (boarderref13_Check_s a b nets h) (Ev.ite' (fun c1 => ?_) (fun c1 => Ev.ret (by simp [fairA, c1])))
  refine Ev.bind (a := decide (Tab t)) ⟨t.length + 1, fun k hk => boarderref12_Right_s t hl k (by omega)⟩ (Ev.ite' (fun c2 => ?_) (fun c2 => Ev.ret (by simp [fairA, c2])))
  refine Ev.bind (g := fun _ => boarderref07_Right.f key) (Ev.congr (fun _ => boarderref07_Right_s key) (Ev.now _)) (Ev.ite' (fun c3 => ?_) (fun c3 => Ev.ret (by simp [fairA, c3])))
  exact Ev.ite' (fun c4 => Ev.ret (by unfold fairA; rw [c2, c3, decide_eq_true c1]; simp; omega)) (fun c4 => Ev.ret (by unfold fairA; simp; omega))

end Go.Proofs.Ytdcabfonjmeajaa.PAlloc
set_option linter.unusedVariables false
set_option linter.unusedSimpArgs false
namespace Go.Proofs.Ytdcabfonjmeajaa.PAlloc
open Go.RowKit Go.Proofs.YtdcabfonjmeajaaW.PrintWords Go.Proofs.YtdcabfonjmeajaaW.PrintLast Go.Proofs.YtdcabfonjmeajaaW.PrintMore

/-! ### boarderref12.Holds -/
theorem boarderref12_Holds_s (l : Le) (now : Int) : boarderref12_Holds.f l.f0 l.f1 l.f2 l.f3 now = some (holdsB l now) := by
  unfold boarderref12_Holds.f holdsB
  by_cases c : l.f1 = 1
  · rw [if_pos c]; congr 1; exact decide_eq_decide.2 ⟨fun h => ⟨c, by omega⟩, fun h => by omega⟩
  · rw [if_neg c, decide_eq_false (fun h => c h.1)]

end Go.Proofs.Ytdcabfonjmeajaa.PAlloc
set_option linter.unusedVariables false
set_option linter.unusedSimpArgs false
namespace Go.Proofs.Ytdcabfonjmeajaa.PAlloc
open Go.RowKit Go.Proofs.YtdcabfonjmeajaaW.PrintWords Go.Proofs.YtdcabfonjmeajaaW.PrintLast Go.Proofs.YtdcabfonjmeajaaW.PrintMore

/-! ### boarderref13.Find -/
theorem boarderref13_Find_s (a b : Int) (nets : List Nt) (h : Sm nets) (x : Int) : Ev (fun k => boarderref13_Find.f k a b nets x) (findL a b nets x) := by
  have hN := h.1
  have h10 : ∀ m (hm : m < nets.length), nets[m].f0.length ≤ 10 := fun m hm => (h.2 _ (List.getElem_mem hm)).1
  refine Ev.bind (boarderref13_Check_s a b nets h) (f := fun k t => if t = 0 then boarderref13_Find.l0 k x 0 a b nets else some (0, 0, false)) ?_
  unfold findL rightL
  by_cases c : checkI a b nets = 0
  · rw [if_pos c]
    refine Ev.pos c (nestF nets (findQ x) (0, 0, false) (L0 := fun k m => boarderref13_Find.l0 k x m a b nets) (L1 := fun k m i => boarderref13_Find.l1 k x m i a b nets) (fun m hm r h1 => ?_) ?_ (fun m i hm hi v hv => ?_) (fun m i hm hi hv r h1 => ?_) (fun m hm r h1 => ?_))
    · refine Ev.step (fun k => ?_) h1
      show boarderref13_Find.l0 (k + 1) _ _ _ _ _ = _
      rw [boarderref13_Find.l0, if_pos (by omega)]
    · refine Ev.step (f := fun _ => some (0, 0, false)) (fun k => ?_) Ev.some'
      show boarderref13_Find.l0 (k + 1) _ _ _ _ _ = _
      rw [boarderref13_Find.l0, if_neg (by omega)]
    · have eN : rd_T41 nets (m : Int) = nets[m] := rd_get hm
      refine Ev.step (fun k => ?_) (Ev.bind (g := fun k => boarderref01_Has.f k nets[m].f0[i].f0 nets[m].f0[i].f1 x) (a := Com.hasB nets[m].f0[i].f0 nets[m].f0[i].f1 x) ⟨40, fun k hk => boarderref01_Has_s _ _ _ k hk⟩ (f := fun k t => if t = true then some ((m : Int), (i : Int), true) else boarderref13_Find.l1 k x (m : Int) ((i + 1 : Nat) : Int) a b nets) ?_)
      · show boarderref13_Find.l1 (k + 1) _ _ _ _ _ _ = _
        rw [boarderref13_Find.l1, if_pos (by omega), if_pos (by omega), eN, if_pos (by omega), if_pos (by omega), show rd_T57 nets[m].f0 (i : Int) = nets[m].f0[i] from rd_get hi, wrap_next hi (by have := h10 m hm; omega)]
      · unfold findQ at hv
        by_cases c2 : Com.hasB nets[m].f0[i].f0 nets[m].f0[i].f1 x = true
        · rw [if_pos c2] at hv; obtain rfl := Option.some.inj hv; exact Ev.pos c2 Ev.some'
        · rw [if_neg c2] at hv; cases hv
    · have eN : rd_T41 nets (m : Int) = nets[m] := rd_get hm
      refine Ev.step (fun k => ?_) (Ev.bind (g := fun k => boarderref01_Has.f k nets[m].f0[i].f0 nets[m].f0[i].f1 x) (a := Com.hasB nets[m].f0[i].f0 nets[m].f0[i].f1 x) ⟨40, fun k hk => boarderref01_Has_s _ _ _ k hk⟩ (f := fun k t => if t = true then some ((m : Int), (i : Int), true) else boarderref13_Find.l1 k x (m : Int) ((i + 1 : Nat) : Int) a b nets) ?_)
      · show boarderref13_Find.l1 (k + 1) _ _ _ _ _ _ = _
        rw [boarderref13_Find.l1, if_pos (by omega), if_pos (by omega), eN, if_pos (by omega), if_pos (by omega), show rd_T57 nets[m].f0 (i : Int) = nets[m].f0[i] from rd_get hi, wrap_next hi (by have := h10 m hm; omega)]
      · unfold findQ at hv
        by_cases c2 : Com.hasB nets[m].f0[i].f0 nets[m].f0[i].f1 x = true
        · rw [if_pos c2] at hv; cases hv
        · exact Ev.neg c2 h1
    · have eN : rd_T41 nets (m : Int) = nets[m] := rd_get hm
      refine Ev.step (fun k => ?_) h1
      show boarderref13_Find.l1 (k + 1) _ _ _ _ _ _ = _
      rw [boarderref13_Find.l1, if_pos (by omega), if_pos (by omega), eN, if_neg (by omega), wrap_next hm (by omega)]
  · rw [if_neg c]; exact Ev.neg c Ev.some'

end Go.Proofs.Ytdcabfonjmeajaa.PAlloc
set_option linter.unusedVariables false
set_option linter.unusedSimpArgs false
namespace Go.Proofs.Ytdcabfonjmeajaa.PAlloc
open Go.RowKit Go.Proofs.YtdcabfonjmeajaaW.PrintWords Go.Proofs.YtdcabfonjmeajaaW.PrintLast Go.Proofs.YtdcabfonjmeajaaW.PrintMore

/-! ### boarderref15.In -/
theorem boarderref15_In_s (a b : Int) (nets : List Nt) (h : Sm nets) (n x : Int) : Ev (fun k => boarderref15_In.f k a b nets n x) (inA a b nets n x) := by
  refine Ev.bind (boarderref13_Find_s a b nets h x) (Ev.ite' (fun c1 => Ev.ret ?_) (fun c1 => Ev.ret ?_))
  · unfold inA; rw [c1]; by_cases c : (findL a b nets x).1 = n <;> simp [c]
  · unfold inA; simp [c1]

end Go.Proofs.Ytdcabfonjmeajaa.PAlloc
set_option linter.unusedVariables false
set_option linter.unusedSimpArgs false
namespace Go.Proofs.Ytdcabfonjmeajaa.PAlloc
open Go.RowKit Go.Proofs.YtdcabfonjmeajaaW.PrintWords Go.Proofs.YtdcabfonjmeajaaW.PrintLast Go.Proofs.YtdcabfonjmeajaaW.PrintMore

/-! ### boarderref15.other -/
theorem any_foldr {α : Type} (p : α → Bool) : ∀ l : List α, l.foldr (fun x r => if p x = true then true else r) false = l.any p
  | [] => rfl
  | x :: l => by rw [List.foldr_cons, any_foldr p l, List.any_cons]; cases p x <;> rfl
theorem boarderref15_other_s (a b : Int) (nets : List Nt) (h : Sm nets) (t : List Le) (ht : Small t) (n : Int) (key : ByteArray) (x now : Int) : Ev (fun k => boarderref15_other.f k a b nets t n key x now) (otherA a b nets t n key x now) := by
  have hl : t.length ≤ 500 := ht.1
  have e : otherA a b nets t n key x now = t.foldr (fun l r => if (decide (l.f3.toList = key.toList) && othP a b nets n x now l) = true then true else r) false := by
    rw [any_foldr]; unfold otherA ofL; rw [List.any_filter]
  rw [e]
  refine loopR t _ (L := fun k i => boarderref15_other.l0 k t n key x now i a b nets) (fun i hi r h3 => ?_) ?_
  · have eT : rd_T47 t (i : Int) = t[i] := rd_get hi
    have w : wrap64 ((i : Int) + 1) = ((i + 1 : Nat) : Int) := wrap_next hi (by omega)
    refine Ev.step (f := fun k => if t[i].f3.toList = key.toList then (if t[i].f0 = x then boarderref15_other.l0 k t n key x now ((i + 1 : Nat) : Int) a b nets else ((boarderref12_Holds.f t[i].f0 t[i].f1 t[i].f2 t[i].f3 now).bind fun q => if q = true then ((boarderref15_In.f k a b nets n t[i].f0).bind fun q => if q = true then some true else boarderref15_other.l0 k t n key x now ((i + 1 : Nat) : Int) a b nets) else boarderref15_other.l0 k t n key x now ((i + 1 : Nat) : Int) a b nets)) else boarderref15_other.l0 k t n key x now ((i + 1 : Nat) : Int) a b nets) (fun k => ?_) ?_
    · show boarderref15_other.l0 (k + 1) _ _ _ _ _ _ _ _ _ = _
      rw [boarderref15_other.l0, if_pos (by omega), if_pos (by omega), eT, w]
    · refine Ev.ite' (fun c1 => ?_) (fun c1 => by simpa [c1] using h3)
      refine Ev.ite' (fun c2 => by simpa [c1, c2, othP] using h3) (fun c2 => ?_)
      refine Ev.bind (Ev.congr (fun _ => boarderref12_Holds_s t[i] now) (Ev.now _)) (Ev.ite' (fun c3 => ?_) (fun c3 => by simpa [c1, c2, c3, othP] using h3))
      refine Ev.bind (boarderref15_In_s a b nets h n _) (Ev.ite' (fun c4 => Ev.ret (by simp [c1, c2, c3, c4, othP])) (fun c4 => by simpa [c1, c2, c3, c4, othP] using h3))
  · refine Ev.step (f := fun _ => some false) (fun k => ?_) Ev.some'
    show boarderref15_other.l0 (k + 1) _ _ _ _ _ _ _ _ _ = _
    rw [boarderref15_other.l0, if_neg (by omega)]

end Go.Proofs.Ytdcabfonjmeajaa.PAlloc
set_option linter.unusedVariables false
set_option linter.unusedSimpArgs false
namespace Go.Proofs.Ytdcabfonjmeajaa.PAlloc
open Go.RowKit Go.Proofs.YtdcabfonjmeajaaW.PrintWords Go.Proofs.YtdcabfonjmeajaaW.PrintLast Go.Proofs.YtdcabfonjmeajaaW.PrintMore

/-! ### boarderref12.Good -/
theorem boarderref12_Good_s (t : List Le) (ht : t.length ≤ maxLen) (k : Nat) (hk : t.length < k) : boarderref12_Good.f k t = some (goodL t) := by
  unfold boarderref12_Good.f goodL
  rw [boarderref12_Right_s t ht k hk]
  simp only [Option.bind_some]
  by_cases c : Tab t
  · rw [decide_eq_true c, if_pos c]; rfl
  · rw [decide_eq_false c, if_neg c]; rfl

end Go.Proofs.Ytdcabfonjmeajaa.PAlloc
set_option linter.unusedVariables false
set_option linter.unusedSimpArgs false
namespace Go.Proofs.Ytdcabfonjmeajaa.PAlloc
open Go.RowKit Go.Proofs.YtdcabfonjmeajaaW.PrintWords Go.Proofs.YtdcabfonjmeajaaW.PrintLast Go.Proofs.YtdcabfonjmeajaaW.PrintMore

/-! ### boarderref12.Get -/
theorem boarderref12_Get_l (t : List Le) (ht : t.length ≤ maxLen) (a : Int) (d : Nat) : ∀ (i : Nat) (k : Nat), i + d = t.length → d < k → boarderref12_Get.l0 k t a i = some (ans (getL (t.drop i) a)) := by
  simp only [maxLen] at ht
  induction d with
  | zero =>
    intro i k hi hk
    obtain ⟨k, rfl⟩ : ∃ m, k = m + 1 := ⟨k - 1, by omega⟩
    rw [boarderref12_Get.l0, if_neg (by omega), List.drop_eq_nil_of_le (by omega)]; rfl
  | succ d ih =>
    intro i k hi hkk
    obtain ⟨k, rfl⟩ : ∃ m, k = m + 1 := ⟨k - 1, by omega⟩
    have hw : wrap64 ((i : Int) + 1) = ((i + 1 : Nat) : Int) := by unfold wrap64; omega
    rw [boarderref12_Get.l0, if_pos (by omega), if_pos (by omega), show rd_T47 t (i : Int) = atL t i from rfl, hw, List.drop_eq_getElem_cons (i := i) (by omega), ← atL_get (by omega)]
    unfold getL
    rw [List.find?_cons]
    by_cases h : (atL t i).f0 = a
    · rw [if_pos h, decide_eq_true h]; rfl
    · rw [if_neg h, decide_eq_false h, ih (i + 1) k (by omega) (by omega)]; rfl
theorem boarderref12_Get_s (t : List Le) (ht : t.length ≤ maxLen) (a : Int) (k : Nat) (hk : t.length < k) : boarderref12_Get.f k t a = some (ans (getL (goodL t) a)) := by
  unfold boarderref12_Get.f
  rw [boarderref12_Good_s t ht k hk]
  simp only [Option.bind_some]
  have hgl := goodL_len t
  have e := boarderref12_Get_l (goodL t) (by omega) a (goodL t).length 0 k (by omega) (by omega)
  rw [show boarderref12_Get.l0 k (goodL t) a 0 = boarderref12_Get.l0 k (goodL t) a ((0 : Nat) : Int) from rfl, e, List.drop_zero]

end Go.Proofs.Ytdcabfonjmeajaa.PAlloc
set_option linter.unusedVariables false
set_option linter.unusedSimpArgs false
namespace Go.Proofs.Ytdcabfonjmeajaa.PAlloc
open Go.RowKit Go.Proofs.YtdcabfonjmeajaaW.PrintWords Go.Proofs.YtdcabfonjmeajaaW.PrintLast Go.Proofs.YtdcabfonjmeajaaW.PrintMore

/-! ### boarderref12.Free -/
theorem boarderref12_Free_s (t : List Le) (ht : t.length ≤ maxLen) (a : Int) (key : ByteArray) (now : Int) (k : Nat) (hk : t.length < k) : boarderref12_Free.f k t a key now = some (freeB (goodL t) a key now) := by
  unfold boarderref12_Free.f freeB
  rw [boarderref12_Get_s t ht a k hk]
  simp only [Option.bind_some]
  cases hq : getL (goodL t) a with
  | none => rfl
  | some l =>
    have hb := leaseB_of ((goodL_tab t).2.1 l (getL_mem hq).1)
    show (if true = true then (if l.f1 = 2 then some true else (if now ≥ l.f2 then some true else (if l.f1 = 1 then some (l.f3.toList == key.toList) else some false))) else some true) = some (!restsB l now && (!holdsB l now || decide (l.f3.toList = key.toList)))
    rw [if_pos rfl]
    unfold restsB holdsB
    by_cases c2 : l.f1 = 2
    · rw [if_pos c2, decide_eq_false (by omega), decide_eq_false (by omega)]; rfl
    · rw [if_neg c2]
      by_cases c3 : now ≥ l.f2
      · rw [if_pos c3, decide_eq_false (by omega), decide_eq_false (by omega)]; rfl
      · rw [if_neg c3]
        by_cases c1 : l.f1 = 1
        · rw [if_pos c1, decide_eq_false (by omega), decide_eq_true (by omega)]
          simp only [Bool.not_false, Bool.true_and, Bool.not_true, Bool.false_or]
          congr 1
          rw [Bool.eq_iff_iff]; simp
        · rw [if_neg c1, decide_eq_true (by omega)]; rfl

end Go.Proofs.Ytdcabfonjmeajaa.PAlloc
set_option linter.unusedVariables false
set_option linter.unusedSimpArgs false
namespace Go.Proofs.Ytdcabfonjmeajaa.PAlloc
open Go.RowKit Go.Proofs.YtdcabfonjmeajaaW.PrintWords Go.Proofs.YtdcabfonjmeajaaW.PrintLast Go.Proofs.YtdcabfonjmeajaaW.PrintMore

/-! ### boarderref15.May -/
theorem boarderref15_May_j1 (a b : Int) (nets : List Nt) (h : Sm nets) (n : Int) (key : ByteArray) (x : Int) (q : Bool) : Ev (fun k => boarderref15_May.j1 k n key x q a b nets) (q || poolA a b nets n key x) := by
  refine Ev.step (fun k => by rw [boarderref15_May.j1]) ?_
  refine Ev.ite' (fun c1 => Ev.ret (by simp [c1])) (fun c1 => ?_)
  refine Ev.bind (boarderref13_Keeper_s a b nets h x) (Ev.bind (boarderref13_InPool_s a b nets h n x) (Ev.ite' (fun c2 => ?_) (fun c2 => Ev.ret (by simp [c1, c2, poolA]))))
  exact Ev.ite' (fun c3 => Ev.ret (by simp [c1, c2, c3, poolA, beqD])) (fun c3 => Ev.ret (by simp [c1, c2, c3, poolA]))
theorem boarderref15_May_j0 (a b : Int) (nets : List Nt) (h : Sm nets) (n : Int) (key : ByteArray) (x : Int) (q : Bool) : Ev (fun k => boarderref15_May.j0 k n key x q a b nets) (!q && (mineA a b nets n key x || poolA a b nets n key x)) := by
  refine Ev.step (fun k => by rw [boarderref15_May.j0]) ?_
  refine Ev.ite' (fun c1 => Ev.ret (by simp [c1])) (fun c1 => ?_)
  refine Ev.bind (boarderref13_KeptFor_s a b nets h n key) (Ev.ite' (fun c2 => ?_) (fun c2 => ?_))
  · refine Ev.eqv (boarderref15_May_j1 a b nets h n key x _) ?_
    simp only [Bool.not_eq_true] at c1
    simp [c1, mineA, c2, beqD, eq_comm]
  · refine Ev.eqv (boarderref15_May_j1 a b nets h n key x _) ?_
    simp only [Bool.not_eq_true] at c1 c2
    simp [c1, mineA, c2]
theorem boarderref15_May_s (a b : Int) (nets : List Nt) (h : Sm nets) (t : List Le) (ht : Small t) (n : Int) (key : ByteArray) (x now : Int) : Ev (fun k => boarderref15_May.f k a b nets t n key x now) (mayA a b nets t n key x now) := by
  have hl : t.length ≤ maxLen := Nat.le_trans ht.1 (by decide)
  refine Ev.bind (boarderref15_Fair_s a b nets h t ht n key) (Ev.ite' (fun c1 => ?_) (fun c1 => ?_))
  · have hT := (fairA_iff.1 c1).2.1
    refine Ev.bind (boarderref15_other_s a b nets h t ht n key x now) (Ev.ite' (fun c2 => Ev.eqv (boarderref15_May_j0 a b nets h n key x _) (by simp [mayA, c1, c2])) (fun c2 => ?_))
    refine Ev.bind (a := freeB (goodL t) x key now) ⟨t.length + 1, fun k hk => boarderref12_Free_s t hl x key now k (by omega)⟩ (Ev.eqv (boarderref15_May_j0 a b nets h n key x _) ?_)
    rw [goodL_of hT]
    simp only [Bool.not_eq_true] at c2
    simp [mayA, c1, c2, Bool.and_comm]
  · exact Ev.eqv (boarderref15_May_j0 a b nets h n key x _) (by simp [mayA, c1])

end Go.Proofs.Ytdcabfonjmeajaa.PAlloc
