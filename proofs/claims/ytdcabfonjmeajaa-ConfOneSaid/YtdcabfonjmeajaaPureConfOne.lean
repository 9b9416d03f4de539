/- The law ConfOne holds of the printed functions; no condition beyond the law's own. -/
import Derived.Test.YtdcabfonjmeajaaConfRConfOne
import Derived.Test.YtdcabfonjmeajaaConfCfg
import Derived.Test.YtdcabfonjmeajaaConfS3
set_option linter.unusedVariables false
set_option linter.unusedSimpArgs false
namespace Go.Proofs.Ytdcabfonjmeajaa.Pure
open Go.RowKit Go.Proofs.YtdcabfonjmeajaaW.PrintWords Go.Proofs.YtdcabfonjmeajaaW.PrintLast Go.Proofs.YtdcabfonjmeajaaW.PrintMore Go.Proofs.Ytdcabfonjmeajaa.PConf

/-! What a configuration that is right has. -/
theorem has_iff {b n x : Int} : Com.hasB b n x = true ↔ Com.fairB b n = true ∧ b ≤ x ∧ x < b + (Com.sz n : Int) := by unfold Com.hasB; rw [Bool.and_eq_true, decide_eq_true_iff]
theorem has_meet {b n c m x : Int} (h1 : Com.hasB b n x = true) (h2 : Com.hasB c m x = true) : meetC b n c m = true := by
  obtain ⟨f1, a1, b1⟩ := has_iff.1 h1
  obtain ⟨f2, a2, b2⟩ := has_iff.1 h2
  unfold meetC
  rw [f1, f2, Bool.true_and, Bool.true_and, Bool.or_eq_true, decide_eq_true_iff, decide_eq_true_iff]
  omega
theorem in_has {s : Sb} {a : Int} (h : FairS s) (hi : InS s a) : Com.hasB s.f0 s.f1 a = true := has_iff.2 ⟨h.1, by have := hi.1; omega, by have := hi.2; omega⟩
theorem has_uniq {l : List Sp} (hU : UnlikeP l) {x : Int} {y z : Sp} (hy : y ∈ l) (hz : z ∈ l) (h1 : Com.hasB y.f2.f0 y.f2.f1 x = true) (h2 : Com.hasB z.f2.f0 z.f2.f1 x = true) : y = z := by
  obtain ⟨i, hi, rfl⟩ := List.mem_iff_getElem.1 hy
  obtain ⟨j, hj, rfl⟩ := List.mem_iff_getElem.1 hz
  by_cases c : i = j
  · subst c; rfl
  · have := ((hU i j hi hj).1 (decide_eq_false c)).1
    rw [has_meet h1 h2] at this
    cases this
theorem find_of {l : List Sp} (hU : UnlikeP l) {x : Int} {y : Sp} (hy : y ∈ l) (h1 : Com.hasB y.f2.f0 y.f2.f1 x = true) : l.findSome? (findQ x) = some (y.f0, y.f1, true) := by
  cases c : l.findSome? (findQ x) with
  | none =>
    have := List.findSome?_eq_none_iff.1 c y hy
    unfold findQ at this
    rw [if_pos h1] at this
    cases this
  | some v =>
    obtain ⟨z, hz, hv⟩ := List.exists_of_findSome?_eq_some c
    unfold findQ at hv
    by_cases h2 : Com.hasB z.f2.f0 z.f2.f1 x = true
    · rw [if_pos h2] at hv
      obtain rfl := has_uniq hU hy hz h1 h2
      exact hv.symm
    · rw [if_neg h2] at hv; cases hv
theorem pool_of {l : List Sp} {n a : Int} (h : (l.findSome? (fun y => if y.f0 = n then poolG a y.f2 else none)).getD false = true) : ∃ y ∈ l, y.f0 = n ∧ ∃ i, ∃ hi : i < y.f2.f2.length, y.f2.f2[i].f0 ≤ a ∧ a ≤ y.f2.f2[i].f1 := by
  cases c : l.findSome? (fun y => if y.f0 = n then poolG a y.f2 else none) with
  | none => rw [c] at h; cases h
  | some v =>
    obtain ⟨y, hy, hv⟩ := List.exists_of_findSome?_eq_some c
    by_cases h1 : y.f0 = n
    · rw [if_pos h1] at hv
      obtain ⟨p, hp, hv⟩ := List.exists_of_findSome?_eq_some hv
      obtain ⟨i, hi, rfl⟩ := List.mem_iff_getElem.1 hp
      by_cases h2 : y.f2.f2[i].f0 ≤ a ∧ a ≤ y.f2.f2[i].f1
      · exact ⟨y, hy, h1, i, hi, h2⟩
      · rw [if_neg h2] at hv; cases hv
    · rw [if_neg h1] at hv; cases hv
theorem kept_of {l : List Sp} {n b : Int} {k : ByteArray} (h : l.findSome? (fun y => if y.f0 = n then keptG k y.f2 else none) = some (b, true)) : ∃ y ∈ l, y.f0 = n ∧ ∃ i, ∃ hi : i < y.f2.f3.length, y.f2.f3[i].f0.toList = k.toList ∧ y.f2.f3[i].f1 = b := by
  obtain ⟨y, hy, hv⟩ := List.exists_of_findSome?_eq_some h
  by_cases h1 : y.f0 = n
  · rw [if_pos h1] at hv
    obtain ⟨p, hp, hv⟩ := List.exists_of_findSome?_eq_some hv
    obtain ⟨i, hi, rfl⟩ := List.mem_iff_getElem.1 hp
    by_cases h2 : y.f2.f3[i].f0.toList = k.toList
    · rw [if_pos h2] at hv
      injection hv with hv
      exact ⟨y, hy, h1, i, hi, h2, congrArg Prod.fst hv⟩
    · rw [if_neg h2] at hv; cases hv
  · rw [if_neg h1] at hv; cases hv
theorem keep_of {l : List Sp} {a : Int} {v : ByteArray × Bool} (h : l.findSome? (fun y => keepG a y.f2) = some v) : ∃ y ∈ l, ∃ i, ∃ hi : i < y.f2.f3.length, y.f2.f3[i].f1 = a ∧ v = (y.f2.f3[i].f0, true) := by
  obtain ⟨y, hy, hv⟩ := List.exists_of_findSome?_eq_some h
  obtain ⟨p, hp, hv⟩ := List.exists_of_findSome?_eq_some hv
  obtain ⟨i, hi, rfl⟩ := List.mem_iff_getElem.1 hp
  by_cases h2 : y.f2.f3[i].f1 = a
  · rw [if_pos h2] at hv
    exact ⟨y, hy, i, hi, h2, (Option.some.inj hv).symm⟩
  · rw [if_neg h2] at hv; cases hv
/-- An address that is reserved is so once. -/
theorem keep_uniq {l : List Sp} (hU : UnlikeP l) {y z : Sp} (hy : y ∈ l) (hz : z ∈ l) {i j : Nat} (hi : i < y.f2.f3.length) (hj : j < z.f2.f3.length) (h : y.f2.f3[i].f1 = z.f2.f3[j].f1) : y.f2.f3[i].f0 = z.f2.f3[j].f0 := by
  obtain ⟨p, hp, rfl⟩ := List.mem_iff_getElem.1 hy
  obtain ⟨q, hq, rfl⟩ := List.mem_iff_getElem.1 hz
  by_cases c : p = q
  · subst c
    by_cases c2 : i = j
    · subst c2; rfl
    · exact absurd h ((hU p p hp hp).2.2 i j hi hj (fun _ => c2)).1
  · exact absurd h ((hU p q hp hq).2.2 i j hi hj (fun e => absurd (of_decide_eq_true e) c)).1
open Classical in
theorem check_zero {a b : Int} {nets : List Nt} (h : checkI a b nets = 0) : FormP a b nets ∧ (∀ n ∈ nets, ∀ s ∈ n.f0, PlaceS a s) ∧ UnlikeP (spotsL nets) := by
  unfold checkI at h
  by_cases c1 : FormP a b nets
  · rw [if_pos c1] at h
    by_cases c2 : ∀ n ∈ nets, ∀ s ∈ n.f0, PlaceS a s
    · rw [if_pos c2] at h
      by_cases c3 : UnlikeP (spotsL nets)
      · exact ⟨c1, c2, c3⟩
      · rw [if_neg c3] at h; exact absurd h (by decide)
    · rw [if_neg c2] at h; exact absurd h (by decide)
  · rw [if_neg c1] at h; exact absurd h (by decide)
/-- In a pool: found in that network, in no other one's pool, and not the server. -/
theorem one_pool {a b : Int} {nets : List Nt} (h : checkI a b nets = 0) {n x : Int} (hp : poolL a b nets n x = true) : (findL a b nets x).2.2 = true ∧ (findL a b nets x).1 = n ∧ (∀ m, m ≠ n → poolL a b nets m x = false) ∧ x ≠ a := by
  obtain ⟨hF, hP, hU⟩ := check_zero h
  have hF2 := (spots_all (F := FairS)).2 hF.2.2.2.2.2.2
  have hP2 := (spots_all (F := PlaceS a)).2 hP
  unfold poolL rightL at hp
  rw [if_pos h] at hp
  obtain ⟨y, hy, hn, i, hi, h1, h2⟩ := pool_of hp
  have pl := (hP2 y hy).1 i hi
  have hI : InS y.f2 x := ⟨by have := pl.1.1; omega, by have := pl.2.1.2; omega⟩
  have hh := in_has (hF2 y hy) hI
  have e := find_of hU hy hh
  unfold findL rightL
  rw [if_pos h, e]
  refine ⟨rfl, hn, fun m hm => ?_, fun e2 => pl.2.2 ⟨by omega, by omega⟩⟩
  cases c : poolL a b nets m x with
  | false => rfl
  | true =>
    unfold poolL rightL at c
    rw [if_pos h] at c
    obtain ⟨z, hz, hn2, j, hj, h3, h4⟩ := pool_of c
    have pl2 := (hP2 z hz).1 j hj
    have hI2 : InS z.f2 x := ⟨by have := pl2.1.1; omega, by have := pl2.2.1.2; omega⟩
    have := has_uniq hU hy hz hh (in_has (hF2 z hz) hI2)
    subst this
    exact absurd (hn2.symm.trans hn) hm
/-- Reserved: found in that network, for that client, and not the server. -/
theorem one_kept {a b : Int} {nets : List Nt} (h : checkI a b nets = 0) {n : Int} {k : ByteArray} (hk : (keptL a b nets n k).2 = true) :
    (findL a b nets (keptL a b nets n k).1).2.2 = true ∧ (findL a b nets (keptL a b nets n k).1).1 = n ∧ (keepL a b nets (keptL a b nets n k).1).2 = true ∧ (keepL a b nets (keptL a b nets n k).1).1.toList = k.toList ∧ (keptL a b nets n k).1 ≠ a := by
  obtain ⟨hF, hP, hU⟩ := check_zero h
  have hF2 := (spots_all (F := FairS)).2 hF.2.2.2.2.2.2
  have hP2 := (spots_all (F := PlaceS a)).2 hP
  generalize hv : keptL a b nets n k = v at *
  unfold keptL rightL at hv
  rw [if_pos h] at hv
  cases c : (spotsL nets).findSome? (fun y => if y.f0 = n then keptG k y.f2 else none) with
  | none => rw [c] at hv; subst hv; cases hk
  | some u =>
    rw [c] at hv
    have hv : u = v := hv
    subst hv
    obtain ⟨u1, u2⟩ := u
    have hk : u2 = true := hk
    subst hk
    obtain ⟨y, hy, hn, i, hi, h1, h2⟩ := kept_of c
    have h2 : y.f2.f3[i].f1 = u1 := h2
    subst h2
    have pl := (hP2 y hy).2.1 i hi
    have hh := in_has (hF2 y hy) pl.1
    have e := find_of hU hy hh
    have eF : findL a b nets y.f2.f3[i].f1 = (y.f0, y.f1, true) := by unfold findL rightL; rw [if_pos h, e]; rfl
    have eK : ∃ v, (spotsL nets).findSome? (fun z => keepG y.f2.f3[i].f1 z.f2) = some v := by
      cases c2 : (spotsL nets).findSome? (fun z => keepG y.f2.f3[i].f1 z.f2) with
      | some v => exact ⟨v, rfl⟩
      | none =>
        have h3 := List.findSome?_eq_none_iff.1 c2 y hy
        have h4 := List.findSome?_eq_none_iff.1 h3 _ (List.getElem_mem hi)
        rw [if_pos rfl] at h4
        cases h4
    obtain ⟨v, hv⟩ := eK
    obtain ⟨z, hz, j, hj, h3, h4⟩ := keep_of hv
    have eL : keepL a b nets y.f2.f3[i].f1 = v := by unfold keepL rightL; rw [if_pos h, hv]; rfl
    refine ⟨by rw [eF], by rw [eF]; exact hn, by rw [eL, h4], ?_, pl.2⟩
    rw [eL, h4]
    rw [← keep_uniq hU hy hz hi hj h3.symm]
    exact h1
theorem one_keep {a b : Int} {nets : List Nt} (h : checkI a b nets = 0) {x : Int} (hk : (keepL a b nets x).2 = true) : (findL a b nets x).2.2 = true := by
  obtain ⟨hF, hP, hU⟩ := check_zero h
  have hF2 := (spots_all (F := FairS)).2 hF.2.2.2.2.2.2
  have hP2 := (spots_all (F := PlaceS a)).2 hP
  unfold keepL rightL at hk
  rw [if_pos h] at hk
  cases c : (spotsL nets).findSome? (fun z => keepG x z.f2) with
  | none => rw [c] at hk; cases hk
  | some v =>
    obtain ⟨z, hz, j, hj, h3, h4⟩ := keep_of c
    have pl := (hP2 z hz).2.1 j hj
    rw [h3] at pl
    have e := find_of hU hz (in_has (hF2 z hz) pl.1)
    unfold findL rightL
    rw [if_pos h, e]
    rfl
open Classical in
theorem ConfOne : boarderlaw13_ConfOne.Pure := by
  intro a b nets n m x y _ _ _ _ _
  have hk : Ev (fun k => (boarderlaw13_knows.f k).bind fun t => some t) true := Ev.bind boarderlaw13_knows_s (f := fun _ t => some t) Ev.some'
  -- the reserved address at the end
  have T : Sm nets → checkI a b nets = 0 → ∀ ok : Bool, ok = (findL a b nets x).2.2 → Ev (fun k => (conf_Keeper.f k a b nets x).bind fun bt => if bt.2 = true then (if ok = true then ((boarderlaw13_knows.f k).bind fun t => some t) else none) else ((boarderlaw13_knows.f k).bind fun t => some t)) true := by
    intro h hc ok hok
    refine Ev.bind (conf_Keeper_s a b nets h x) (f := fun k bt => if bt.2 = true then (if ok = true then ((boarderlaw13_knows.f k).bind fun t => some t) else none) else ((boarderlaw13_knows.f k).bind fun t => some t)) ?_
    by_cases c : (keepL a b nets x).2 = true
    · exact Ev.pos c (Ev.pos (by rw [hok]; exact one_keep hc c) hk)
    · exact Ev.neg c hk
  have J2 : Sm nets → checkI a b nets = 0 → ∀ ok : Bool, ok = (findL a b nets x).2.2 → Ev (fun k => boarderlaw13_ConfOne.j2 k x ok false a b nets) true := by
    intro h hc ok hok
    exact Ev.step (fun k => by show boarderlaw13_ConfOne.j2 (k + 1) _ _ _ _ _ _ = _; rw [boarderlaw13_ConfOne.j2, if_neg (by simp)]) (T h hc ok hok)
  have J1 : Sm nets → checkI a b nets = 0 → ∀ ok : Bool, ok = (findL a b nets x).2.2 → Ev (fun k => boarderlaw13_ConfOne.j1 k n x y ok false a b nets) true := by
    intro h hc ok hok
    refine Ev.step (fun k => by show boarderlaw13_ConfOne.j1 (k + 1) _ _ _ _ _ _ _ _ = _; rw [boarderlaw13_ConfOne.j1, if_neg (by simp)]) ?_
    refine Ev.bind (conf_KeptFor_s a b nets h n y) (f := fun k bt397 => (if bt397.2 = true then ((conf_Find.f k a b nets bt397.1).bind fun bt399 => ((conf_Keeper.f k a b nets bt397.1).bind fun bt402 => (if bt399.2.2 = true then (if bt399.1 = n then (if bt402.2 = true then (if bt402.1.toList = y.toList then (boarderlaw13_ConfOne.j2 k x ok (bt397.1 == a) a b nets) else (boarderlaw13_ConfOne.j2 k x ok true a b nets)) else (boarderlaw13_ConfOne.j2 k x ok true a b nets)) else (boarderlaw13_ConfOne.j2 k x ok true a b nets)) else (boarderlaw13_ConfOne.j2 k x ok true a b nets)))) else ((conf_Keeper.f k a b nets x).bind fun bt408 => (if bt408.2 = true then (if ok = true then ((boarderlaw13_knows.f k).bind fun t410 => (some t410)) else (none)) else ((boarderlaw13_knows.f k).bind fun t411 => (some t411)))))) ?_
    by_cases c : (keptL a b nets n y).2 = true
    · obtain ⟨h1, h2, h3, h4, h5⟩ := one_kept hc c
      refine Ev.pos c ?_
      generalize (keptL a b nets n y).1 = u at *
      refine Ev.bind (conf_Find_s a b nets h u) (f := fun k bt399 => ((conf_Keeper.f k a b nets u).bind fun bt402 => (if bt399.2.2 = true then (if bt399.1 = n then (if bt402.2 = true then (if bt402.1.toList = y.toList then (boarderlaw13_ConfOne.j2 k x ok (u == a) a b nets) else (boarderlaw13_ConfOne.j2 k x ok true a b nets)) else (boarderlaw13_ConfOne.j2 k x ok true a b nets)) else (boarderlaw13_ConfOne.j2 k x ok true a b nets)) else (boarderlaw13_ConfOne.j2 k x ok true a b nets)))) ?_
      refine Ev.bind (conf_Keeper_s a b nets h u) (f := fun k bt402 => (if (findL a b nets u).2.2 = true then (if (findL a b nets u).1 = n then (if bt402.2 = true then (if bt402.1.toList = y.toList then (boarderlaw13_ConfOne.j2 k x ok (u == a) a b nets) else (boarderlaw13_ConfOne.j2 k x ok true a b nets)) else (boarderlaw13_ConfOne.j2 k x ok true a b nets)) else (boarderlaw13_ConfOne.j2 k x ok true a b nets)) else (boarderlaw13_ConfOne.j2 k x ok true a b nets))) ?_
      refine Ev.pos h1 (Ev.pos h2 (Ev.pos h3 (Ev.pos h4 ?_)))
      rw [beq_eq_false_iff_ne.2 h5]
      exact J2 h hc ok hok
    · exact Ev.neg c (T h hc ok hok)
  have J0 : ∀ c : Bool, (c = false → Sm nets ∧ checkI a b nets = 0 ∧ n ≠ m) → Ev (fun k => boarderlaw13_ConfOne.j0 k n m x y c a b nets) true := by
    intro c hc
    cases c with
    | true => exact Ev.step (fun k => by show boarderlaw13_ConfOne.j0 (k + 1) _ _ _ _ _ _ _ _ = _; rw [boarderlaw13_ConfOne.j0, if_pos rfl]) hk
    | false =>
      obtain ⟨h, h0, hnm⟩ := hc rfl
      refine Ev.step (fun k => by show boarderlaw13_ConfOne.j0 (k + 1) _ _ _ _ _ _ _ _ = _; rw [boarderlaw13_ConfOne.j0, if_neg (by simp)]) ?_
      refine Ev.bind (conf_Find_s a b nets h x) (f := fun k bt392 => ((conf_InPool.f k a b nets n x).bind fun t395 => (if t395 = true then (if bt392.2.2 = true then (if bt392.1 = n then ((conf_InPool.f k a b nets m x).bind fun t396 => (if t396 = true then (boarderlaw13_ConfOne.j1 k n x y bt392.2.2 true a b nets) else (boarderlaw13_ConfOne.j1 k n x y bt392.2.2 (x == a) a b nets))) else (boarderlaw13_ConfOne.j1 k n x y bt392.2.2 true a b nets)) else (boarderlaw13_ConfOne.j1 k n x y bt392.2.2 true a b nets)) else (boarderlaw13_ConfOne.j1 k n x y bt392.2.2 false a b nets)))) ?_
      refine Ev.bind (conf_InPool_s a b nets h n x) (f := fun k t395 => (if t395 = true then (if (findL a b nets x).2.2 = true then (if (findL a b nets x).1 = n then ((conf_InPool.f k a b nets m x).bind fun t396 => (if t396 = true then (boarderlaw13_ConfOne.j1 k n x y (findL a b nets x).2.2 true a b nets) else (boarderlaw13_ConfOne.j1 k n x y (findL a b nets x).2.2 (x == a) a b nets))) else (boarderlaw13_ConfOne.j1 k n x y (findL a b nets x).2.2 true a b nets)) else (boarderlaw13_ConfOne.j1 k n x y (findL a b nets x).2.2 true a b nets)) else (boarderlaw13_ConfOne.j1 k n x y (findL a b nets x).2.2 false a b nets))) ?_
      by_cases c : poolL a b nets n x = true
      · obtain ⟨h1, h2, h3, h4⟩ := one_pool h0 c
        refine Ev.pos c (Ev.pos h1 (Ev.pos h2 ?_))
        refine Ev.bind (conf_InPool_s a b nets h m x) (f := fun k t396 => (if t396 = true then (boarderlaw13_ConfOne.j1 k n x y (findL a b nets x).2.2 true a b nets) else (boarderlaw13_ConfOne.j1 k n x y (findL a b nets x).2.2 (x == a) a b nets))) ?_
        refine Ev.neg (by rw [h3 m (fun e => hnm e.symm)]; simp) ?_
        rw [beq_eq_false_iff_ne.2 h4]
        exact J1 h h0 _ rfl
      · exact Ev.neg c (J1 h h0 _ rfl)
  refine Ev.rounds (Ev.bind (boarderlaw13_Great_s a b nets) (f := fun k t389 => (if t389 = true then (boarderlaw13_ConfOne.j0 k n m x y true a b nets) else (if (y.size : Int) > 1000 then (boarderlaw13_ConfOne.j0 k n m x y true a b nets) else (if n = m then (boarderlaw13_ConfOne.j0 k n m x y true a b nets) else ((boarderref13_Check.f k a b nets).bind fun t390 => (boarderlaw13_ConfOne.j0 k n m x y (t390 != 0) a b nets)))))) ?_)
  by_cases h : Sm nets
  · refine Ev.neg (by rw [decide_eq_true_iff]; exact fun h2 => h2 h) ?_
    by_cases c1 : (y.size : Int) > 1000
    · exact Ev.pos c1 (J0 true (fun h => by cases h))
    · refine Ev.neg c1 ?_
      by_cases c2 : n = m
      · exact Ev.pos c2 (J0 true (fun h => by cases h))
      · refine Ev.neg c2 (Ev.bind (boarderref13_Check_s a b nets h) (f := fun k t390 => (boarderlaw13_ConfOne.j0 k n m x y (t390 != 0) a b nets)) (J0 _ (fun e => ⟨h, by simpa using e, c2⟩)))
  · exact Ev.pos (by rw [decide_eq_true_iff]; exact h) (J0 true (fun h => by cases h))

end Go.Proofs.Ytdcabfonjmeajaa.Pure
