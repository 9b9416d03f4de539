/- The law ConfKeeps holds of the printed functions; no condition beyond the law's own. -/
import Derived.Test.YtdcabfonjmeajaaConfRConfKeeps
import Derived.Test.YtdcabfonjmeajaaPConfx16
import Derived.Test.YtdcabfonjmeajaaPConfx17
import Derived.Test.YtdcabfonjmeajaaConfCfg
import Derived.Test.YtdcabfonjmeajaaConfS3
set_option linter.unusedVariables false
set_option linter.unusedSimpArgs false
namespace Go.Proofs.Ytdcabfonjmeajaa.PConf
open Go.RowKit Go.Proofs.YtdcabfonjmeajaaW.PrintWords Go.Proofs.YtdcabfonjmeajaaW.PrintLast Go.Proofs.YtdcabfonjmeajaaW.PrintMore

/-! ### boarderref13.KeptFor -/
theorem boarderref13_KeptFor_l0 (l : List Sb) (hl : l.length ≤ 1000) (hS : ∀ s ∈ l, SmS s) (y : ByteArray) : Ev (fun k => boarderref13_KeptFor.l0 k y l 0) ((l.findSome? (keptG y)).getD (0, false)) := by
  have E : ∀ m (hm : m < l.length) (r : Int × Bool), (keptG y l[m] = none → Ev (fun k => boarderref13_KeptFor.l0 k y l ((m + 1 : Nat) : Int)) r) → (∀ v, keptG y l[m] = some v → r = v) → Ev (fun k => boarderref13_KeptFor.l0 k y l (m : Int)) r := by
    intro m hm r h1 h2
    have h20 := (hS _ (List.getElem_mem hm)).2.1
    have eN : rd_T57 l (m : Int) = l[m] := rd_get hm
    refine Ev.step (f := fun k => boarderref13_KeptFor.l1 k y l (m : Int) 0) (fun k => ?_) (loopF l[m].f3 (fun r => if r.f0.toList = y.toList then some (r.f1, true) else none) (L := fun k i => boarderref13_KeptFor.l1 k y l (m : Int) i) (fun i hi v hv => ?_) (fun i hi hv r h3 => ?_) (fun h3 => ?_) h2)
    · show boarderref13_KeptFor.l0 (k + 1) _ _ _ = _
      rw [boarderref13_KeptFor.l0, if_pos (by omega)]
    · by_cases c : l[m].f3[i].f0.toList = y.toList
      · rw [if_pos c] at hv
        obtain rfl := Option.some.inj hv
        refine Ev.step (f := fun _ => some (l[m].f3[i].f1, true)) (fun k => ?_) Ev.some'
        show boarderref13_KeptFor.l1 (k + 1) _ _ _ _ = _
        rw [boarderref13_KeptFor.l1, if_pos (by omega), if_pos (by omega), eN, if_pos (by omega), if_pos (by omega), show rd_T59 l[m].f3 (i : Int) = l[m].f3[i] from rd_get hi, if_pos c]
      · rw [if_neg c] at hv; cases hv
    · by_cases c : l[m].f3[i].f0.toList = y.toList
      · rw [if_pos c] at hv; cases hv
      · refine Ev.step (fun k => ?_) h3
        show boarderref13_KeptFor.l1 (k + 1) _ _ _ _ = _
        rw [boarderref13_KeptFor.l1, if_pos (by omega), if_pos (by omega), eN, if_pos (by omega), if_pos (by omega), show rd_T59 l[m].f3 (i : Int) = l[m].f3[i] from rd_get hi, if_neg c, wrap_next hi (by omega)]
    · refine Ev.step (fun k => ?_) (h1 h3)
      show boarderref13_KeptFor.l1 (k + 1) _ _ _ _ = _
      rw [boarderref13_KeptFor.l1, if_pos (by omega), if_pos (by omega), eN, if_neg (by omega), wrap_next hm (by omega)]
  refine loopF l (keptG y) (L := fun k i => boarderref13_KeptFor.l0 k y l i) (fun i hi v hv => E i hi v (fun h => by rw [h] at hv; cases hv) (fun u hu => by rw [hu] at hv; exact (Option.some.inj hv).symm)) (fun i hi hv r h3 => E i hi r (fun _ => h3) (fun u hu => by rw [hv] at hu; cases hu)) (fun h3 => ?_) (fun v hv => getD_some hv)
  rw [getD_none h3]
  refine Ev.step (f := fun _ => some (0, false)) (fun k => ?_) Ev.some'
  show boarderref13_KeptFor.l0 (k + 1) _ _ _ = _
  rw [boarderref13_KeptFor.l0, if_neg (by omega)]
theorem boarderref13_KeptFor_s (a b : Int) (nets : List Nt) (h : Sm nets) (n : Int) (y : ByteArray) : Ev (fun k => boarderref13_KeptFor.f k a b nets n y) (keptL a b nets n y) := by
  refine Ev.bind (boarderref13_Check_s a b nets h) (f := fun k t => if t = 0 then (if n < 0 then boarderref13_KeptFor.j0 k n y true a b nets else boarderref13_KeptFor.j0 k n y (decide (n ≥ (nets.length : Int))) a b nets) else boarderref13_KeptFor.j0 k n y true a b nets) ?_
  have J : Ev (fun k => boarderref13_KeptFor.j0 k n y true a b nets) (0, false) := Ev.step (f := fun _ => some (0, false)) (fun k => by show boarderref13_KeptFor.j0 (k + 1) _ _ _ _ _ _ = _; rw [boarderref13_KeptFor.j0, if_pos rfl]) Ev.some'
  unfold keptL rightL
  by_cases c : checkI a b nets = 0
  · rw [if_pos c]
    refine Ev.pos c ?_
    unfold spotsL
    rw [spots_find n (keptG y) nets 0]
    by_cases c1 : n < 0
    · rw [if_neg (by omega)]; exact Ev.pos c1 J
    · refine Ev.neg c1 ?_
      by_cases c2 : n ≥ (nets.length : Int)
      · rw [if_neg (by omega), decide_eq_true c2]; exact J
      · rw [if_pos (by omega), decide_eq_false c2]
        obtain ⟨m, rfl⟩ := Int.eq_ofNat_of_zero_le (Int.not_lt.1 c1)
        have hm : m < nets.length := by have := Int.not_le.1 c2; omega
        have e1 : (nets.getD ((m : Int) - ((0 : Nat) : Int)).toNat ⟨[]⟩) = nets[m] := by
          rw [show ((m : Int) - ((0 : Nat) : Int)).toNat = m by omega, List.getD_eq_getElem?_getD, List.getElem?_eq_getElem hm]; rfl
        rw [e1]
        refine Ev.step (fun k => ?_) (boarderref13_KeptFor_l0 nets[m].f0 (by have := (h.2 _ (List.getElem_mem hm)).1; omega) (h.2 _ (List.getElem_mem hm)).2 y)
        show boarderref13_KeptFor.j0 (k + 1) _ _ _ _ _ _ = _
        rw [boarderref13_KeptFor.j0, if_neg (by simp), if_pos (by omega), if_pos (by omega), show rd_T41 nets (m : Int) = nets[m] from rd_get hm]
  · rw [if_neg c]; exact Ev.neg c J

/-! ### boarderref13.Keeper -/
theorem boarderref13_Keeper_l0 (l : List Sb) (hl : l.length ≤ 1000) (hS : ∀ s ∈ l, SmS s) (x : Int) : Ev (fun k => boarderref13_Keeper.l0 k x l 0) ((l.findSome? (keepG x)).getD (⟨#[]⟩, false)) := by
  have E : ∀ m (hm : m < l.length) (r : ByteArray × Bool), (keepG x l[m] = none → Ev (fun k => boarderref13_Keeper.l0 k x l ((m + 1 : Nat) : Int)) r) → (∀ v, keepG x l[m] = some v → r = v) → Ev (fun k => boarderref13_Keeper.l0 k x l (m : Int)) r := by
    intro m hm r h1 h2
    have h20 := (hS _ (List.getElem_mem hm)).2.1
    have eN : rd_T57 l (m : Int) = l[m] := rd_get hm
    refine Ev.step (f := fun k => boarderref13_Keeper.l1 k x l (m : Int) 0) (fun k => ?_) (loopF l[m].f3 (fun r => if r.f1 = x then some (r.f0, true) else none) (L := fun k i => boarderref13_Keeper.l1 k x l (m : Int) i) (fun i hi v hv => ?_) (fun i hi hv r h3 => ?_) (fun h3 => ?_) h2)
    · show boarderref13_Keeper.l0 (k + 1) _ _ _ = _
      rw [boarderref13_Keeper.l0, if_pos (by omega)]
    · by_cases c : l[m].f3[i].f1 = x
      · rw [if_pos c] at hv
        obtain rfl := Option.some.inj hv
        refine Ev.step (f := fun _ => some (l[m].f3[i].f0, true)) (fun k => ?_) Ev.some'
        show boarderref13_Keeper.l1 (k + 1) _ _ _ _ = _
        rw [boarderref13_Keeper.l1, if_pos (by omega), if_pos (by omega), eN, if_pos (by omega), if_pos (by omega), show rd_T59 l[m].f3 (i : Int) = l[m].f3[i] from rd_get hi, if_pos c]
      · rw [if_neg c] at hv; cases hv
    · by_cases c : l[m].f3[i].f1 = x
      · rw [if_pos c] at hv; cases hv
      · refine Ev.step (fun k => ?_) h3
        show boarderref13_Keeper.l1 (k + 1) _ _ _ _ = _
        rw [boarderref13_Keeper.l1, if_pos (by omega), if_pos (by omega), eN, if_pos (by omega), if_pos (by omega), show rd_T59 l[m].f3 (i : Int) = l[m].f3[i] from rd_get hi, if_neg c, wrap_next hi (by omega)]
    · refine Ev.step (fun k => ?_) (h1 h3)
      show boarderref13_Keeper.l1 (k + 1) _ _ _ _ = _
      rw [boarderref13_Keeper.l1, if_pos (by omega), if_pos (by omega), eN, if_neg (by omega), wrap_next hm (by omega)]
  refine loopF l (keepG x) (L := fun k i => boarderref13_Keeper.l0 k x l i) (fun i hi v hv => E i hi v (fun h => by rw [h] at hv; cases hv) (fun u hu => by rw [hu] at hv; exact (Option.some.inj hv).symm)) (fun i hi hv r h3 => E i hi r (fun _ => h3) (fun u hu => by rw [hv] at hu; cases hu)) (fun h3 => ?_) (fun v hv => getD_some hv)
  rw [getD_none h3]
  refine Ev.step (f := fun _ => some (⟨#[]⟩, false)) (fun k => ?_) Ev.some'
  show boarderref13_Keeper.l0 (k + 1) _ _ _ = _
  rw [boarderref13_Keeper.l0, if_neg (by omega)]
theorem boarderref13_Keeper_s (a b : Int) (nets : List Nt) (h : Sm nets) (x : Int) : Ev (fun k => boarderref13_Keeper.f k a b nets x) (keepL a b nets x) := by
  refine Ev.bind (boarderref13_Check_s a b nets h) (f := fun k t => if t = 0 then ((boarderref13_Flat.f k a b nets).bind fun bt355 => (boarderref13_Keeper.l0 k x bt355.1 0)) else some ((⟨#[]⟩ : ByteArray), false)) ?_
  unfold keepL rightL
  by_cases c : checkI a b nets = 0
  · rw [if_pos c]
    have hN : (spotsL nets).length ≤ 1000 := by have := spots_len (n := 0) (fun x hx => (h.2 x hx).1); have := h.1; unfold spotsL; omega
    have hS : ∀ x ∈ spotsL nets, SmS x.f2 := (spots_all (F := SmS)).2 (fun n hn s hs => (h.2 n hn).2 s hs)
    have e := boarderref13_Keeper_l0 ((spotsL nets).map (·.f2)) (by rw [List.length_map]; exact hN) (fun s hs => by obtain ⟨y, hy, rfl⟩ := List.mem_map.1 hs; exact hS y hy) x
    rw [List.findSome?_map] at e
    exact Ev.pos c (Ev.bind (boarderref13_Flat_s a b nets h) (f := fun k t => boarderref13_Keeper.l0 k x t.1 0) e)
  · rw [if_neg c]; exact Ev.neg c Ev.some'

/-! ### boarderref13.InPool -/
theorem boarderref13_InPool_l0 (l : List Sb) (hl : l.length ≤ 1000) (hS : ∀ s ∈ l, SmS s) (y : Int) : Ev (fun k => boarderref13_InPool.l0 k y l 0) ((l.findSome? (poolG y)).getD false) := by
  have E : ∀ m (hm : m < l.length) (r : Bool), (poolG y l[m] = none → Ev (fun k => boarderref13_InPool.l0 k y l ((m + 1 : Nat) : Int)) r) → (∀ v, poolG y l[m] = some v → r = v) → Ev (fun k => boarderref13_InPool.l0 k y l (m : Int)) r := by
    intro m hm r h1 h2
    have h20 := (hS _ (List.getElem_mem hm)).1
    have eN : rd_T57 l (m : Int) = l[m] := rd_get hm
    refine Ev.step (f := fun k => boarderref13_InPool.l1 k y l (m : Int) 0) (fun k => ?_) (loopF l[m].f2 (fun p => if p.f0 ≤ y ∧ y ≤ p.f1 then some true else none) (L := fun k i => boarderref13_InPool.l1 k y l (m : Int) i) (fun i hi v hv => ?_) (fun i hi hv r h3 => ?_) (fun h3 => ?_) h2)
    · show boarderref13_InPool.l0 (k + 1) _ _ _ = _
      rw [boarderref13_InPool.l0, if_pos (by omega)]
    · by_cases c : l[m].f2[i].f0 ≤ y ∧ y ≤ l[m].f2[i].f1
      · rw [if_pos c] at hv
        obtain rfl := Option.some.inj hv
        refine Ev.step (f := fun _ => some true) (fun k => ?_) Ev.some'
        show boarderref13_InPool.l1 (k + 1) _ _ _ _ = _
        rw [boarderref13_InPool.l1, if_pos (by omega), if_pos (by omega), eN, if_pos (by omega), if_pos (by omega), show rd_T62 l[m].f2 (i : Int) = l[m].f2[i] from rd_get hi, if_pos c.1, if_pos c.2]
      · rw [if_neg c] at hv; cases hv
    · by_cases c : l[m].f2[i].f0 ≤ y ∧ y ≤ l[m].f2[i].f1
      · rw [if_pos c] at hv; cases hv
      · refine Ev.step (f := fun k => if y ≥ l[m].f2[i].f0 then (if y ≤ l[m].f2[i].f1 then some true else boarderref13_InPool.l1 k y l (m : Int) ((i + 1 : Nat) : Int)) else boarderref13_InPool.l1 k y l (m : Int) ((i + 1 : Nat) : Int)) (fun k => ?_) ?_
        · show boarderref13_InPool.l1 (k + 1) _ _ _ _ = _
          rw [boarderref13_InPool.l1, if_pos (by omega), if_pos (by omega), eN, if_pos (by omega), if_pos (by omega), show rd_T62 l[m].f2 (i : Int) = l[m].f2[i] from rd_get hi, wrap_next hi (by omega)]
        · by_cases c1 : y ≥ l[m].f2[i].f0
          · exact Ev.pos c1 (Ev.neg (fun h => c ⟨c1, h⟩) h3)
          · exact Ev.neg c1 h3
    · refine Ev.step (fun k => ?_) (h1 h3)
      show boarderref13_InPool.l1 (k + 1) _ _ _ _ = _
      rw [boarderref13_InPool.l1, if_pos (by omega), if_pos (by omega), eN, if_neg (by omega), wrap_next hm (by omega)]
  refine loopF l (poolG y) (L := fun k i => boarderref13_InPool.l0 k y l i) (fun i hi v hv => E i hi v (fun h => by rw [h] at hv; cases hv) (fun u hu => by rw [hu] at hv; exact (Option.some.inj hv).symm)) (fun i hi hv r h3 => E i hi r (fun _ => h3) (fun u hu => by rw [hv] at hu; cases hu)) (fun h3 => ?_) (fun v hv => getD_some hv)
  rw [getD_none h3]
  refine Ev.step (f := fun _ => some false) (fun k => ?_) Ev.some'
  show boarderref13_InPool.l0 (k + 1) _ _ _ = _
  rw [boarderref13_InPool.l0, if_neg (by omega)]
theorem boarderref13_InPool_s (a b : Int) (nets : List Nt) (h : Sm nets) (n y : Int) : Ev (fun k => boarderref13_InPool.f k a b nets n y) (poolL a b nets n y) := by
  refine Ev.bind (boarderref13_Check_s a b nets h) (f := fun k t => if t = 0 then (if n < 0 then boarderref13_InPool.j0 k n y true a b nets else boarderref13_InPool.j0 k n y (decide (n ≥ (nets.length : Int))) a b nets) else boarderref13_InPool.j0 k n y true a b nets) ?_
  have J : Ev (fun k => boarderref13_InPool.j0 k n y true a b nets) false := Ev.step (f := fun _ => some false) (fun k => by show boarderref13_InPool.j0 (k + 1) _ _ _ _ _ _ = _; rw [boarderref13_InPool.j0, if_pos rfl]) Ev.some'
  unfold poolL rightL
  by_cases c : checkI a b nets = 0
  · rw [if_pos c]
    refine Ev.pos c ?_
    unfold spotsL
    rw [spots_find n (poolG y) nets 0]
    by_cases c1 : n < 0
    · rw [if_neg (by omega)]; exact Ev.pos c1 J
    · refine Ev.neg c1 ?_
      by_cases c2 : n ≥ (nets.length : Int)
      · rw [if_neg (by omega), decide_eq_true c2]; exact J
      · rw [if_pos (by omega), decide_eq_false c2]
        obtain ⟨m, rfl⟩ := Int.eq_ofNat_of_zero_le (Int.not_lt.1 c1)
        have hm : m < nets.length := by have := Int.not_le.1 c2; omega
        have e1 : (nets.getD ((m : Int) - ((0 : Nat) : Int)).toNat ⟨[]⟩) = nets[m] := by
          rw [show ((m : Int) - ((0 : Nat) : Int)).toNat = m by omega, List.getD_eq_getElem?_getD, List.getElem?_eq_getElem hm]; rfl
        rw [e1]
        refine Ev.step (fun k => ?_) (boarderref13_InPool_l0 nets[m].f0 (by have := (h.2 _ (List.getElem_mem hm)).1; omega) (h.2 _ (List.getElem_mem hm)).2 y)
        show boarderref13_InPool.j0 (k + 1) _ _ _ _ _ _ = _
        rw [boarderref13_InPool.j0, if_neg (by simp), if_pos (by omega), if_pos (by omega), show rd_T41 nets (m : Int) = nets[m] from rd_get hm]
  · rw [if_neg c]; exact Ev.neg c J

end Go.Proofs.Ytdcabfonjmeajaa.PConf

namespace Go.Proofs.Ytdcabfonjmeajaa.Pure
open Go.RowKit Go.Proofs.YtdcabfonjmeajaaW.PrintWords Go.Proofs.YtdcabfonjmeajaaW.PrintLast Go.Proofs.YtdcabfonjmeajaaW.PrintMore Go.Proofs.Ytdcabfonjmeajaa.PConf

open Classical in
theorem ConfKeeps : boarderlaw13_ConfKeeps.Pure := by
  intro a b nets n x y _ _ _ _
  have hk : Ev (fun k => (boarderlaw13_knows.f k).bind fun t => some t) true := Ev.bind boarderlaw13_knows_s (f := fun _ t => some t) Ev.some'
  have J : ∀ c : Bool, (c = false → Sm nets) → Ev (fun k => boarderlaw13_ConfKeeps.j0 k n x y c a b nets) true := by
    intro c hc
    cases c with
    | true => exact Ev.step (fun k => by show boarderlaw13_ConfKeeps.j0 (k + 1) _ _ _ _ _ _ _ = _; rw [boarderlaw13_ConfKeeps.j0, if_pos rfl]) hk
    | false =>
      have h := hc rfl
      refine Ev.step (fun k => by show boarderlaw13_ConfKeeps.j0 (k + 1) _ _ _ _ _ _ _ = _; rw [boarderlaw13_ConfKeeps.j0, if_neg (by simp)]) ?_
      refine Ev.bind (conf_KeptFor_s a b nets h n y) (f := fun k bt377 => ((boarderref13_KeptFor.f k a b nets n y).bind fun bt379 => ((conf_Keeper.f k a b nets x).bind fun bt381 => ((boarderref13_Keeper.f k a b nets x).bind fun bt383 => (if bt377.1 = bt379.1 then (if (bt377.2 == bt379.2) = true then (if bt381.1.toList = bt383.1.toList then (if (bt381.2 == bt383.2) = true then ((conf_InPool.f k a b nets n x).bind fun t385 => ((boarderref13_InPool.f k a b nets n x).bind fun t386 => (if (t385 == t386) = true then ((boarderlaw13_knows.f k).bind fun t387 => (some t387)) else (none)))) else (none)) else (none)) else (none)) else (none)))))) ?_
      refine Ev.bind (boarderref13_KeptFor_s a b nets h n y) (f := fun k bt379 => ((conf_Keeper.f k a b nets x).bind fun bt381 => ((boarderref13_Keeper.f k a b nets x).bind fun bt383 => (if (keptL a b nets n y).1 = bt379.1 then (if ((keptL a b nets n y).2 == bt379.2) = true then (if bt381.1.toList = bt383.1.toList then (if (bt381.2 == bt383.2) = true then ((conf_InPool.f k a b nets n x).bind fun t385 => ((boarderref13_InPool.f k a b nets n x).bind fun t386 => (if (t385 == t386) = true then ((boarderlaw13_knows.f k).bind fun t387 => (some t387)) else (none)))) else (none)) else (none)) else (none)) else (none))))) ?_
      refine Ev.bind (conf_Keeper_s a b nets h x) (f := fun k bt381 => ((boarderref13_Keeper.f k a b nets x).bind fun bt383 => (if (keptL a b nets n y).1 = (keptL a b nets n y).1 then (if ((keptL a b nets n y).2 == (keptL a b nets n y).2) = true then (if bt381.1.toList = bt383.1.toList then (if (bt381.2 == bt383.2) = true then ((conf_InPool.f k a b nets n x).bind fun t385 => ((boarderref13_InPool.f k a b nets n x).bind fun t386 => (if (t385 == t386) = true then ((boarderlaw13_knows.f k).bind fun t387 => (some t387)) else (none)))) else (none)) else (none)) else (none)) else (none)))) ?_
      refine Ev.bind (boarderref13_Keeper_s a b nets h x) (f := fun k bt383 => (if (keptL a b nets n y).1 = (keptL a b nets n y).1 then (if ((keptL a b nets n y).2 == (keptL a b nets n y).2) = true then (if (keepL a b nets x).1.toList = bt383.1.toList then (if ((keepL a b nets x).2 == bt383.2) = true then ((conf_InPool.f k a b nets n x).bind fun t385 => ((boarderref13_InPool.f k a b nets n x).bind fun t386 => (if (t385 == t386) = true then ((boarderlaw13_knows.f k).bind fun t387 => (some t387)) else (none)))) else (none)) else (none)) else (none)) else (none))) ?_
      refine Ev.pos rfl (Ev.pos (by simp) (Ev.pos rfl (Ev.pos (by simp) ?_)))
      refine Ev.bind (conf_InPool_s a b nets h n x) (f := fun k t385 => ((boarderref13_InPool.f k a b nets n x).bind fun t386 => (if (t385 == t386) = true then ((boarderlaw13_knows.f k).bind fun t387 => (some t387)) else (none)))) ?_
      exact Ev.bind (boarderref13_InPool_s a b nets h n x) (f := fun k t386 => (if (poolL a b nets n x == t386) = true then ((boarderlaw13_knows.f k).bind fun t387 => (some t387)) else (none))) (Ev.pos (by simp) hk)
  refine Ev.rounds (Ev.bind (boarderlaw13_Great_s a b nets) (f := fun k t375 => (if t375 = true then (boarderlaw13_ConfKeeps.j0 k n x y true a b nets) else (boarderlaw13_ConfKeeps.j0 k n x y (decide ((y.size : Int) > 1000)) a b nets))) ?_)
  by_cases h : Sm nets
  · exact Ev.neg (by rw [decide_eq_true_iff]; exact fun h2 => h2 h) (J _ (fun _ => h))
  · exact Ev.pos (by rw [decide_eq_true_iff]; exact h) (J true (fun h => by cases h))

end Go.Proofs.Ytdcabfonjmeajaa.Pure
