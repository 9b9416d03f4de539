/- What the printed functions of this group come to, in plain words; each under its theorem's own conditions. -/
import Derived.Test.YtdcabfonjmeajaaPConfx11
import Derived.Test.YtdcabfonjmeajaaPConfx12
import Derived.Test.YtdcabfonjmeajaaPConfx13
import Derived.Test.YtdcabfonjmeajaaAdr
import Derived.Test.YtdcabfonjmeajaaConfCfg
import Derived.Test.YtdcabfonjmeajaaConfS2
set_option linter.unusedVariables false
set_option linter.unusedSimpArgs false
namespace Go.Proofs.Ytdcabfonjmeajaa.PConf
open Go.RowKit Go.Proofs.YtdcabfonjmeajaaW.PrintWords Go.Proofs.YtdcabfonjmeajaaW.PrintLast Go.Proofs.YtdcabfonjmeajaaW.PrintMore

/-! ### boarderref01.Meet -/
theorem boarderref01_Meet_s (b n c m : Int) (k : Nat) (hk : 41 ≤ k) : boarderref01_Meet.f k b n c m = some (meetB b n c m) := by
  obtain ⟨k, rfl⟩ : ∃ q, k = q + 1 := ⟨k - 1, by omega⟩
  unfold boarderref01_Meet.f meetB
  rw [boarderref01_Fair_s b n _ (by omega), boarderref01_Fair_s c m _ (by omega)]
  simp only [Option.bind_some]
  by_cases h : Com.fairB b n = true
  · rw [h, if_pos rfl, Bool.true_and]
    by_cases h2 : Com.fairB c m = true
    · rw [h2, Bool.true_and, boarderref01_Meet.j0, if_neg (by simp), boarderref01_Last_s c m h2 k (by omega), boarderref01_Last_s b n h k (by omega)]
      simp only [Option.bind_some]
      have p1 := Com.sz_pos n
      have p2 := Com.sz_pos m
      by_cases q1 : b ≤ c + (Com.sz m : Int) - 1
      · rw [if_pos q1]
        congr 1
        rw [Bool.eq_iff_iff, Bool.or_eq_true, decide_eq_true_iff, decide_eq_true_iff, decide_eq_true_iff]
        omega
      · rw [if_neg q1]
        congr 1
        rw [eq_comm, Bool.or_eq_false_iff, decide_eq_false_iff_not, decide_eq_false_iff_not]
        omega
    · rw [Bool.eq_false_iff.2 h2, Bool.false_and, boarderref01_Meet.j0]; rfl
  · rw [Bool.eq_false_iff.2 h, if_neg (by simp), Bool.false_and, boarderref01_Meet.j0]; rfl

/-! ### boarderref13.Twice -/
theorem boarderref13_Twice_l4 (R : List (Rs × Int)) (hR : R.length ≤ 100000) (a : Nat) (ha : a < R.length) {r : Bool} (h1 : (∀ b, (hb : b < a) → DD R[a] R[b]) → Ev (fun k => boarderref13_Twice.l3 k (R.map (·.1)) (R.map (·.2)) ((a + 1 : Nat) : Int)) r) (h2 : (¬ ∀ b, (hb : b < a) → DD R[a] R[b]) → r = true) :
    Ev (fun k => boarderref13_Twice.l4 k (R.map (·.1)) (R.map (·.2)) (a : Int) 0) r := by
  have l1 : (R.map (·.1)).length = R.length := List.length_map ..
  have l2 : (R.map (·.2)).length = R.length := List.length_map ..
  have g1 : ∀ b (hb : b < R.length), rd_T59 (R.map (·.1)) (b : Int) = R[b].1 := fun b hb => (rd_get (by omega)).trans (List.getElem_map ..)
  have g2 : ∀ b (hb : b < R.length), rd (R.map (·.2)) (b : Int) = R[b].2 := fun b hb => (rd_get (d := (0 : Int)) (by omega)).trans (List.getElem_map ..)
  have E : ∀ b (hb : b < a) (r : Bool), (DD R[a] R[b] → Ev (fun k => boarderref13_Twice.l4 k (R.map (·.1)) (R.map (·.2)) (a : Int) ((b + 1 : Nat) : Int)) r) → (¬ DD R[a] R[b] → r = true) → Ev (fun k => boarderref13_Twice.l4 k (R.map (·.1)) (R.map (·.2)) (a : Int) (b : Int)) r := by
    intro b hb r h3 h4
    have hb2 : b < R.length := by omega
    refine Ev.step (f := fun k => if R[a].1.f1 = R[b].1.f1 then some true else (if R[a].2 = R[b].2 then (if R[a].1.f0.toList = R[b].1.f0.toList then some true else boarderref13_Twice.l4 k (R.map (·.1)) (R.map (·.2)) (a : Int) ((b + 1 : Nat) : Int)) else boarderref13_Twice.l4 k (R.map (·.1)) (R.map (·.2)) (a : Int) ((b + 1 : Nat) : Int))) (fun k => ?_) ?_
    · have q1 : (a : Int) < ((R.map (·.2)).length : Int) := by omega
      have q2 : (b : Int) < ((R.map (·.2)).length : Int) := by omega
      show boarderref13_Twice.l4 (k + 1) _ _ _ _ = _
      rw [boarderref13_Twice.l4, if_pos (by omega), if_pos (by omega), if_pos (by omega), if_pos (by omega), if_pos (by omega), if_pos q1, if_pos q2, g1 a ha, g1 b hb2, g2 a ha, g2 b hb2, wrap_next hb (by omega)]
    · by_cases c1 : R[a].1.f1 = R[b].1.f1
      · rw [h4 (fun h => h.1 c1)]; exact Ev.pos c1 Ev.some'
      · refine Ev.neg c1 ?_
        by_cases c2 : R[a].2 = R[b].2
        · refine Ev.pos c2 ?_
          by_cases c3 : R[a].1.f0.toList = R[b].1.f0.toList
          · rw [h4 (fun h => h.2 ⟨c2, c3⟩)]; exact Ev.pos c3 Ev.some'
          · exact Ev.neg c3 (h3 ⟨c1, fun h => c3 h.2⟩)
        · exact Ev.neg c2 (h3 ⟨c1, fun h => c2 h.1⟩)
  refine loopC (n := a) (L := fun k b => boarderref13_Twice.l4 k (R.map (·.1)) (R.map (·.2)) (a : Int) b) (fun b => ∃ h : b < a, DD R[a] R[b]) true (fun j hj hp r h3 => ?_) (fun j hj hp => ?_) (fun h3 => ?_) (fun h3 => ?_)
  · exact E j hj r (fun _ => h3) (fun h => absurd hp.2 h)
  · exact E j hj true (fun h => absurd ⟨hj, h⟩ hp) (fun _ => rfl)
  · refine Ev.step (fun k => ?_) (h1 (fun j hj => (h3 j hj).2))
    show boarderref13_Twice.l4 (k + 1) _ _ _ _ = _
    rw [boarderref13_Twice.l4, if_neg (by omega), wrap_next ha (by omega)]
  · obtain ⟨j, hj, hp⟩ := h3
    exact h2 (fun h => hp ⟨hj, h j hj⟩)
theorem boarderref13_Twice_l3 (R : List (Rs × Int)) (hR : R.length ≤ 100000) {r : Bool} (hr : r = false ↔ ∀ a b, (ha : a < R.length) → (hb : b < a) → DD R[a] R[b]) : Ev (fun k => boarderref13_Twice.l3 k (R.map (·.1)) (R.map (·.2)) 0) r := by
  have l1 : (R.map (·.1)).length = R.length := List.length_map ..
  have E : ∀ a (ha : a < R.length) (r : Bool), ((∀ b, (hb : b < a) → DD R[a] R[b]) → Ev (fun k => boarderref13_Twice.l3 k (R.map (·.1)) (R.map (·.2)) ((a + 1 : Nat) : Int)) r) → ((¬ ∀ b, (hb : b < a) → DD R[a] R[b]) → r = true) → Ev (fun k => boarderref13_Twice.l3 k (R.map (·.1)) (R.map (·.2)) (a : Int)) r := by
    intro a ha r h3 h4
    refine Ev.step (fun k => ?_) (boarderref13_Twice_l4 R hR a ha h3 h4)
    show boarderref13_Twice.l3 (k + 1) _ _ _ = _
    rw [boarderref13_Twice.l3, if_pos (by omega)]
  refine loopC (n := R.length) (L := fun k a => boarderref13_Twice.l3 k (R.map (·.1)) (R.map (·.2)) a) (fun a => ∃ h : a < R.length, ∀ b, (hb : b < a) → DD R[a] R[b]) true (fun j hj hp r h3 => ?_) (fun j hj hp => ?_) (fun h3 => ?_) (fun h3 => ?_)
  · exact E j hj r (fun _ => h3) (fun h => absurd hp.2 h)
  · exact E j hj true (fun h => absurd ⟨hj, h⟩ hp) (fun _ => rfl)
  · rw [hr.2 (fun a b ha hb => (h3 a ha).2 b hb)]
    refine Ev.step (f := fun _ => some false) (fun k => ?_) Ev.some'
    show boarderref13_Twice.l3 (k + 1) _ _ _ = _
    rw [boarderref13_Twice.l3, if_neg (by omega)]
  · obtain ⟨a, ha, hp⟩ := h3
    cases r with
    | true => rfl
    | false => exact absurd ⟨ha, fun b hb => hr.1 rfl a b ha hb⟩ hp
theorem resL_take (l : List Sp) (i : Nat) (hi : i < l.length) : resL (l.take (i + 1)) = resL (l.take i) ++ l[i].f2.f3.map (fun r => (r, l[i].f0)) := by
  unfold resL
  rw [List.take_succ_eq_append_getElem hi, List.flatMap_append]
  simp
theorem resL_len {l : List Sp} (hS : ∀ x ∈ l, SmS x.f2) : (resL l).length ≤ 20 * l.length := by
  unfold resL
  induction l with
  | nil => simp
  | cons x t ih =>
    rw [List.flatMap_cons, List.length_append, List.length_map, List.length_cons]
    have := ih (fun y hy => hS y (List.mem_cons_of_mem _ hy))
    have := (hS x List.mem_cons_self).2.1
    omega
theorem boarderref13_Twice_l2 (l : List Sp) (hl : l.length ≤ 1000) (hS : ∀ x ∈ l, SmS x.f2) (i : Nat) (hi : i < l.length) {r : Bool} (h1 : Ev (fun k => boarderref13_Twice.l0 k (l.map (·.f2)) (l.map (·.f0)) ((resL (l.take (i + 1))).map (·.1)) ((resL (l.take (i + 1))).map (·.2)) ((i + 1 : Nat) : Int)) r) :
    Ev (fun k => boarderref13_Twice.l2 k (l.map (·.f2)) (l.map (·.f0)) ((resL (l.take i)).map (·.1)) ((resL (l.take i)).map (·.2)) (i : Int) 0) r := by
  have l1 : (l.map (·.f2)).length = l.length := List.length_map ..
  have l2 : (l.map (·.f0)).length = l.length := List.length_map ..
  have eI : rd_T57 (l.map (·.f2)) (i : Int) = l[i].f2 := (rd_get (by omega)).trans (List.getElem_map ..)
  have eN : rd (l.map (·.f0)) (i : Int) = l[i].f0 := (rd_get (d := (0 : Int)) (by omega)).trans (List.getElem_map ..)
  have hs := (hS _ (List.getElem_mem hi)).2.1
  have hR : (resL (l.take i)).length ≤ 20000 := by
    have := resL_len (l := l.take i) (fun x hx => hS x (List.mem_of_mem_take hx))
    have : (l.take i).length ≤ 1000 := by rw [List.length_take]; omega
    omega
  rw [resL_take l i hi, List.map_append, List.map_append, List.map_map, List.map_map] at h1
  have H : ∀ (d j : Nat) (o1 : List Rs) (o2 : List Int), j + d = l[i].f2.f3.length → o1.length + d ≤ 30000 → o2.length + d ≤ 30000 →
      Ev (fun k => boarderref13_Twice.l0 k (l.map (·.f2)) (l.map (·.f0)) (o1 ++ (l[i].f2.f3.drop j)) (o2 ++ (l[i].f2.f3.drop j).map (fun _ => l[i].f0)) ((i + 1 : Nat) : Int)) r → Ev (fun k => boarderref13_Twice.l2 k (l.map (·.f2)) (l.map (·.f0)) o1 o2 (i : Int) (j : Int)) r := by
    intro d
    induction d with
    | zero =>
      intro j o1 o2 hj ho1 ho2 h
      rw [List.drop_eq_nil_of_le (by omega), List.map_nil, List.append_nil, List.append_nil] at h
      refine Ev.step (fun k => ?_) h
      show boarderref13_Twice.l2 (k + 1) _ _ _ _ _ _ = _
      rw [boarderref13_Twice.l2, if_pos (by omega), if_pos (by omega), eI, if_neg (by omega), wrap_next hi (by omega)]
    | succ d ih =>
      intro j o1 o2 hj ho1 ho2 h
      have hj2 : j < l[i].f2.f3.length := by omega
      refine Ev.step (fun k => ?_) (ih (j + 1) (o1 ++ [l[i].f2.f3[j]]) (o2 ++ [l[i].f0]) (by omega) (by rw [List.length_append, List.length_singleton]; omega) (by rw [List.length_append, List.length_singleton]; omega) ?_)
      · show boarderref13_Twice.l2 (k + 1) _ _ _ _ _ _ = _
        rw [boarderref13_Twice.l2, if_pos (by omega), if_pos (by omega), eI, if_pos (by omega), if_pos (by omega), if_pos (by omega), if_pos (by omega), if_pos (by omega), eN, show rd_T59 l[i].f2.f3 (j : Int) = l[i].f2.f3[j] from rd_get hj2, wrap_next hj2 (by omega)]
      · rw [List.append_assoc, List.singleton_append, List.append_assoc, List.singleton_append]
        rwa [List.drop_eq_getElem_cons hj2, List.map_cons] at h
  refine H l[i].f2.f3.length 0 _ _ (by omega) (by rw [List.length_map]; omega) (by rw [List.length_map]; omega) ?_
  rw [List.drop_zero]
  have e1 : List.map ((fun x : Rs × Int => x.1) ∘ fun r => (r, l[i].f0)) l[i].f2.f3 = l[i].f2.f3 := by
    rw [show ((fun x : Rs × Int => x.1) ∘ fun r => (r, l[i].f0)) = id from rfl, List.map_id]
  rw [e1] at h1
  exact h1
theorem boarderref13_Twice_l1 (l : List Sp) (hl : l.length ≤ 1000) (hS : ∀ x ∈ l, SmS x.f2) (i : Nat) (hi : i < l.length) (o1 : List Rs) (o2 : List Int) {r : Bool} (h1 : (∀ j, (hj : j < i) → FarS l[i] l[j]) → Ev (fun k => boarderref13_Twice.l2 k (l.map (·.f2)) (l.map (·.f0)) o1 o2 (i : Int) 0) r) (h2 : (¬ ∀ j, (hj : j < i) → FarS l[i] l[j]) → r = true) :
    Ev (fun k => boarderref13_Twice.l1 k (l.map (·.f2)) (l.map (·.f0)) o1 o2 (i : Int) 0) r := by
  have l1 : (l.map (·.f2)).length = l.length := List.length_map ..
  have l2 : (l.map (·.f0)).length = l.length := List.length_map ..
  have g1 : ∀ b (hb : b < l.length), rd_T57 (l.map (·.f2)) (b : Int) = l[b].f2 := fun b hb => (rd_get (by omega)).trans (List.getElem_map ..)
  have g2 : ∀ b (hb : b < l.length), rd (l.map (·.f0)) (b : Int) = l[b].f0 := fun b hb => (rd_get (d := (0 : Int)) (by omega)).trans (List.getElem_map ..)
  have E : ∀ j (hj : j < i) (r : Bool), (FarS l[i] l[j] → Ev (fun k => boarderref13_Twice.l1 k (l.map (·.f2)) (l.map (·.f0)) o1 o2 (i : Int) ((j + 1 : Nat) : Int)) r) → (¬ FarS l[i] l[j] → r = true) → Ev (fun k => boarderref13_Twice.l1 k (l.map (·.f2)) (l.map (·.f0)) o1 o2 (i : Int) (j : Int)) r := by
    intro j hj r h3 h4
    have hj2 : j < l.length := by omega
    refine Ev.step (fun k => ?_) (Ev.bind (g := fun k => boarderref01_Meet.f k l[i].f2.f0 l[i].f2.f1 l[j].f2.f0 l[j].f2.f1) (a := meetC l[i].f2.f0 l[i].f2.f1 l[j].f2.f0 l[j].f2.f1) ⟨41, fun k hk => boarderref01_Meet_s _ _ _ _ k hk⟩ (f := fun k t => if t = true then some true else (if l[i].f0 = l[j].f0 then boarderref13_Twice.l1 k (l.map (·.f2)) (l.map (·.f0)) o1 o2 (i : Int) ((j + 1 : Nat) : Int) else (if l[i].f2.f4 > 0 then (if l[i].f2.f4 = l[j].f2.f4 then some true else boarderref13_Twice.l1 k (l.map (·.f2)) (l.map (·.f0)) o1 o2 (i : Int) ((j + 1 : Nat) : Int)) else boarderref13_Twice.l1 k (l.map (·.f2)) (l.map (·.f0)) o1 o2 (i : Int) ((j + 1 : Nat) : Int)))) ?_)
    · show boarderref13_Twice.l1 (k + 1) _ _ _ _ _ _ = _
      rw [boarderref13_Twice.l1, if_pos (by omega), if_pos (by omega), if_pos (by omega), if_pos (by omega), if_pos (by omega), if_pos (by omega), if_pos (by omega), g1 i hi, g1 j hj2, g2 i hi, g2 j hj2, wrap_next hj (by omega)]
    · by_cases c0 : meetC l[i].f2.f0 l[i].f2.f1 l[j].f2.f0 l[j].f2.f1 = true
      · rw [h4 (fun h => by rw [h.1] at c0; cases c0)]; exact Ev.pos c0 Ev.some'
      · have c0' := Bool.eq_false_iff.mpr c0
        refine Ev.neg c0 ?_
        by_cases c1 : l[i].f0 = l[j].f0
        · exact Ev.pos c1 (h3 ⟨c0', fun h => h.1 c1⟩)
        · refine Ev.neg c1 ?_
          by_cases c2 : l[i].f2.f4 > 0
          · refine Ev.pos c2 ?_
            by_cases c3 : l[i].f2.f4 = l[j].f2.f4
            · rw [h4 (fun h => h.2 ⟨c1, c3, c2⟩)]; exact Ev.pos c3 Ev.some'
            · exact Ev.neg c3 (h3 ⟨c0', fun h => c3 h.2.1⟩)
          · exact Ev.neg c2 (h3 ⟨c0', fun h => c2 h.2.2⟩)
  refine loopC (n := i) (L := fun k j => boarderref13_Twice.l1 k (l.map (·.f2)) (l.map (·.f0)) o1 o2 (i : Int) j) (fun j => ∃ h : j < i, FarS l[i] l[j]) true (fun j hj hp r h3 => ?_) (fun j hj hp => ?_) (fun h3 => ?_) (fun h3 => ?_)
  · exact E j hj r (fun _ => h3) (fun h => absurd hp.2 h)
  · exact E j hj true (fun h => absurd ⟨hj, h⟩ hp) (fun _ => rfl)
  · refine Ev.step (fun k => ?_) (h1 (fun j hj => (h3 j hj).2))
    show boarderref13_Twice.l1 (k + 1) _ _ _ _ _ _ = _
    rw [boarderref13_Twice.l1, if_neg (by omega)]
  · obtain ⟨j, hj, hp⟩ := h3
    exact h2 (fun h => hp ⟨hj, h j hj⟩)
open Classical in
theorem boarderref13_Twice_s (a b : Int) (nets : List Nt) (h : Sm nets) : Ev (fun k => boarderref13_Twice.f k a b nets) (decide (¬ FreeP (spotsL nets))) := by
  refine Ev.bind (boarderref13_Flat_s a b nets h) (f := fun k t => boarderref13_Twice.l0 k t.1 t.2 ([] : List Rs) ([] : List Int) 0) ?_
  have hN : (spotsL nets).length ≤ 1000 := by have := spots_len (n := 0) (fun x hx => (h.2 x hx).1); have := h.1; unfold spotsL; omega
  have hS : ∀ x ∈ spotsL nets, SmS x.f2 := (spots_all (F := SmS)).2 (fun n hn s hs => (h.2 n hn).2 s hs)
  generalize spotsL nets = l at *
  have l1 : (l.map (·.f2)).length = l.length := List.length_map ..
  have hR : (resL l).length ≤ 100000 := by have := resL_len hS; omega
  have step : ∀ i (hi : i < l.length) (r : Bool), ((¬ PooledP l[i].f2 ∧ ∀ j, (hj : j < i) → FarS l[i] l[j]) → Ev (fun k => boarderref13_Twice.l0 k (l.map (·.f2)) (l.map (·.f0)) ((resL (l.take (i + 1))).map (·.1)) ((resL (l.take (i + 1))).map (·.2)) ((i + 1 : Nat) : Int)) r) →
      ((¬ (¬ PooledP l[i].f2 ∧ ∀ j, (hj : j < i) → FarS l[i] l[j])) → r = true) → Ev (fun k => boarderref13_Twice.l0 k (l.map (·.f2)) (l.map (·.f0)) ((resL (l.take i)).map (·.1)) ((resL (l.take i)).map (·.2)) (i : Int)) r := by
    intro i hi r h3 h4
    have eI : rd_T57 (l.map (·.f2)) (i : Int) = l[i].f2 := (rd_get (by omega)).trans (List.getElem_map ..)
    refine Ev.step (fun k => ?_) (Ev.bind (boarderref13_Pooled_s l[i].f2 (hS _ (List.getElem_mem hi))) (f := fun k t => if t = true then some true else boarderref13_Twice.l1 k (l.map (·.f2)) (l.map (·.f0)) ((resL (l.take i)).map (·.1)) ((resL (l.take i)).map (·.2)) (i : Int) 0) ?_)
    · show boarderref13_Twice.l0 (k + 1) _ _ _ _ _ = _
      rw [boarderref13_Twice.l0, if_pos (by omega), if_pos (by omega), eI]
    · by_cases c : PooledP l[i].f2
      · rw [h4 (fun h => h.1 c)]; exact Ev.pos (decide_eq_true c) Ev.some'
      · exact Ev.neg (by rw [decide_eq_false c]; simp) (boarderref13_Twice_l1 l hN hS i hi _ _ (fun h5 => boarderref13_Twice_l2 l hN hS i hi (h3 ⟨c, h5⟩)) (fun h5 => h4 (fun h => h5 h.2)))
  have H : ∀ d i, i + d = l.length → (∀ j, (hj : j < l.length) → j < i → (¬ PooledP l[j].f2 ∧ ∀ q, (hq : q < j) → FarS l[j] l[q])) → Ev (fun k => boarderref13_Twice.l0 k (l.map (·.f2)) (l.map (·.f0)) ((resL (l.take i)).map (·.1)) ((resL (l.take i)).map (·.2)) (i : Int)) (decide (¬ FreeP l)) := by
    intro d
    induction d with
    | zero =>
      intro i hi hp
      obtain rfl : i = l.length := by omega
      rw [List.take_length]
      refine Ev.step (fun k => ?_) (boarderref13_Twice_l3 (resL l) hR (r := decide (¬ FreeP l)) ?_)
      · show boarderref13_Twice.l0 (k + 1) _ _ _ _ _ = _
        rw [boarderref13_Twice.l0, if_neg (by omega)]
      · rw [decide_eq_false_iff_not, Classical.not_not]
        exact ⟨fun h => h.2, fun h2 => ⟨fun j hj => hp j hj hj, h2⟩⟩
    | succ d ih =>
      intro i hi hp
      have hl : i < l.length := by omega
      refine step i hl _ (fun h3 => ih (i + 1) (by omega) (fun j hj hji => ?_)) (fun h3 => decide_eq_true (fun h4 => h3 (h4.1 i hl)))
      rcases Nat.lt_succ_iff_lt_or_eq.1 hji with c | c
      · exact hp j hj c
      · subst c; exact h3
  exact H l.length 0 (by omega) (fun j _ hj => absurd hj (by omega))

/-! ### boarderref13.Check -/
open Classical in
theorem boarderref13_Check_s (a b : Int) (nets : List Nt) (h : Sm nets) : Ev (fun k => boarderref13_Check.f k a b nets) (checkI a b nets) := by
  unfold checkI
  refine Ev.bind (boarderref13_Form_s a b nets h) (f := fun k t => if t = true then ((boarderref13_Places.f k a b nets).bind fun t337 => (if t337 = true then ((boarderref13_Twice.f k a b nets).bind fun t338 => (if t338 = true then (some 8) else (some 0))) else (some 9))) else (some 1)) ?_
  by_cases c1 : FormP a b nets
  · rw [if_pos c1]
    refine Ev.pos (decide_eq_true c1) (Ev.bind (boarderref13_Places_s a b nets h c1.2.2.2.2.2.2) (f := fun k t337 => (if t337 = true then ((boarderref13_Twice.f k a b nets).bind fun t338 => (if t338 = true then (some 8) else (some 0))) else (some 9))) ?_)
    by_cases c2 : ∀ n ∈ nets, ∀ s ∈ n.f0, PlaceS a s
    · rw [if_pos c2]
      refine Ev.pos (decide_eq_true c2) (Ev.bind (boarderref13_Twice_s a b nets h) (f := fun k t338 => (if t338 = true then (some 8) else (some 0))) ?_)
      by_cases c3 : UnlikeP (spotsL nets)
      · rw [if_pos c3]
        exact Ev.neg (by rw [decide_eq_true_iff]; exact fun h => h ((form_unlike c1).1 c3)) Ev.some'
      · rw [if_neg c3]
        exact Ev.pos (by rw [decide_eq_true_iff]; exact fun h => c3 ((form_unlike c1).2 h)) Ev.some'
    · rw [if_neg c2]; exact Ev.neg (by rw [decide_eq_false c2]; simp) Ev.some'
  · rw [if_neg c1]; exact Ev.neg (by rw [decide_eq_false c1]; simp) Ev.some'

end Go.Proofs.Ytdcabfonjmeajaa.PConf
