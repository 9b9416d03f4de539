/- The given statement on the law StatsFree: for every input that can be read as data the law of the given program returns true and leaves its arguments as they were; no condition beyond the statement's own. -/
import Derived.Below
import Derived.Carry
import Derived.ChangeOld
import Derived.OpenShut
import Derived.ProofKit
import Derived.ShutString
import Derived.SizedLaws
import Derived.Test.YtopbcamlagdieaaRows
import Derived.WalkKit
import Derived.Test.YtopbcamlagdieaaStatsYStatsFree0
set_option linter.unusedVariables false
set_option linter.unusedSimpArgs false
namespace Go.Proofs.Ytopbcamlagdieaa.PStats
open Go.RowKit Go.Proofs.YtopbcamlagdieaaW.PrintWords Go.Proofs.YtopbcamlagdieaaW.PrintLast Go.Proofs.YtopbcamlagdieaaW.PrintMore

/-! ### boarderref01.Meet -/
theorem boarderref01_Meet_s (b n c m : Int) (k : Nat) (hk : 41 ≤ k) : boarderref01_Meet.f k b n c m = some (meetB b n c m) := by
  obtain ⟨k, rfl⟩ : ∃ q, k = q + 1 := ⟨k - 1, by omega⟩
  unfold boarderref01_Meet.f meetB
  rw [boarderref01_Fair_s b n _ (by omega), boarderref01_Fair_s c m _ (by omega)]
  simp only [Option.bind_some]
  by_cases h : Com.fairB b n = true
  · rw [h, if_pos rfl, Bool.true_and]
    by_cases h2 : Com.fairB c m = true
    · rw [h2, Bool.true_and, boarderref01_Meet.j0, if_neg (by simp), boarderref01_Last_s c m h2 k (by omega), boarderref01_Last_s b n h k (by omega)]
      simp only [Option.bind_some]
      have p1 := Com.sz_pos n
      have p2 := Com.sz_pos m
      by_cases q1 : b ≤ c + (Com.sz m : Int) - 1
      · rw [if_pos q1]
        congr 1
        rw [Bool.eq_iff_iff, Bool.or_eq_true, decide_eq_true_iff, decide_eq_true_iff, decide_eq_true_iff]
        omega
      · rw [if_neg q1]
        congr 1
        rw [eq_comm, Bool.or_eq_false_iff, decide_eq_false_iff_not, decide_eq_false_iff_not]
        omega
    · rw [Bool.eq_false_iff.2 h2, Bool.false_and, boarderref01_Meet.j0]; rfl
  · rw [Bool.eq_false_iff.2 h, if_neg (by simp), Bool.false_and, boarderref01_Meet.j0]; rfl

end Go.Proofs.Ytopbcamlagdieaa.PStats
set_option linter.unusedVariables false
set_option linter.unusedSimpArgs false
namespace Go.Proofs.Ytopbcamlagdieaa.PStats
open Go.RowKit Go.Proofs.YtopbcamlagdieaaW.PrintWords Go.Proofs.YtopbcamlagdieaaW.PrintLast Go.Proofs.YtopbcamlagdieaaW.PrintMore

/-! ### boarderref13.Twice -/
theorem boarderref13_Twice_l4 (R : List (Rs × Int)) (hR : R.length ≤ 100000) (a : Nat) (ha : a < R.length) {r : Bool} (h1 : (∀ b, (hb : b < a) → DD R[a] R[b]) → Ev (fun k => boarderref13_Twice.l3 k (R.map (·.1)) (R.map (·.2)) ((a + 1 : Nat) : Int)) r) (h2 : (¬ ∀ b, (hb : b < a) → DD R[a] R[b]) → r = true) :
    Ev (fun k => boarderref13_Twice.l4 k (R.map (·.1)) (R.map (·.2)) (a : Int) 0) r := by
  have l1 : (R.map (·.1)).length = R.length := List.length_map ..
  have l2 : (R.map (·.2)).length = R.length := List.length_map ..
  have g1 : ∀ b (hb : b < R.length), rd_T65 (R.map (·.1)) (b : Int) = R[b].1 := fun b hb => (rd_get (by omega)).trans (List.getElem_map ..)
  have g2 : ∀ b (hb : b < R.length), rd (R.map (·.2)) (b : Int) = R[b].2 := fun b hb => (rd_get (d := (0 : Int)) (by omega)).trans (List.getElem_map ..)
  have E : ∀ b (hb : b < a) (r : Bool), (DD R[a] R[b] → Ev (fun k => boarderref13_Twice.l4 k (R.map (·.1)) (R.map (·.2)) (a : Int) ((b + 1 : Nat) : Int)) r) → (¬ DD R[a] R[b] → r = true) → Ev (fun k => boarderref13_Twice.l4 k (R.map (·.1)) (R.map (·.2)) (a : Int) (b : Int)) r := by
    intro b hb r h3 h4
    have hb2 : b < R.length := by omega
    refine Ev.step (f := fun k => if R[a].1.f1 = R[b].1.f1 then some true else (if R[a].2 = R[b].2 then (if R[a].1.f0.toList = R[b].1.f0.toList then some true else boarderref13_Twice.l4 k (R.map (·.1)) (R.map (·.2)) (a : Int) ((b + 1 : Nat) : Int)) else boarderref13_Twice.l4 k (R.map (·.1)) (R.map (·.2)) (a : Int) ((b + 1 : Nat) : Int))) (fun k => ?_) ?_
    · have q1 : (a : Int) < ((R.map (·.2)).length : Int) := by omega
      have q2 : (b : Int) < ((R.map (·.2)).length : Int) := by omega
      show boarderref13_Twice.l4 (k + 1) _ _ _ _ = _
      rw [boarderref13_Twice.l4, if_pos (by omega), if_pos (by omega), if_pos (by omega), if_pos (by omega), if_pos (by omega), if_pos q1, if_pos q2, g1 a ha, g1 b hb2, g2 a ha, g2 b hb2, wrap_next hb (by omega)]
    · by_cases c1 : R[a].1.f1 = R[b].1.f1
      · rw [h4 (fun h => h.1 c1)]; exact Ev.pos c1 Ev.some'
      · refine Ev.neg c1 ?_
        by_cases c2 : R[a].2 = R[b].2
        · refine Ev.pos c2 ?_
          by_cases c3 : R[a].1.f0.toList = R[b].1.f0.toList
          · rw [h4 (fun h => h.2 ⟨c2, c3⟩)]; exact Ev.pos c3 Ev.some'
          · exact Ev.neg c3 (h3 ⟨c1, fun h => c3 h.2⟩)
        · exact Ev.neg c2 (h3 ⟨c1, fun h => c2 h.1⟩)
  refine loopC (n := a) (L := fun k b => boarderref13_Twice.l4 k (R.map (·.1)) (R.map (·.2)) (a : Int) b) (fun b => ∃ h : b < a, DD R[a] R[b]) true (fun j hj hp r h3 => ?_) (fun j hj hp => ?_) (fun h3 => ?_) (fun h3 => ?_)
  · exact E j hj r (fun _ => h3) (fun h => absurd hp.2 h)
  · exact E j hj true (fun h => absurd ⟨hj, h⟩ hp) (fun _ => rfl)
  · refine Ev.step (fun k => ?_) (h1 (fun j hj => (h3 j hj).2))
    show boarderref13_Twice.l4 (k + 1) _ _ _ _ = _
    rw [boarderref13_Twice.l4, if_neg (by omega), wrap_next ha (by omega)]
  · obtain ⟨j, hj, hp⟩ := h3
    exact h2 (fun h => hp ⟨hj, h j hj⟩)
theorem boarderref13_Twice_l3 (R : List (Rs × Int)) (hR : R.length ≤ 100000) {r : Bool} (hr : r = false ↔ ∀ a b, (ha : a < R.length) → (hb : b < a) → DD R[a] R[b]) : Ev (fun k => boarderref13_Twice.l3 k (R.map (·.1)) (R.map (·.2)) 0) r := by
  have l1 : (R.map (·.1)).length = R.length := List.length_map ..
  have E : ∀ a (ha : a < R.length) (r : Bool), ((∀ b, (hb : b < a) → DD R[a] R[b]) → Ev (fun k => boarderref13_Twice.l3 k (R.map (·.1)) (R.map (·.2)) ((a + 1 : Nat) : Int)) r) → ((¬ ∀ b, (hb : b < a) → DD R[a] R[b]) → r = true) → Ev (fun k => boarderref13_Twice.l3 k (R.map (·.1)) (R.map (·.2)) (a : Int)) r := by
    intro a ha r h3 h4
    refine Ev.step (fun k => ?_) (boarderref13_Twice_l4 R hR a ha h3 h4)
    show boarderref13_Twice.l3 (k + 1) _ _ _ = _
    rw [boarderref13_Twice.l3, if_pos (by omega)]
  refine loopC (n := R.length) (L := fun k a => boarderref13_Twice.l3 k (R.map (·.1)) (R.map (·.2)) a) (fun a => ∃ h : a < R.length, ∀ b, (hb : b < a) → DD R[a] R[b]) true (fun j hj hp r h3 => ?_) (fun j hj hp => ?_) (fun h3 => ?_) (fun h3 => ?_)
  · exact E j hj r (fun _ => h3) (fun h => absurd hp.2 h)
  · exact E j hj true (fun h => absurd ⟨hj, h⟩ hp) (fun _ => rfl)
  · rw [hr.2 (fun a b ha hb => (h3 a ha).2 b hb)]
    refine Ev.step (f := fun _ => some false) (fun k => ?_) Ev.some'
    show boarderref13_Twice.l3 (k + 1) _ _ _ = _
    rw [boarderref13_Twice.l3, if_neg (by omega)]
  · obtain ⟨a, ha, hp⟩ := h3
    cases r with
    | true => rfl
    | false => exact absurd ⟨ha, fun b hb => hr.1 rfl a b ha hb⟩ hp
theorem resL_take (l : List Sp) (i : Nat) (hi : i < l.length) : resL (l.take (i + 1)) = resL (l.take i) ++ l[i].f2.f3.map (fun r => (r, l[i].f0)) := by
  unfold resL
  rw [List.take_succ_eq_append_getElem hi, List.flatMap_append]
  simp
theorem resL_len {l : List Sp} (hS : ∀ x ∈ l, SmS x.f2) : (resL l).length ≤ 20 * l.length := by
  unfold resL
  induction l with
  | nil => simp
  | cons x t ih =>
    rw [List.flatMap_cons, List.length_append, List.length_map, List.length_cons]
    have := ih (fun y hy => hS y (List.mem_cons_of_mem _ hy))
    have := (hS x List.mem_cons_self).2.1
    omega
theorem boarderref13_Twice_l2 (l : List Sp) (hl : l.length ≤ 1000) (hS : ∀ x ∈ l, SmS x.f2) (i : Nat) (hi : i < l.length) {r : Bool} (h1 : Ev (fun k => boarderref13_Twice.l0 k (l.map (·.f2)) (l.map (·.f0)) ((resL (l.take (i + 1))).map (·.1)) ((resL (l.take (i + 1))).map (·.2)) ((i + 1 : Nat) : Int)) r) :
    Ev (fun k => boarderref13_Twice.l2 k (l.map (·.f2)) (l.map (·.f0)) ((resL (l.take i)).map (·.1)) ((resL (l.take i)).map (·.2)) (i : Int) 0) r := by
  have l1 : (l.map (·.f2)).length = l.length := List.length_map ..
  have l2 : (l.map (·.f0)).length = l.length := List.length_map ..
  have eI : rd_T60 (l.map (·.f2)) (i : Int) = l[i].f2 := (rd_get (by omega)).trans (List.getElem_map ..)
  have eN : rd (l.map (·.f0)) (i : Int) = l[i].f0 := (rd_get (d := (0 : Int)) (by omega)).trans (List.getElem_map ..)
  have hs := (hS _ (List.getElem_mem hi)).2.1
  have hR : (resL (l.take i)).length ≤ 20000 := by
    have := resL_len (l := l.take i) (fun x hx => hS x (List.mem_of_mem_take hx))
    have : (l.take i).length ≤ 1000 := by rw [List.length_take]; omega
    omega
  rw [resL_take l i hi, List.map_append, List.map_append, List.map_map, List.map_map] at h1
  have H : ∀ (d j : Nat) (o1 : List Rs) (o2 : List Int), j + d = l[i].f2.f3.length → o1.length + d ≤ 30000 → o2.length + d ≤ 30000 →
      Ev (fun k => boarderref13_Twice.l0 k (l.map (·.f2)) (l.map (·.f0)) (o1 ++ (l[i].f2.f3.drop j)) (o2 ++ (l[i].f2.f3.drop j).map (fun _ => l[i].f0)) ((i + 1 : Nat) : Int)) r → Ev (fun k => boarderref13_Twice.l2 k (l.map (·.f2)) (l.map (·.f0)) o1 o2 (i : Int) (j : Int)) r := by
    intro d
    induction d with
    | zero =>
      intro j o1 o2 hj ho1 ho2 h
      rw [List.drop_eq_nil_of_le (by omega), List.map_nil, List.append_nil, List.append_nil] at h
      refine Ev.step (fun k => ?_) h
      show boarderref13_Twice.l2 (k + 1) _ _ _ _ _ _ = _
      rw [boarderref13_Twice.l2, if_pos (by omega), if_pos (by omega), eI, if_neg (by omega), wrap_next hi (by omega)]
    | succ d ih =>
      intro j o1 o2 hj ho1 ho2 h
      have hj2 : j < l[i].f2.f3.length := by omega
      refine Ev.step (fun k => ?_) (ih (j + 1) (o1 ++ [l[i].f2.f3[j]]) (o2 ++ [l[i].f0]) (by omega) (by rw [List.length_append, List.length_singleton]; omega) (by rw [List.length_append, List.length_singleton]; omega) ?_)
      · show boarderref13_Twice.l2 (k + 1) _ _ _ _ _ _ = _
        rw [boarderref13_Twice.l2, if_pos (by omega), if_pos (by omega), eI, if_pos (by omega), if_pos (by omega), if_pos (by omega), if_pos (by omega), if_pos (by omega), eN, show rd_T65 l[i].f2.f3 (j : Int) = l[i].f2.f3[j] from rd_get hj2, wrap_next hj2 (by omega)]
      · rw [List.append_assoc, List.singleton_append, List.append_assoc, List.singleton_append]
        rwa [List.drop_eq_getElem_cons hj2, List.map_cons] at h
  refine H l[i].f2.f3.length 0 _ _ (by omega) (by rw [List.length_map]; omega) (by rw [List.length_map]; omega) ?_
  rw [List.drop_zero]
  have e1 : List.map ((fun x : Rs × Int => x.1) ∘ fun r => (r, l[i].f0)) l[i].f2.f3 = l[i].f2.f3 := by
    rw [show ((fun x : Rs × Int => x.1) ∘ fun r => (r, l[i].f0)) = id from rfl, List.map_id]
  rw [e1] at h1
  exact h1
theorem boarderref13_Twice_l1 (l : List Sp) (hl : l.length ≤ 1000) (hS : ∀ x ∈ l, SmS x.f2) (i : Nat) (hi : i < l.length) (o1 : List Rs) (o2 : List Int) {r : Bool} (h1 : (∀ j, (hj : j < i) → FarS l[i] l[j]) → Ev (fun k => boarderref13_Twice.l2 k (l.map (·.f2)) (l.map (·.f0)) o1 o2 (i : Int) 0) r) (h2 : (¬ ∀ j, (hj : j < i) → FarS l[i] l[j]) → r = true) :
    Ev (fun k => boarderref13_Twice.l1 k (l.map (·.f2)) (l.map (·.f0)) o1 o2 (i : Int) 0) r := by
  have l1 : (l.map (·.f2)).length = l.length := List.length_map ..
  have l2 : (l.map (·.f0)).length = l.length := List.length_map ..
  have g1 : ∀ b (hb : b < l.length), rd_T60 (l.map (·.f2)) (b : Int) = l[b].f2 := fun b hb => (rd_get (by omega)).trans (List.getElem_map ..)
  have g2 : ∀ b (hb : b < l.length), rd (l.map (·.f0)) (b : Int) = l[b].f0 := fun b hb => (rd_get (d := (0 : Int)) (by omega)).trans (List.getElem_map ..)
  have E : ∀ j (hj : j < i) (r : Bool), (FarS l[i] l[j] → Ev (fun k => boarderref13_Twice.l1 k (l.map (·.f2)) (l.map (·.f0)) o1 o2 (i : Int) ((j + 1 : Nat) : Int)) r) → (¬ FarS l[i] l[j] → r = true) → Ev (fun k => boarderref13_Twice.l1 k (l.map (·.f2)) (l.map (·.f0)) o1 o2 (i : Int) (j : Int)) r := by
    intro j hj r h3 h4
    have hj2 : j < l.length := by omega
    refine Ev.step (fun k => ?_) (Ev.bind (g := fun k => boarderref01_Meet.f k l[i].f2.f0 l[i].f2.f1 l[j].f2.f0 l[j].f2.f1) (a := meetC l[i].f2.f0 l[i].f2.f1 l[j].f2.f0 l[j].f2.f1) ⟨41, fun k hk => boarderref01_Meet_s _ _ _ _ k hk⟩ (f := fun k t => if t = true then some true else (if l[i].f0 = l[j].f0 then boarderref13_Twice.l1 k (l.map (·.f2)) (l.map (·.f0)) o1 o2 (i : Int) ((j + 1 : Nat) : Int) else (if l[i].f2.f4 > 0 then (if l[i].f2.f4 = l[j].f2.f4 then some true else boarderref13_Twice.l1 k (l.map (·.f2)) (l.map (·.f0)) o1 o2 (i : Int) ((j + 1 : Nat) : Int)) else boarderref13_Twice.l1 k (l.map (·.f2)) (l.map (·.f0)) o1 o2 (i : Int) ((j + 1 : Nat) : Int)))) ?_)
    · show boarderref13_Twice.l1 (k + 1) _ _ _ _ _ _ = _
      rw [boarderref13_Twice.l1, if_pos (by omega), if_pos (by omega), if_pos (by omega), if_pos (by omega), if_pos (by omega), if_pos (by omega), if_pos (by omega), g1 i hi, g1 j hj2, g2 i hi, g2 j hj2, wrap_next hj (by omega)]
    · by_cases c0 : meetC l[i].f2.f0 l[i].f2.f1 l[j].f2.f0 l[j].f2.f1 = true
      · rw [h4 (fun h => by rw [h.1] at c0; cases c0)]; exact Ev.pos c0 Ev.some'
      · have c0' := Bool.eq_false_iff.mpr c0
        refine Ev.neg c0 ?_
        by_cases c1 : l[i].f0 = l[j].f0
        · exact Ev.pos c1 (h3 ⟨c0', fun h => h.1 c1⟩)
        · refine Ev.neg c1 ?_
          by_cases c2 : l[i].f2.f4 > 0
          · refine Ev.pos c2 ?_
            by_cases c3 : l[i].f2.f4 = l[j].f2.f4
            · rw [h4 (fun h => h.2 ⟨c1, c3, c2⟩)]; exact Ev.pos c3 Ev.some'
            · exact Ev.neg c3 (h3 ⟨c0', fun h => c3 h.2.1⟩)
          · exact Ev.neg c2 (h3 ⟨c0', fun h => c2 h.2.2⟩)
  refine loopC (n := i) (L := fun k j => boarderref13_Twice.l1 k (l.map (·.f2)) (l.map (·.f0)) o1 o2 (i : Int) j) (fun j => ∃ h : j < i, FarS l[i] l[j]) true (fun j hj hp r h3 => ?_) (fun j hj hp => ?_) (fun h3 => ?_) (fun h3 => ?_)
  · exact E j hj r (fun _ => h3) (fun h => absurd hp.2 h)
  · exact E j hj true (fun h => absurd ⟨hj, h⟩ hp) (fun _ => rfl)
  · refine Ev.step (fun k => ?_) (h1 (fun j hj => (h3 j hj).2))
    show boarderref13_Twice.l1 (k + 1) _ _ _ _ _ _ = _
    rw [boarderref13_Twice.l1, if_neg (by omega)]
  · obtain ⟨j, hj, hp⟩ := h3
    exact h2 (fun h => hp ⟨hj, h j hj⟩)
open Classical in
theorem boarderref13_Twice_s (a b : Int) (nets : List Nt) (h : Sm nets) : Ev (fun k => boarderref13_Twice.f k a b nets) (decide (¬ FreeP (spotsL nets))) := by
  refine Ev.bind (boarderref13_Flat_s a b nets h) (f := fun k t => boarderref13_Twice.l0 k t.1 t.2 ([] : List Rs) ([] : List Int) 0) ?_
  have hN : (spotsL nets).length ≤ 1000 := by have := spots_len (n := 0) (fun x hx => (h.2 x hx).1); have := h.1; unfold spotsL; omega
  have hS : ∀ x ∈ spotsL nets, SmS x.f2 := (spots_all (F := SmS)).2 (fun n hn s hs => (h.2 n hn).2 s hs)
  generalize spotsL nets = l at *
  have l1 : (l.map (·.f2)).length = l.length := List.length_map ..
  have hR : (resL l).length ≤ 100000 := by have := resL_len hS; omega
  have step : ∀ i (hi : i < l.length) (r : Bool), ((¬ PooledP l[i].f2 ∧ ∀ j, (hj : j < i) → FarS l[i] l[j]) → Ev (fun k => boarderref13_Twice.l0 k (l.map (·.f2)) (l.map (·.f0)) ((resL (l.take (i + 1))).map (·.1)) ((resL (l.take (i + 1))).map (·.2)) ((i + 1 : Nat) : Int)) r) →
      ((¬ (¬ PooledP l[i].f2 ∧ ∀ j, (hj : j < i) → FarS l[i] l[j])) → r = true) → Ev (fun k => boarderref13_Twice.l0 k (l.map (·.f2)) (l.map (·.f0)) ((resL (l.take i)).map (·.1)) ((resL (l.take i)).map (·.2)) (i : Int)) r := by
    intro i hi r h3 h4
    have eI : rd_T60 (l.map (·.f2)) (i : Int) = l[i].f2 := (rd_get (by omega)).trans (List.getElem_map ..)
    refine Ev.step (fun k => ?_) (Ev.bind (boarderref13_Pooled_s l[i].f2 (hS _ (List.getElem_mem hi))) (f := fun k t => if t = true then some true else boarderref13_Twice.l1 k (l.map (·.f2)) (l.map (·.f0)) ((resL (l.take i)).map (·.1)) ((resL (l.take i)).map (·.2)) (i : Int) 0) ?_)
    · show boarderref13_Twice.l0 (k + 1) _ _ _ _ _ = _
      rw [boarderref13_Twice.l0, if_pos (by omega), if_pos (by omega), eI]
    · by_cases c : PooledP l[i].f2
      · rw [h4 (fun h => h.1 c)]; exact Ev.pos (decide_eq_true c) Ev.some'
      · exact Ev.neg (by rw [decide_eq_false c]; simp) (boarderref13_Twice_l1 l hN hS i hi _ _ (fun h5 => boarderref13_Twice_l2 l hN hS i hi (h3 ⟨c, h5⟩)) (fun h5 => h4 (fun h => h5 h.2)))
  have H : ∀ d i, i + d = l.length → (∀ j, (hj : j < l.length) → j < i → (¬ PooledP l[j].f2 ∧ ∀ q, (hq : q < j) → FarS l[j] l[q])) → Ev (fun k => boarderref13_Twice.l0 k (l.map (·.f2)) (l.map (·.f0)) ((resL (l.take i)).map (·.1)) ((resL (l.take i)).map (·.2)) (i : Int)) (decide (¬ FreeP l)) := by
    intro d
    induction d with
    | zero =>
      intro i hi hp
      obtain rfl : i = l.length := by omega
      rw [List.take_length]
      refine Ev.step (fun k => ?_) (boarderref13_Twice_l3 (resL l) hR (r := decide (¬ FreeP l)) ?_)
      · show boarderref13_Twice.l0 (k + 1) _ _ _ _ _ = _
        rw [boarderref13_Twice.l0, if_neg (by omega)]
      · rw [decide_eq_false_iff_not, Classical.not_not]
        exact ⟨fun h => h.2, fun h2 => ⟨fun j hj => hp j hj hj, h2⟩⟩
    | succ d ih =>
      intro i hi hp
      have hl : i < l.length := by omega
      refine step i hl _ (fun h3 => ih (i + 1) (by omega) (fun j hj hji => ?_)) (fun h3 => decide_eq_true (fun h4 => h3 (h4.1 i hl)))
      rcases Nat.lt_succ_iff_lt_or_eq.1 hji with c | c
      · exact hp j hj c
      · subst c; exact h3
  exact H l.length 0 (by omega) (fun j _ hj => absurd hj (by omega))

end Go.Proofs.Ytopbcamlagdieaa.PStats
set_option linter.unusedVariables false
set_option linter.unusedSimpArgs false
namespace Go.Proofs.Ytopbcamlagdieaa.PStats
open Go.RowKit Go.Proofs.YtopbcamlagdieaaW.PrintWords Go.Proofs.YtopbcamlagdieaaW.PrintLast Go.Proofs.YtopbcamlagdieaaW.PrintMore

/-! ### boarderref13.Check -/
open Classical in
theorem boarderref13_Check_s (a b : Int) (nets : List Nt) (h : Sm nets) : Ev (fun k => boarderref13_Check.f k a b nets) (checkI a b nets) := by
  unfold checkI
  refine Ev.bind (boarderref13_Form_s a b nets h) (f := fun k t => if t = true then ((boarderref13_Places.f k a b nets).bind fun t337 => (if t337 = true then ((boarderref13_Twice.f k a b nets).bind fun t338 => (if t338 = true then (some 8) else (some 0))) else (some 9))) else (some 1)) ?_
  by_cases c1 : FormP a b nets
  · rw [if_pos c1]
    refine Ev.pos (decide_eq_true c1) (Ev.bind (boarderref13_Places_s a b nets h c1.2.2.2.2.2.2) (f := fun k t337 => (if t337 = true then ((boarderref13_Twice.f k a b nets).bind fun t338 => (if t338 = true then (some 8) else (some 0))) else (some 9))) ?_)
    by_cases c2 : ∀ n ∈ nets, ∀ s ∈ n.f0, PlaceS a s
    · rw [if_pos c2]
      refine Ev.pos (decide_eq_true c2) (Ev.bind (boarderref13_Twice_s a b nets h) (f := fun k t338 => (if t338 = true then (some 8) else (some 0))) ?_)
      by_cases c3 : UnlikeP (spotsL nets)
      · rw [if_pos c3]
        exact Ev.neg (by rw [decide_eq_true_iff]; exact fun h => h ((form_unlike c1).1 c3)) Ev.some'
      · rw [if_neg c3]
        exact Ev.pos (by rw [decide_eq_true_iff]; exact fun h => c3 ((form_unlike c1).2 h)) Ev.some'
    · rw [if_neg c2]; exact Ev.neg (by rw [decide_eq_false c2]; simp) Ev.some'
  · rw [if_neg c1]; exact Ev.neg (by rw [decide_eq_false c1]; simp) Ev.some'

end Go.Proofs.Ytopbcamlagdieaa.PStats
set_option linter.unusedVariables false
set_option linter.unusedSimpArgs false
namespace Go.Proofs.Ytopbcamlagdieaa.PStats
open Go.RowKit Go.Proofs.YtopbcamlagdieaaW.PrintWords Go.Proofs.YtopbcamlagdieaaW.PrintLast Go.Proofs.YtopbcamlagdieaaW.PrintMore

/-! ### boarderref09.Right -/
theorem boarderref09_Right_s (l : Le) : boarderref09_Right.f l.f0 l.f1 l.f2 l.f3 = some (leaseB l) := by
  unfold boarderref09_Right.f leaseB
  rw [boarderref01_Right_s, boarderref07_Right_s]
  simp only [Option.bind_some]
  by_cases h0 : 0 ≤ l.f0 ∧ l.f0 ≤ 4294967295
  · rw [decide_eq_true h0, if_pos rfl]
    cases hk : keyB l.f3 with
    | false => rw [if_neg (by simp), Bool.and_false]
    | true =>
      rw [if_pos rfl, Bool.and_true]
      have fin : (if l.f2 ≥ 0 then (some (decide (l.f2 ≤ 1125899906842624))) else (some false)) = some (decide (0 ≤ l.f2 ∧ l.f2 ≤ 1125899906842624)) := by
        by_cases h3 : l.f2 ≥ 0
        · rw [if_pos h3]; congr 1; exact decide_eq_decide.2 ⟨fun h => ⟨h3, h⟩, fun h => h.2⟩
        · rw [if_neg h3, decide_eq_false (fun h => h3 h.1)]
      rw [fin]
      by_cases c1 : l.f1 = 1
      · rw [if_pos c1]; congr 1; exact decide_eq_decide.2 ⟨fun h => ⟨h0.1, h0.2, by omega, by omega, h.1, h.2⟩, fun h => ⟨h.2.2.2.2.1, h.2.2.2.2.2⟩⟩
      · rw [if_neg c1]
        by_cases c2 : l.f1 = 2
        · rw [if_pos c2]; congr 1; exact decide_eq_decide.2 ⟨fun h => ⟨h0.1, h0.2, by omega, by omega, h.1, h.2⟩, fun h => ⟨h.2.2.2.2.1, h.2.2.2.2.2⟩⟩
        · rw [if_neg c2]
          by_cases c3 : l.f1 = 3
          · rw [if_pos c3]; congr 1; exact decide_eq_decide.2 ⟨fun h => ⟨h0.1, h0.2, by omega, by omega, h.1, h.2⟩, fun h => ⟨h.2.2.2.2.1, h.2.2.2.2.2⟩⟩
          · rw [if_neg c3, decide_eq_false (by omega)]
  · rw [decide_eq_false h0, if_neg (by simp), decide_eq_false (fun h => h0 ⟨h.1, h.2.1⟩)]; rfl

end Go.Proofs.Ytopbcamlagdieaa.PStats
set_option linter.unusedVariables false
set_option linter.unusedSimpArgs false
namespace Go.Proofs.Ytopbcamlagdieaa.PStats
open Go.RowKit Go.Proofs.YtopbcamlagdieaaW.PrintWords Go.Proofs.YtopbcamlagdieaaW.PrintLast Go.Proofs.YtopbcamlagdieaaW.PrintMore

/-! ### boarderref12.Right -/
open Classical in
theorem boarderref12_Right_l (t : List Le) (ht : t.length ≤ maxLen) (d : Nat) : ∀ (i : Nat) (k : Nat), i + d = t.length → d < k →
    boarderref12_Right.l0 k t i = some (decide (∀ j, i ≤ j → j < t.length → leaseB (atL t j) = true ∧ (j + 1 < t.length → (atL t j).f0 < (atL t (j + 1)).f0))) := by
  simp only [maxLen] at ht
  induction d with
  | zero =>
    intro i k hi hk
    obtain ⟨k, rfl⟩ : ∃ m, k = m + 1 := ⟨k - 1, by omega⟩
    rw [boarderref12_Right.l0, if_neg (by omega), decide_eq_true (fun j a b => by omega)]
  | succ d ih =>
    intro i k hi hkk
    obtain ⟨k, rfl⟩ : ∃ m, k = m + 1 := ⟨k - 1, by omega⟩
    have hw : wrap64 ((i : Int) + 1) = ((i + 1 : Nat) : Int) := by unfold wrap64; omega
    have ihh := ih (i + 1) k (by omega) (by omega)
    rw [boarderref12_Right.l0, if_pos (by omega), if_pos (by omega), show rd_T68 t (i : Int) = atL t i from rfl, boarderref09_Right_s, hw]
    simp only [Option.bind_some]
    by_cases h : leaseB (atL t i) = true
    · rw [if_pos h]
      by_cases h0 : ((i + 1 : Nat) : Int) < (t.length : Int)
      · rw [if_pos h0, if_pos (by omega), show rd_T68 t ((i + 1 : Nat) : Int) = atL t (i + 1) from rfl]
        by_cases h1 : (atL t (i + 1)).f0 ≤ (atL t i).f0
        · rw [if_pos h1, decide_eq_false]
          intro h2
          have := (h2 i (by omega) (by omega)).2 (by omega)
          omega
        · rw [if_neg h1, ihh]
          congr 1
          refine decide_eq_decide.2 ⟨fun h2 j a b => ?_, fun h2 j a b => h2 j (by omega) b⟩
          rcases Nat.eq_or_lt_of_le a with c | c
          · subst c; exact ⟨h, fun _ => by omega⟩
          · exact h2 j (by omega) b
      · rw [if_neg h0, ihh]
        congr 1
        refine decide_eq_decide.2 ⟨fun h2 j a b => ?_, fun h2 j a b => h2 j (by omega) b⟩
        rcases Nat.eq_or_lt_of_le a with c | c
        · subst c; exact ⟨h, fun _ => by omega⟩
        · exact h2 j (by omega) b
    · rw [if_neg h, decide_eq_false]
      intro h2
      exact h (h2 i (by omega) (by omega)).1
theorem boarderref12_Right_s (t : List Le) (ht : t.length ≤ maxLen) (k : Nat) (hk : t.length < k) : boarderref12_Right.f k t = some (decide (Tab t)) := by
  unfold boarderref12_Right.f
  by_cases c : (t.length : Int) > 64
  · rw [if_pos c, decide_eq_false (fun h => by have := h.1; omega)]
  · have e := boarderref12_Right_l t ht t.length 0 k (by omega) hk
    rw [if_neg c, show boarderref12_Right.l0 k t 0 = boarderref12_Right.l0 k t ((0 : Nat) : Int) from rfl, e]
    congr 1
    refine decide_eq_decide.2 ?_
    rw [tab_iff2]
    exact ⟨fun h => ⟨by omega, fun j b => h j (by omega) b⟩, fun h j _ b => h.2 j b⟩

end Go.Proofs.Ytopbcamlagdieaa.PStats
set_option linter.unusedVariables false
set_option linter.unusedSimpArgs false
namespace Go.Proofs.Ytopbcamlagdieaa.PStats
open Go.RowKit Go.Proofs.YtopbcamlagdieaaW.PrintWords Go.Proofs.YtopbcamlagdieaaW.PrintLast Go.Proofs.YtopbcamlagdieaaW.PrintMore

/-! ### boarderref15.Fair -/
theorem boarderref15_Fair_s (a b : Int) (nets : List Nt) (h : Sm nets) (t : List Le) (ht : Small t) (n : Int) (key : ByteArray) : Ev (fun k => boarderref15_Fair.f k a b nets t n key) (fairA a b nets t n key) := by
  have hl : t.length ≤ maxLen := Nat.le_trans ht.1 (by decide)
  refine Ev.bind (boarderref13_Check_s a b nets h) (Ev.ite' (fun c1 => ?_) (fun c1 => Ev.ret (by simp [fairA, c1])))
  refine Ev.bind (a := decide (Tab t)) ⟨t.length + 1, fun k hk => boarderref12_Right_s t hl k (by omega)⟩ (Ev.ite' (fun c2 => ?_) (fun c2 => Ev.ret (by simp [fairA, c2])))
  refine Ev.bind (g := fun _ => boarderref07_Right.f key) (Ev.congr (fun _ => boarderref07_Right_s key) (Ev.now _)) (Ev.ite' (fun c3 => ?_) (fun c3 => Ev.ret (by simp [fairA, c3])))
  exact Ev.ite' (fun c4 => Ev.ret (by unfold fairA; rw [c2, c3, decide_eq_true c1]; simp; omega)) (fun c4 => Ev.ret (by unfold fairA; simp; omega))

end Go.Proofs.Ytopbcamlagdieaa.PStats
set_option linter.unusedVariables false
set_option linter.unusedSimpArgs false
namespace Go.Proofs.Ytopbcamlagdieaa.PStats
open Go.RowKit Go.Proofs.YtopbcamlagdieaaW.PrintWords Go.Proofs.YtopbcamlagdieaaW.PrintLast Go.Proofs.YtopbcamlagdieaaW.PrintMore

/-! ### boarderref13.KeptFor -/
theorem boarderref13_KeptFor_l0 (l : List Sb) (hl : l.length ≤ 1000) (hS : ∀ s ∈ l, SmS s) (y : ByteArray) : Ev (fun k => boarderref13_KeptFor.l0 k y l 0) ((l.findSome? (keptG y)).getD (0, false)) := by
  have E : ∀ m (hm : m < l.length) (r : Int × Bool), (keptG y l[m] = none → Ev (fun k => boarderref13_KeptFor.l0 k y l ((m + 1 : Nat) : Int)) r) → (∀ v, keptG y l[m] = some v → r = v) → Ev (fun k => boarderref13_KeptFor.l0 k y l (m : Int)) r := by
    intro m hm r h1 h2
    have h20 := (hS _ (List.getElem_mem hm)).2.1
    have eN : rd_T60 l (m : Int) = l[m] := rd_get hm
    refine Ev.step (f := fun k => boarderref13_KeptFor.l1 k y l (m : Int) 0) (fun k => ?_) (loopF l[m].f3 (fun r => if r.f0.toList = y.toList then some (r.f1, true) else none) (L := fun k i => boarderref13_KeptFor.l1 k y l (m : Int) i) (fun i hi v hv => ?_) (fun i hi hv r h3 => ?_) (fun h3 => ?_) h2)
    · show boarderref13_KeptFor.l0 (k + 1) _ _ _ = _
      rw [boarderref13_KeptFor.l0, if_pos (by omega)]
    · by_cases c : l[m].f3[i].f0.toList = y.toList
      · rw [if_pos c] at hv
        obtain rfl := Option.some.inj hv
        refine Ev.step (f := fun _ => some (l[m].f3[i].f1, true)) (fun k => ?_) Ev.some'
        show boarderref13_KeptFor.l1 (k + 1) _ _ _ _ = _
        rw [boarderref13_KeptFor.l1, if_pos (by omega), if_pos (by omega), eN, if_pos (by omega), if_pos (by omega), show rd_T65 l[m].f3 (i : Int) = l[m].f3[i] from rd_get hi, if_pos c]
      · rw [if_neg c] at hv; cases hv
    · by_cases c : l[m].f3[i].f0.toList = y.toList
      · rw [if_pos c] at hv; cases hv
      · refine Ev.step (fun k => ?_) h3
        show boarderref13_KeptFor.l1 (k + 1) _ _ _ _ = _
        rw [boarderref13_KeptFor.l1, if_pos (by omega), if_pos (by omega), eN, if_pos (by omega), if_pos (by omega), show rd_T65 l[m].f3 (i : Int) = l[m].f3[i] from rd_get hi, if_neg c, wrap_next hi (by omega)]
    · refine Ev.step (fun k => ?_) (h1 h3)
      show boarderref13_KeptFor.l1 (k + 1) _ _ _ _ = _
      rw [boarderref13_KeptFor.l1, if_pos (by omega), if_pos (by omega), eN, if_neg (by omega), wrap_next hm (by omega)]
  refine loopF l (keptG y) (L := fun k i => boarderref13_KeptFor.l0 k y l i) (fun i hi v hv => E i hi v (fun h => by rw [h] at hv; cases hv) (fun u hu => by rw [hu] at hv; exact (Option.some.inj hv).symm)) (fun i hi hv r h3 => E i hi r (fun _ => h3) (fun u hu => by rw [hv] at hu; cases hu)) (fun h3 => ?_) (fun v hv => getD_some hv)
  rw [getD_none h3]
  refine Ev.step (f := fun _ => some (0, false)) (fun k => ?_) Ev.some'
  show boarderref13_KeptFor.l0 (k + 1) _ _ _ = _
  rw [boarderref13_KeptFor.l0, if_neg (by omega)]
theorem boarderref13_KeptFor_s (a b : Int) (nets : List Nt) (h : Sm nets) (n : Int) (y : ByteArray) : Ev (fun k => boarderref13_KeptFor.f k a b nets n y) (keptL a b nets n y) := by
  refine Ev.bind (boarderref13_Check_s a b nets h) (f := fun k t => if t = 0 then (if n < 0 then boarderref13_KeptFor.j0 k n y true a b nets else boarderref13_KeptFor.j0 k n y (decide (n ≥ (nets.length : Int))) a b nets) else boarderref13_KeptFor.j0 k n y true a b nets) ?_
  have J : Ev (fun k => boarderref13_KeptFor.j0 k n y true a b nets) (0, false) := Ev.step (f := fun _ => some (0, false)) (fun k => by show boarderref13_KeptFor.j0 (k + 1) _ _ _ _ _ _ = _; rw [boarderref13_KeptFor.j0, if_pos rfl]) Ev.some'
  unfold keptL rightL
  by_cases c : checkI a b nets = 0
  · rw [if_pos c]
    refine Ev.pos c ?_
    unfold spotsL
    rw [spots_find n (keptG y) nets 0]
    by_cases c1 : n < 0
    · rw [if_neg (by omega)]; exact Ev.pos c1 J
    · refine Ev.neg c1 ?_
      by_cases c2 : n ≥ (nets.length : Int)
      · rw [if_neg (by omega), decide_eq_true c2]; exact J
      · rw [if_pos (by omega), decide_eq_false c2]
        obtain ⟨m, rfl⟩ := Int.eq_ofNat_of_zero_le (Int.not_lt.1 c1)
        have hm : m < nets.length := by have := Int.not_le.1 c2; omega
        have e1 : (nets.getD ((m : Int) - ((0 : Nat) : Int)).toNat ⟨[]⟩) = nets[m] := by
          rw [show ((m : Int) - ((0 : Nat) : Int)).toNat = m by omega, List.getD_eq_getElem?_getD, List.getElem?_eq_getElem hm]; rfl
        rw [e1]
        refine Ev.step (fun k => ?_) (boarderref13_KeptFor_l0 nets[m].f0 (by have := (h.2 _ (List.getElem_mem hm)).1; omega) (h.2 _ (List.getElem_mem hm)).2 y)
        show boarderref13_KeptFor.j0 (k + 1) _ _ _ _ _ _ = _
        rw [boarderref13_KeptFor.j0, if_neg (by simp), if_pos (by omega), if_pos (by omega), show rd_T56 nets (m : Int) = nets[m] from rd_get hm]
  · rw [if_neg c]; exact Ev.neg c J

end Go.Proofs.Ytopbcamlagdieaa.PStats
set_option linter.unusedVariables false
set_option linter.unusedSimpArgs false
namespace Go.Proofs.Ytopbcamlagdieaa.PStats
open Go.RowKit Go.Proofs.YtopbcamlagdieaaW.PrintWords Go.Proofs.YtopbcamlagdieaaW.PrintLast Go.Proofs.YtopbcamlagdieaaW.PrintMore

/-! ### boarderref12.Good -/
theorem boarderref12_Good_s (t : List Le) (ht : t.length ≤ maxLen) (k : Nat) (hk : t.length < k) : boarderref12_Good.f k t = some (goodL t) := by
  unfold boarderref12_Good.f goodL
  rw [boarderref12_Right_s t ht k hk]
  simp only [Option.bind_some]
  by_cases c : Tab t
  · rw [decide_eq_true c, if_pos c]; rfl
  · rw [decide_eq_false c, if_neg c]; rfl

end Go.Proofs.Ytopbcamlagdieaa.PStats
set_option linter.unusedVariables false
set_option linter.unusedSimpArgs false
namespace Go.Proofs.Ytopbcamlagdieaa.PStats
open Go.RowKit Go.Proofs.YtopbcamlagdieaaW.PrintWords Go.Proofs.YtopbcamlagdieaaW.PrintLast Go.Proofs.YtopbcamlagdieaaW.PrintMore

/-! ### boarderref12.Of -/
theorem boarderref12_Of_l (t : List Le) (ht : t.length ≤ 500) (key : ByteArray) (d : Nat) : ∀ (i : Nat) (out : List Le) (k : Nat), i + d = t.length → d < k → out.length + d ≤ 1000 → boarderref12_Of.l0 k t key out i = some (out ++ (t.drop i).filter (fun l => decide (l.f3.toList = key.toList))) := by
  induction d with
  | zero =>
    intro i out k hi hk ho
    obtain ⟨k, rfl⟩ : ∃ m, k = m + 1 := ⟨k - 1, by omega⟩
    rw [boarderref12_Of.l0, if_neg (by omega), List.drop_eq_nil_of_le (by omega)]; simp
  | succ d ih =>
    intro i out k hi hk ho
    obtain ⟨k, rfl⟩ : ∃ m, k = m + 1 := ⟨k - 1, by omega⟩
    have hw : wrap64 ((i : Int) + 1) = ((i + 1 : Nat) : Int) := by unfold wrap64; omega
    have hx : (⟨(atL t i).f0, (atL t i).f1, (atL t i).f2, (atL t i).f3⟩ : Le) = atL t i := rfl
    rw [boarderref12_Of.l0, if_pos (by omega), if_pos (by omega), show rd_T68 t (i : Int) = atL t i from rfl, hw, hx, List.drop_eq_getElem_cons (i := i) (by omega), ← atL_get (by omega)]
    rw [List.filter_cons]
    by_cases h : (atL t i).f3.toList = key.toList
    · rw [if_pos h, if_pos (by omega), if_pos (by simpa using h), ih (i + 1) _ k (by omega) (by omega) (by simp; omega)]
      simp
    · rw [if_neg h, if_neg (by simpa using h), ih (i + 1) _ k (by omega) (by omega) (by omega)]
theorem boarderref12_Of_s (t : List Le) (ht : t.length ≤ 500) (key : ByteArray) (k : Nat) (hk : t.length < k) : boarderref12_Of.f k t key = some ((goodL t).filter (fun l => decide (l.f3.toList = key.toList))) := by
  unfold boarderref12_Of.f
  rw [boarderref12_Good_s t (by simp only [maxLen]; omega) k hk]
  simp only [Option.bind_some]
  have hgl := goodL_len t
  have e := boarderref12_Of_l (goodL t) (by omega) key (goodL t).length 0 [] k (by omega) (by omega) (by simp; omega)
  rw [List.drop_zero, List.nil_append] at e
  exact e

end Go.Proofs.Ytopbcamlagdieaa.PStats
set_option linter.unusedVariables false
set_option linter.unusedSimpArgs false
namespace Go.Proofs.Ytopbcamlagdieaa.PStats
open Go.RowKit Go.Proofs.YtopbcamlagdieaaW.PrintWords Go.Proofs.YtopbcamlagdieaaW.PrintLast Go.Proofs.YtopbcamlagdieaaW.PrintMore

/-! ### boarderref12.Holds -/
theorem boarderref12_Holds_s (l : Le) (now : Int) : boarderref12_Holds.f l.f0 l.f1 l.f2 l.f3 now = some (holdsB l now) := by
  unfold boarderref12_Holds.f holdsB
  by_cases c : l.f1 = 1
  · rw [if_pos c]; congr 1; exact decide_eq_decide.2 ⟨fun h => ⟨c, by omega⟩, fun h => by omega⟩
  · rw [if_neg c, decide_eq_false (fun h => c h.1)]

end Go.Proofs.Ytopbcamlagdieaa.PStats
set_option linter.unusedVariables false
set_option linter.unusedSimpArgs false
namespace Go.Proofs.Ytopbcamlagdieaa.PStats
open Go.RowKit Go.Proofs.YtopbcamlagdieaaW.PrintWords Go.Proofs.YtopbcamlagdieaaW.PrintLast Go.Proofs.YtopbcamlagdieaaW.PrintMore

/-! ### boarderref13.Find -/
theorem boarderref13_Find_s (a b : Int) (nets : List Nt) (h : Sm nets) (x : Int) : Ev (fun k => boarderref13_Find.f k a b nets x) (findL a b nets x) := by
  have hN := h.1
  have h10 : ∀ m (hm : m < nets.length), nets[m].f0.length ≤ 10 := fun m hm => (h.2 _ (List.getElem_mem hm)).1
  refine Ev.bind (boarderref13_Check_s a b nets h) (f := fun k t => if t = 0 then boarderref13_Find.l0 k x 0 a b nets else some (0, 0, false)) ?_
  unfold findL rightL
  by_cases c : checkI a b nets = 0
  · rw [if_pos c]
    refine Ev.pos c (nestF nets (findQ x) (0, 0, false) (L0 := fun k m => boarderref13_Find.l0 k x m a b nets) (L1 := fun k m i => boarderref13_Find.l1 k x m i a b nets) (fun m hm r h1 => ?_) ?_ (fun m i hm hi v hv => ?_) (fun m i hm hi hv r h1 => ?_) (fun m hm r h1 => ?_))
    · refine Ev.step (fun k => ?_) h1
      show boarderref13_Find.l0 (k + 1) _ _ _ _ _ = _
      rw [boarderref13_Find.l0, if_pos (by omega)]
    · refine Ev.step (f := fun _ => some (0, 0, false)) (fun k => ?_) Ev.some'
      show boarderref13_Find.l0 (k + 1) _ _ _ _ _ = _
      rw [boarderref13_Find.l0, if_neg (by omega)]
    · have eN : rd_T56 nets (m : Int) = nets[m] := rd_get hm
      refine Ev.step (fun k => ?_) (Ev.bind (g := fun k => boarderref01_Has.f k nets[m].f0[i].f0 nets[m].f0[i].f1 x) (a := Com.hasB nets[m].f0[i].f0 nets[m].f0[i].f1 x) ⟨40, fun k hk => boarderref01_Has_s _ _ _ k hk⟩ (f := fun k t => if t = true then some ((m : Int), (i : Int), true) else boarderref13_Find.l1 k x (m : Int) ((i + 1 : Nat) : Int) a b nets) ?_)
      · show boarderref13_Find.l1 (k + 1) _ _ _ _ _ _ = _
        rw [boarderref13_Find.l1, if_pos (by omega), if_pos (by omega), eN, if_pos (by omega), if_pos (by omega), show rd_T60 nets[m].f0 (i : Int) = nets[m].f0[i] from rd_get hi, wrap_next hi (by have := h10 m hm; omega)]
      · unfold findQ at hv
        by_cases c2 : Com.hasB nets[m].f0[i].f0 nets[m].f0[i].f1 x = true
        · rw [if_pos c2] at hv; obtain rfl := Option.some.inj hv; exact Ev.pos c2 Ev.some'
        · rw [if_neg c2] at hv; cases hv
    · have eN : rd_T56 nets (m : Int) = nets[m] := rd_get hm
      refine Ev.step (fun k => ?_) (Ev.bind (g := fun k => boarderref01_Has.f k nets[m].f0[i].f0 nets[m].f0[i].f1 x) (a := Com.hasB nets[m].f0[i].f0 nets[m].f0[i].f1 x) ⟨40, fun k hk => boarderref01_Has_s _ _ _ k hk⟩ (f := fun k t => if t = true then some ((m : Int), (i : Int), true) else boarderref13_Find.l1 k x (m : Int) ((i + 1 : Nat) : Int) a b nets) ?_)
      · show boarderref13_Find.l1 (k + 1) _ _ _ _ _ _ = _
        rw [boarderref13_Find.l1, if_pos (by omega), if_pos (by omega), eN, if_pos (by omega), if_pos (by omega), show rd_T60 nets[m].f0 (i : Int) = nets[m].f0[i] from rd_get hi, wrap_next hi (by have := h10 m hm; omega)]
      · unfold findQ at hv
        by_cases c2 : Com.hasB nets[m].f0[i].f0 nets[m].f0[i].f1 x = true
        · rw [if_pos c2] at hv; cases hv
        · exact Ev.neg c2 h1
    · have eN : rd_T56 nets (m : Int) = nets[m] := rd_get hm
      refine Ev.step (fun k => ?_) h1
      show boarderref13_Find.l1 (k + 1) _ _ _ _ _ _ = _
      rw [boarderref13_Find.l1, if_pos (by omega), if_pos (by omega), eN, if_neg (by omega), wrap_next hm (by omega)]
  · rw [if_neg c]; exact Ev.neg c Ev.some'

end Go.Proofs.Ytopbcamlagdieaa.PStats
set_option linter.unusedVariables false
set_option linter.unusedSimpArgs false
namespace Go.Proofs.Ytopbcamlagdieaa.PStats
open Go.RowKit Go.Proofs.YtopbcamlagdieaaW.PrintWords Go.Proofs.YtopbcamlagdieaaW.PrintLast Go.Proofs.YtopbcamlagdieaaW.PrintMore

/-! ### boarderref15.In -/
theorem boarderref15_In_s (a b : Int) (nets : List Nt) (h : Sm nets) (n x : Int) : Ev (fun k => boarderref15_In.f k a b nets n x) (inA a b nets n x) := by
  refine Ev.bind (boarderref13_Find_s a b nets h x) (Ev.ite' (fun c1 => Ev.ret ?_) (fun c1 => Ev.ret ?_))
  · unfold inA; rw [c1]; by_cases c : (findL a b nets x).1 = n <;> simp [c]
  · unfold inA; simp [c1]

end Go.Proofs.Ytopbcamlagdieaa.PStats
set_option linter.unusedVariables false
set_option linter.unusedSimpArgs false
namespace Go.Proofs.Ytopbcamlagdieaa.PStats
open Go.RowKit Go.Proofs.YtopbcamlagdieaaW.PrintWords Go.Proofs.YtopbcamlagdieaaW.PrintLast Go.Proofs.YtopbcamlagdieaaW.PrintMore

/-! ### boarderref15.other -/
theorem any_foldr {α : Type} (p : α → Bool) : ∀ l : List α, l.foldr (fun x r => if p x = true then true else r) false = l.any p
  | [] => rfl
  | x :: l => by rw [List.foldr_cons, any_foldr p l, List.any_cons]; cases p x <;> rfl
theorem boarderref15_other_s (a b : Int) (nets : List Nt) (h : Sm nets) (t : List Le) (ht : Small t) (n : Int) (key : ByteArray) (x now : Int) : Ev (fun k => boarderref15_other.f k a b nets t n key x now) (otherA a b nets t n key x now) := by
  have hl : t.length ≤ 500 := ht.1
  have e : otherA a b nets t n key x now = t.foldr (fun l r => if (decide (l.f3.toList = key.toList) && othP a b nets n x now l) = true then true else r) false := by
    rw [any_foldr]; unfold otherA ofL; rw [List.any_filter]
  rw [e]
  refine loopR t _ (L := fun k i => boarderref15_other.l0 k t n key x now i a b nets) (fun i hi r h3 => ?_) ?_
  · have eT : rd_T68 t (i : Int) = t[i] := rd_get hi
    have w : wrap64 ((i : Int) + 1) = ((i + 1 : Nat) : Int) := wrap_next hi (by omega)
    refine Ev.step (f := fun k => if t[i].f3.toList = key.toList then (if t[i].f0 = x then boarderref15_other.l0 k t n key x now ((i + 1 : Nat) : Int) a b nets else ((boarderref12_Holds.f t[i].f0 t[i].f1 t[i].f2 t[i].f3 now).bind fun q => if q = true then ((boarderref15_In.f k a b nets n t[i].f0).bind fun q => if q = true then some true else boarderref15_other.l0 k t n key x now ((i + 1 : Nat) : Int) a b nets) else boarderref15_other.l0 k t n key x now ((i + 1 : Nat) : Int) a b nets)) else boarderref15_other.l0 k t n key x now ((i + 1 : Nat) : Int) a b nets) (fun k => ?_) ?_
    · show boarderref15_other.l0 (k + 1) _ _ _ _ _ _ _ _ _ = _
      rw [boarderref15_other.l0, if_pos (by omega), if_pos (by omega), eT, w]
    · refine Ev.ite' (fun c1 => ?_) (fun c1 => by simpa [c1] using h3)
      refine Ev.ite' (fun c2 => by simpa [c1, c2, othP] using h3) (fun c2 => ?_)
      refine Ev.bind (Ev.congr (fun _ => boarderref12_Holds_s t[i] now) (Ev.now _)) (Ev.ite' (fun c3 => ?_) (fun c3 => by simpa [c1, c2, c3, othP] using h3))
      refine Ev.bind (boarderref15_In_s a b nets h n _) (Ev.ite' (fun c4 => Ev.ret (by simp [c1, c2, c3, c4, othP])) (fun c4 => by simpa [c1, c2, c3, c4, othP] using h3))
  · refine Ev.step (f := fun _ => some false) (fun k => ?_) Ev.some'
    show boarderref15_other.l0 (k + 1) _ _ _ _ _ _ _ _ _ = _
    rw [boarderref15_other.l0, if_neg (by omega)]

end Go.Proofs.Ytopbcamlagdieaa.PStats
set_option linter.unusedVariables false
set_option linter.unusedSimpArgs false
namespace Go.Proofs.Ytopbcamlagdieaa.PStats
open Go.RowKit Go.Proofs.YtopbcamlagdieaaW.PrintWords Go.Proofs.YtopbcamlagdieaaW.PrintLast Go.Proofs.YtopbcamlagdieaaW.PrintMore

/-! ### boarderref12.Get -/
theorem boarderref12_Get_l (t : List Le) (ht : t.length ≤ maxLen) (a : Int) (d : Nat) : ∀ (i : Nat) (k : Nat), i + d = t.length → d < k → boarderref12_Get.l0 k t a i = some (ans (getL (t.drop i) a)) := by
  simp only [maxLen] at ht
  induction d with
  | zero =>
    intro i k hi hk
    obtain ⟨k, rfl⟩ : ∃ m, k = m + 1 := ⟨k - 1, by omega⟩
    rw [boarderref12_Get.l0, if_neg (by omega), List.drop_eq_nil_of_le (by omega)]; rfl
  | succ d ih =>
    intro i k hi hkk
    obtain ⟨k, rfl⟩ : ∃ m, k = m + 1 := ⟨k - 1, by omega⟩
    have hw : wrap64 ((i : Int) + 1) = ((i + 1 : Nat) : Int) := by unfold wrap64; omega
    rw [boarderref12_Get.l0, if_pos (by omega), if_pos (by omega), show rd_T68 t (i : Int) = atL t i from rfl, hw, List.drop_eq_getElem_cons (i := i) (by omega), ← atL_get (by omega)]
    unfold getL
    rw [List.find?_cons]
    by_cases h : (atL t i).f0 = a
    · rw [if_pos h, decide_eq_true h]; rfl
    · rw [if_neg h, decide_eq_false h, ih (i + 1) k (by omega) (by omega)]; rfl
theorem boarderref12_Get_s (t : List Le) (ht : t.length ≤ maxLen) (a : Int) (k : Nat) (hk : t.length < k) : boarderref12_Get.f k t a = some (ans (getL (goodL t) a)) := by
  unfold boarderref12_Get.f
  rw [boarderref12_Good_s t ht k hk]
  simp only [Option.bind_some]
  have hgl := goodL_len t
  have e := boarderref12_Get_l (goodL t) (by omega) a (goodL t).length 0 k (by omega) (by omega)
  rw [show boarderref12_Get.l0 k (goodL t) a 0 = boarderref12_Get.l0 k (goodL t) a ((0 : Nat) : Int) from rfl, e, List.drop_zero]

end Go.Proofs.Ytopbcamlagdieaa.PStats
set_option linter.unusedVariables false
set_option linter.unusedSimpArgs false
namespace Go.Proofs.Ytopbcamlagdieaa.PStats
open Go.RowKit Go.Proofs.YtopbcamlagdieaaW.PrintWords Go.Proofs.YtopbcamlagdieaaW.PrintLast Go.Proofs.YtopbcamlagdieaaW.PrintMore

/-! ### boarderref12.Free -/
theorem boarderref12_Free_s (t : List Le) (ht : t.length ≤ maxLen) (a : Int) (key : ByteArray) (now : Int) (k : Nat) (hk : t.length < k) : boarderref12_Free.f k t a key now = some (freeB (goodL t) a key now) := by
  unfold boarderref12_Free.f freeB
  rw [boarderref12_Get_s t ht a k hk]
  simp only [Option.bind_some]
  cases hq : getL (goodL t) a with
  | none => rfl
  | some l =>
    have hb := leaseB_of ((goodL_tab t).2.1 l (getL_mem hq).1)
    show (if true = true then (if l.f1 = 2 then some true else (if now ≥ l.f2 then some true else (if l.f1 = 1 then some (l.f3.toList == key.toList) else some false))) else some true) = some (!restsB l now && (!holdsB l now || decide (l.f3.toList = key.toList)))
    rw [if_pos rfl]
    unfold restsB holdsB
    by_cases c2 : l.f1 = 2
    · rw [if_pos c2, decide_eq_false (by omega), decide_eq_false (by omega)]; rfl
    · rw [if_neg c2]
      by_cases c3 : now ≥ l.f2
      · rw [if_pos c3, decide_eq_false (by omega), decide_eq_false (by omega)]; rfl
      · rw [if_neg c3]
        by_cases c1 : l.f1 = 1
        · rw [if_pos c1, decide_eq_false (by omega), decide_eq_true (by omega)]
          simp only [Bool.not_false, Bool.true_and, Bool.not_true, Bool.false_or]
          congr 1
          rw [Bool.eq_iff_iff]; simp
        · rw [if_neg c1, decide_eq_true (by omega)]; rfl

end Go.Proofs.Ytopbcamlagdieaa.PStats
set_option linter.unusedVariables false
set_option linter.unusedSimpArgs false
namespace Go.Proofs.Ytopbcamlagdieaa.PStats
open Go.RowKit Go.Proofs.YtopbcamlagdieaaW.PrintWords Go.Proofs.YtopbcamlagdieaaW.PrintLast Go.Proofs.YtopbcamlagdieaaW.PrintMore

/-! ### boarderref13.Keeper -/
theorem boarderref13_Keeper_l0 (l : List Sb) (hl : l.length ≤ 1000) (hS : ∀ s ∈ l, SmS s) (x : Int) : Ev (fun k => boarderref13_Keeper.l0 k x l 0) ((l.findSome? (keepG x)).getD (⟨#[]⟩, false)) := by
  have E : ∀ m (hm : m < l.length) (r : ByteArray × Bool), (keepG x l[m] = none → Ev (fun k => boarderref13_Keeper.l0 k x l ((m + 1 : Nat) : Int)) r) → (∀ v, keepG x l[m] = some v → r = v) → Ev (fun k => boarderref13_Keeper.l0 k x l (m : Int)) r := by
    intro m hm r h1 h2
    have h20 := (hS _ (List.getElem_mem hm)).2.1
    have eN : rd_T60 l (m : Int) = l[m] := rd_get hm
    refine Ev.step (f := fun k => boarderref13_Keeper.l1 k x l (m : Int) 0) (fun k => ?_) (loopF l[m].f3 (fun r => if r.f1 = x then some (r.f0, true) else none) (L := fun k i => boarderref13_Keeper.l1 k x l (m : Int) i) (fun i hi v hv => ?_) (fun i hi hv r h3 => ?_) (fun h3 => ?_) h2)
    · show boarderref13_Keeper.l0 (k + 1) _ _ _ = _
      rw [boarderref13_Keeper.l0, if_pos (by omega)]
    · by_cases c : l[m].f3[i].f1 = x
      · rw [if_pos c] at hv
        obtain rfl := Option.some.inj hv
        refine Ev.step (f := fun _ => some (l[m].f3[i].f0, true)) (fun k => ?_) Ev.some'
        show boarderref13_Keeper.l1 (k + 1) _ _ _ _ = _
        rw [boarderref13_Keeper.l1, if_pos (by omega), if_pos (by omega), eN, if_pos (by omega), if_pos (by omega), show rd_T65 l[m].f3 (i : Int) = l[m].f3[i] from rd_get hi, if_pos c]
      · rw [if_neg c] at hv; cases hv
    · by_cases c : l[m].f3[i].f1 = x
      · rw [if_pos c] at hv; cases hv
      · refine Ev.step (fun k => ?_) h3
        show boarderref13_Keeper.l1 (k + 1) _ _ _ _ = _
        rw [boarderref13_Keeper.l1, if_pos (by omega), if_pos (by omega), eN, if_pos (by omega), if_pos (by omega), show rd_T65 l[m].f3 (i : Int) = l[m].f3[i] from rd_get hi, if_neg c, wrap_next hi (by omega)]
    · refine Ev.step (fun k => ?_) (h1 h3)
      show boarderref13_Keeper.l1 (k + 1) _ _ _ _ = _
      rw [boarderref13_Keeper.l1, if_pos (by omega), if_pos (by omega), eN, if_neg (by omega), wrap_next hm (by omega)]
  refine loopF l (keepG x) (L := fun k i => boarderref13_Keeper.l0 k x l i) (fun i hi v hv => E i hi v (fun h => by rw [h] at hv; cases hv) (fun u hu => by rw [hu] at hv; exact (Option.some.inj hv).symm)) (fun i hi hv r h3 => E i hi r (fun _ => h3) (fun u hu => by rw [hv] at hu; cases hu)) (fun h3 => ?_) (fun v hv => getD_some hv)
  rw [getD_none h3]
  refine Ev.step (f := fun _ => some (⟨#[]⟩, false)) (fun k => ?_) Ev.some'
  show boarderref13_Keeper.l0 (k + 1) _ _ _ = _
  rw [boarderref13_Keeper.l0, if_neg (by omega)]
theorem boarderref13_Keeper_s (a b : Int) (nets : List Nt) (h : Sm nets) (x : Int) : Ev (fun k => boarderref13_Keeper.f k a b nets x) (keepL a b nets x) := by
  refine Ev.bind (boarderref13_Check_s a b nets h) (f := fun k t => if t = 0 then ((boarderref13_Flat.f k a b nets).bind fun bt355 => (boarderref13_Keeper.l0 k x bt355.1 0)) else some ((⟨#[]⟩ : ByteArray), false)) ?_
  unfold keepL rightL
  by_cases c : checkI a b nets = 0
  · rw [if_pos c]
    have hN : (spotsL nets).length ≤ 1000 := by have := spots_len (n := 0) (fun x hx => (h.2 x hx).1); have := h.1; unfold spotsL; omega
    have hS : ∀ x ∈ spotsL nets, SmS x.f2 := (spots_all (F := SmS)).2 (fun n hn s hs => (h.2 n hn).2 s hs)
    have e := boarderref13_Keeper_l0 ((spotsL nets).map (·.f2)) (by rw [List.length_map]; exact hN) (fun s hs => by obtain ⟨y, hy, rfl⟩ := List.mem_map.1 hs; exact hS y hy) x
    rw [List.findSome?_map] at e
    exact Ev.pos c (Ev.bind (boarderref13_Flat_s a b nets h) (f := fun k t => boarderref13_Keeper.l0 k x t.1 0) e)
  · rw [if_neg c]; exact Ev.neg c Ev.some'

end Go.Proofs.Ytopbcamlagdieaa.PStats
set_option linter.unusedVariables false
set_option linter.unusedSimpArgs false
namespace Go.Proofs.Ytopbcamlagdieaa.PStats
open Go.RowKit Go.Proofs.YtopbcamlagdieaaW.PrintWords Go.Proofs.YtopbcamlagdieaaW.PrintLast Go.Proofs.YtopbcamlagdieaaW.PrintMore

/-! ### boarderref13.InPool -/
theorem boarderref13_InPool_l0 (l : List Sb) (hl : l.length ≤ 1000) (hS : ∀ s ∈ l, SmS s) (y : Int) : Ev (fun k => boarderref13_InPool.l0 k y l 0) ((l.findSome? (poolG y)).getD false) := by
  have E : ∀ m (hm : m < l.length) (r : Bool), (poolG y l[m] = none → Ev (fun k => boarderref13_InPool.l0 k y l ((m + 1 : Nat) : Int)) r) → (∀ v, poolG y l[m] = some v → r = v) → Ev (fun k => boarderref13_InPool.l0 k y l (m : Int)) r := by
    intro m hm r h1 h2
    have h20 := (hS _ (List.getElem_mem hm)).1
    have eN : rd_T60 l (m : Int) = l[m] := rd_get hm
    refine Ev.step (f := fun k => boarderref13_InPool.l1 k y l (m : Int) 0) (fun k => ?_) (loopF l[m].f2 (fun p => if p.f0 ≤ y ∧ y ≤ p.f1 then some true else none) (L := fun k i => boarderref13_InPool.l1 k y l (m : Int) i) (fun i hi v hv => ?_) (fun i hi hv r h3 => ?_) (fun h3 => ?_) h2)
    · show boarderref13_InPool.l0 (k + 1) _ _ _ = _
      rw [boarderref13_InPool.l0, if_pos (by omega)]
    · by_cases c : l[m].f2[i].f0 ≤ y ∧ y ≤ l[m].f2[i].f1
      · rw [if_pos c] at hv
        obtain rfl := Option.some.inj hv
        refine Ev.step (f := fun _ => some true) (fun k => ?_) Ev.some'
        show boarderref13_InPool.l1 (k + 1) _ _ _ _ = _
        rw [boarderref13_InPool.l1, if_pos (by omega), if_pos (by omega), eN, if_pos (by omega), if_pos (by omega), show rd_T76 l[m].f2 (i : Int) = l[m].f2[i] from rd_get hi, if_pos c.1, if_pos c.2]
      · rw [if_neg c] at hv; cases hv
    · by_cases c : l[m].f2[i].f0 ≤ y ∧ y ≤ l[m].f2[i].f1
      · rw [if_pos c] at hv; cases hv
      · refine Ev.step (f := fun k => if y ≥ l[m].f2[i].f0 then (if y ≤ l[m].f2[i].f1 then some true else boarderref13_InPool.l1 k y l (m : Int) ((i + 1 : Nat) : Int)) else boarderref13_InPool.l1 k y l (m : Int) ((i + 1 : Nat) : Int)) (fun k => ?_) ?_
        · show boarderref13_InPool.l1 (k + 1) _ _ _ _ = _
          rw [boarderref13_InPool.l1, if_pos (by omega), if_pos (by omega), eN, if_pos (by omega), if_pos (by omega), show rd_T76 l[m].f2 (i : Int) = l[m].f2[i] from rd_get hi, wrap_next hi (by omega)]
        · by_cases c1 : y ≥ l[m].f2[i].f0
          · exact Ev.pos c1 (Ev.neg (fun h => c ⟨c1, h⟩) h3)
          · exact Ev.neg c1 h3
    · refine Ev.step (fun k => ?_) (h1 h3)
      show boarderref13_InPool.l1 (k + 1) _ _ _ _ = _
      rw [boarderref13_InPool.l1, if_pos (by omega), if_pos (by omega), eN, if_neg (by omega), wrap_next hm (by omega)]
  refine loopF l (poolG y) (L := fun k i => boarderref13_InPool.l0 k y l i) (fun i hi v hv => E i hi v (fun h => by rw [h] at hv; cases hv) (fun u hu => by rw [hu] at hv; exact (Option.some.inj hv).symm)) (fun i hi hv r h3 => E i hi r (fun _ => h3) (fun u hu => by rw [hv] at hu; cases hu)) (fun h3 => ?_) (fun v hv => getD_some hv)
  rw [getD_none h3]
  refine Ev.step (f := fun _ => some false) (fun k => ?_) Ev.some'
  show boarderref13_InPool.l0 (k + 1) _ _ _ = _
  rw [boarderref13_InPool.l0, if_neg (by omega)]
theorem boarderref13_InPool_s (a b : Int) (nets : List Nt) (h : Sm nets) (n y : Int) : Ev (fun k => boarderref13_InPool.f k a b nets n y) (poolL a b nets n y) := by
  refine Ev.bind (boarderref13_Check_s a b nets h) (f := fun k t => if t = 0 then (if n < 0 then boarderref13_InPool.j0 k n y true a b nets else boarderref13_InPool.j0 k n y (decide (n ≥ (nets.length : Int))) a b nets) else boarderref13_InPool.j0 k n y true a b nets) ?_
  have J : Ev (fun k => boarderref13_InPool.j0 k n y true a b nets) false := Ev.step (f := fun _ => some false) (fun k => by show boarderref13_InPool.j0 (k + 1) _ _ _ _ _ _ = _; rw [boarderref13_InPool.j0, if_pos rfl]) Ev.some'
  unfold poolL rightL
  by_cases c : checkI a b nets = 0
  · rw [if_pos c]
    refine Ev.pos c ?_
    unfold spotsL
    rw [spots_find n (poolG y) nets 0]
    by_cases c1 : n < 0
    · rw [if_neg (by omega)]; exact Ev.pos c1 J
    · refine Ev.neg c1 ?_
      by_cases c2 : n ≥ (nets.length : Int)
      · rw [if_neg (by omega), decide_eq_true c2]; exact J
      · rw [if_pos (by omega), decide_eq_false c2]
        obtain ⟨m, rfl⟩ := Int.eq_ofNat_of_zero_le (Int.not_lt.1 c1)
        have hm : m < nets.length := by have := Int.not_le.1 c2; omega
        have e1 : (nets.getD ((m : Int) - ((0 : Nat) : Int)).toNat ⟨[]⟩) = nets[m] := by
          rw [show ((m : Int) - ((0 : Nat) : Int)).toNat = m by omega, List.getD_eq_getElem?_getD, List.getElem?_eq_getElem hm]; rfl
        rw [e1]
        refine Ev.step (fun k => ?_) (boarderref13_InPool_l0 nets[m].f0 (by have := (h.2 _ (List.getElem_mem hm)).1; omega) (h.2 _ (List.getElem_mem hm)).2 y)
        show boarderref13_InPool.j0 (k + 1) _ _ _ _ _ _ = _
        rw [boarderref13_InPool.j0, if_neg (by simp), if_pos (by omega), if_pos (by omega), show rd_T56 nets (m : Int) = nets[m] from rd_get hm]
  · rw [if_neg c]; exact Ev.neg c J

end Go.Proofs.Ytopbcamlagdieaa.PStats
set_option linter.unusedVariables false
set_option linter.unusedSimpArgs false
namespace Go.Proofs.Ytopbcamlagdieaa.PStats
open Go.RowKit Go.Proofs.YtopbcamlagdieaaW.PrintWords Go.Proofs.YtopbcamlagdieaaW.PrintLast Go.Proofs.YtopbcamlagdieaaW.PrintMore

/-! ### boarderref15.May -/
theorem boarderref15_May_j1 (a b : Int) (nets : List Nt) (h : Sm nets) (n : Int) (key : ByteArray) (x : Int) (q : Bool) : Ev (fun k => boarderref15_May.j1 k n key x q a b nets) (q || poolA a b nets n key x) := by
  refine Ev.step (fun k => by rw [boarderref15_May.j1]) ?_
  refine Ev.ite' (fun c1 => Ev.ret (by simp [c1])) (fun c1 => ?_)
  refine Ev.bind (boarderref13_Keeper_s a b nets h x) (Ev.bind (boarderref13_InPool_s a b nets h n x) (Ev.ite' (fun c2 => ?_) (fun c2 => Ev.ret (by simp [c1, c2, poolA]))))
  exact Ev.ite' (fun c3 => Ev.ret (by simp [c1, c2, c3, poolA, beqD])) (fun c3 => Ev.ret (by simp [c1, c2, c3, poolA]))
theorem boarderref15_May_j0 (a b : Int) (nets : List Nt) (h : Sm nets) (n : Int) (key : ByteArray) (x : Int) (q : Bool) : Ev (fun k => boarderref15_May.j0 k n key x q a b nets) (!q && (mineA a b nets n key x || poolA a b nets n key x)) := by
  refine Ev.step (fun k => by rw [boarderref15_May.j0]) ?_
  refine Ev.ite' (fun c1 => Ev.ret (by simp [c1])) (fun c1 => ?_)
  refine Ev.bind (boarderref13_KeptFor_s a b nets h n key) (Ev.ite' (fun c2 => ?_) (fun c2 => ?_))
  · refine Ev.eqv (boarderref15_May_j1 a b nets h n key x _) ?_
    simp only [Bool.not_eq_true] at c1
    simp [c1, mineA, c2, beqD, eq_comm]
  · refine Ev.eqv (boarderref15_May_j1 a b nets h n key x _) ?_
    simp only [Bool.not_eq_true] at c1 c2
    simp [c1, mineA, c2]
theorem boarderref15_May_s (a b : Int) (nets : List Nt) (h : Sm nets) (t : List Le) (ht : Small t) (n : Int) (key : ByteArray) (x now : Int) : Ev (fun k => boarderref15_May.f k a b nets t n key x now) (mayA a b nets t n key x now) := by
  have hl : t.length ≤ maxLen := Nat.le_trans ht.1 (by decide)
  refine Ev.bind (boarderref15_Fair_s a b nets h t ht n key) (Ev.ite' (fun c1 => ?_) (fun c1 => ?_))
  · have hT := (fairA_iff.1 c1).2.1
    refine Ev.bind (boarderref15_other_s a b nets h t ht n key x now) (Ev.ite' (fun c2 => Ev.eqv (boarderref15_May_j0 a b nets h n key x _) (by simp [mayA, c1, c2])) (fun c2 => ?_))
    refine Ev.bind (a := freeB (goodL t) x key now) ⟨t.length + 1, fun k hk => boarderref12_Free_s t hl x key now k (by omega)⟩ (Ev.eqv (boarderref15_May_j0 a b nets h n key x _) ?_)
    rw [goodL_of hT]
    simp only [Bool.not_eq_true] at c2
    simp [mayA, c1, c2, Bool.and_comm]
  · exact Ev.eqv (boarderref15_May_j0 a b nets h n key x _) (by simp [mayA, c1])

end Go.Proofs.Ytopbcamlagdieaa.PStats
set_option linter.unusedVariables false
set_option linter.unusedSimpArgs false
namespace Go.Proofs.Ytopbcamlagdieaa.PStats
open Go.RowKit Go.Proofs.YtopbcamlagdieaaW.PrintWords Go.Proofs.YtopbcamlagdieaaW.PrintLast Go.Proofs.YtopbcamlagdieaaW.PrintMore

/-! ### boarderref15.Choose -/
section
variable {a b : Int} {nets : List Nt} (h : Sm nets) {t : List Le} (ht : Small t) {n : Int} {key : ByteArray} (now : Int) (hf : fairA a b nets t n key = true)
include h ht hf
theorem boarderref15_Choose_l3 (i : Nat) (hi : i < (subsA nets n).length) {r : Int × Bool} (h1 : Ev (fun k => boarderref15_Choose.l2 k nets n a b t key now ((i + 1 : Nat) : Int)) r) :
    Ev (fun k => boarderref15_Choose.l3 k (i : Int) nets n a b t key now 0) (((subsA nets n)[i]).f2.foldr (fun p r => seekA (fun x => mayA a b nets t n key x now) (rangeL p.f0 p.f1) r) r) := by
  have eS : rd_T60 (rd_T56 nets n).f0 (i : Int) = (subsA nets n)[i] := rd_get hi
  have eN : (rd_T56 nets n).f0 = subsA nets n := rfl
  have hc := (fairA_iff.1 hf).1
  have hS := (subsA_sm h n).2 _ (List.getElem_mem hi)
  have h10 := (subsA_sm h n).1
  refine loopR ((subsA nets n)[i]).f2 _ (L := fun k j => boarderref15_Choose.l3 k (i : Int) nets n a b t key now j) (fun j hj r h3 => ?_) ?_
  · have eP : rd_T76 ((subsA nets n)[i]).f2 (j : Int) = ((subsA nets n)[i]).f2[j] := rd_get hj
    have hb := pool_bounds hc (List.getElem_mem hi) (List.getElem_mem hj)
    refine Ev.step (fun k => by show boarderref15_Choose.l3 (k + 1) _ _ _ _ _ _ _ _ _ = _; rw [boarderref15_Choose.l3, eS, eN, if_pos (by omega), if_pos (by omega), if_pos (by omega), if_pos (by omega), eP]) ?_
    refine range_loop (L := fun k x => boarderref15_Choose.l4 k (i : Int) nets n (j : Int) a b t key now x) _ (fun x hx hx2 r h4 => ?_) (fun x hx => ?_)
    · refine Ev.step (fun k => by show boarderref15_Choose.l4 (k + 1) _ _ _ _ _ _ _ _ _ _ = _; rw [boarderref15_Choose.l4, eS, eN, eP, if_pos (by omega), if_pos (by omega), if_pos (by omega), if_pos (by omega), if_pos (by omega), show wrap64 (x + 1) = x + 1 by unfold wrap64; omega]) ?_
      exact Ev.bind (boarderref15_May_s a b nets h t ht n key _ now) (Ev.ite' (fun c => Ev.ret (by simp [c])) (fun c => by simpa [c] using h4))
    · refine Ev.step (fun k => by show boarderref15_Choose.l4 (k + 1) _ _ _ _ _ _ _ _ _ _ = _; rw [boarderref15_Choose.l4, eS, eN, eP, if_pos (by omega), if_pos (by omega), if_pos (by omega), if_pos (by omega), if_neg (by omega), wrap_next hj (by have := hS.1; omega)]) h3
  · refine Ev.step (fun k => by show boarderref15_Choose.l3 (k + 1) _ _ _ _ _ _ _ _ _ = _; rw [boarderref15_Choose.l3, eS, eN, if_pos (by omega), if_pos (by omega), if_neg (by omega), wrap_next hi (by omega)]) h1
theorem boarderref15_Choose_l2 : Ev (fun k => boarderref15_Choose.l2 k nets n a b t key now 0) (seekA (fun x => mayA a b nets t n key x now) (poolsA nets n) (0, false)) := by
  have e : seekA (fun x => mayA a b nets t n key x now) (poolsA nets n) (0, false) = (subsA nets n).foldr (fun s r => s.f2.foldr (fun p r => seekA (fun x => mayA a b nets t n key x now) (rangeL p.f0 p.f1) r) r) (0, false) := by
    unfold poolsA
    rw [← seekA_flat]
    congr 1
    funext s r
    rw [← seekA_flat]
  rw [e]
  have eN : (rd_T56 nets n).f0 = subsA nets n := rfl
  refine loopR (subsA nets n) _ (L := fun k i => boarderref15_Choose.l2 k nets n a b t key now i) (fun i hi r h3 => ?_) ?_
  · refine Ev.step (fun k => by show boarderref15_Choose.l2 (k + 1) _ _ _ _ _ _ _ _ = _; rw [boarderref15_Choose.l2, eN, if_pos (by omega)]) (boarderref15_Choose_l3 h ht now hf i hi h3)
  · exact Ev.step (fun k => by show boarderref15_Choose.l2 (k + 1) _ _ _ _ _ _ _ _ = _; rw [boarderref15_Choose.l2, eN, if_neg (by omega)]) Ev.some'
theorem boarderref15_Choose_l1 (want : Int) : Ev (fun k => boarderref15_Choose.l1 k t key a b nets n now want 0) (seekA (fun x => mayA a b nets t n key x now) ((t.filter (fun l => decide (l.f3.toList = key.toList) && inA a b nets n l.f0)).map (·.f0) ++ (want :: poolsA nets n)) (0, false)) := by
  have hn := (fairA_iff.1 hf).2.2.2
  have hl : t.length ≤ 500 := ht.1
  rw [seekA_append, ← seekF]
  refine loopR t _ (L := fun k i => boarderref15_Choose.l1 k t key a b nets n now want i) (fun i hi r h3 => ?_) ?_
  · have eT : rd_T68 t (i : Int) = t[i] := rd_get hi
    refine Ev.step (fun k => by show boarderref15_Choose.l1 (k + 1) _ _ _ _ _ _ _ _ _ = _; rw [boarderref15_Choose.l1, if_pos (by omega), if_pos (by omega), eT, wrap_next hi (by omega)]) ?_
    refine Ev.ite' (fun c1 => ?_) (fun c1 => by simpa [c1] using h3)
    refine Ev.bind (boarderref15_In_s a b nets h n _) (Ev.ite' (fun c2 => ?_) (fun c2 => by simpa [c1, c2] using h3))
    exact Ev.bind (boarderref15_May_s a b nets h t ht n key _ now) (Ev.ite' (fun c3 => Ev.ret (by simp [c1, c2, c3])) (fun c3 => by simpa [c1, c2, c3] using h3))
  · refine Ev.step (fun k => by show boarderref15_Choose.l1 (k + 1) _ _ _ _ _ _ _ _ _ = _; rw [boarderref15_Choose.l1, if_neg (by omega)]) ?_
    rw [seekA_cons]
    exact Ev.bind (boarderref15_May_s a b nets h t ht n key _ now) (Ev.ite' (fun c3 => Ev.ret (by simp [c3])) (fun c3 => by rw [if_neg c3]; exact Ev.pos hn.1 (Ev.pos hn.2 (boarderref15_Choose_l2 h ht now hf))))
theorem boarderref15_Choose_l0 (want : Int) : Ev (fun k => boarderref15_Choose.l0 k t key now a b nets n want false 0) (seekA (fun x => mayA a b nets t n key x now) (tryA a b nets t n key want now) (0, false)) := by
  have hl : t.length ≤ 500 := ht.1
  have hE : heldA a b nets t n key now = (t.filter (fun l => decide (l.f3.toList = key.toList) && (holdsB l now && inA a b nets n l.f0))).map (·.f0) := by
    unfold heldA ofL
    rw [List.filter_filter]
    congr 2
    funext l
    rw [Bool.and_comm, Bool.and_comm (inA a b nets n l.f0)]
  have key1 := loopRS (σ := Bool) t (fun l (r : Bool → Int × Bool) s => if (decide (l.f3.toList = key.toList) && (holdsB l now && inA a b nets n l.f0)) = true then (if mayA a b nets t n key l.f0 now = true then (l.f0, true) else r true) else r s)
    (L := fun k i s => boarderref15_Choose.l0 k t key now a b nets n want s i) (r0 := fun s => if s = true then (0, false) else seekA (fun x => mayA a b nets t n key x now) (keptA a b nets n key ++ ((t.filter (fun l => decide (l.f3.toList = key.toList) && inA a b nets n l.f0)).map (·.f0) ++ (want :: poolsA nets n))) (0, false)) ?_ ?_ false
  · rw [heldR (fun x => mayA a b nets t n key x now)] at key1
    refine Ev.eqv key1 ?_
    unfold tryA
    rw [hE]
    by_cases c : t.filter (fun l => decide (l.f3.toList = key.toList) && (holdsB l now && inA a b nets n l.f0)) = []
    · rw [c]
      simp only [List.map_nil, if_true, seekA_nil]
      rw [if_neg (by simp)]
      congr 3
      unfold oldA ofL
      rw [List.filter_filter]
      congr 1
      refine List.filter_congr fun x hx => ?_
      have hx2 := List.filter_eq_nil_iff.1 c x hx
      by_cases c1 : x.f3.toList = key.toList <;> by_cases c2 : inA a b nets n x.f0 = true <;> by_cases c3 : holdsB x now = true <;> simp_all
    · rw [if_pos (Or.inr c), if_neg (fun e => c (List.map_eq_nil_iff.1 e))]
  · intro i hi r h3 s
    have eT : rd_T68 t (i : Int) = t[i] := rd_get hi
    refine Ev.step (fun k => by show boarderref15_Choose.l0 (k + 1) _ _ _ _ _ _ _ _ _ _ = _; rw [boarderref15_Choose.l0, if_pos (by omega), if_pos (by omega), eT, wrap_next hi (by omega)]) ?_
    refine Ev.ite' (fun c1 => ?_) (fun c1 => by simpa [c1] using h3 s)
    refine Ev.bind (Ev.congr (fun _ => boarderref12_Holds_s t[i] now) (Ev.now _)) (Ev.ite' (fun c2 => ?_) (fun c2 => by simpa [c1, c2] using h3 s))
    refine Ev.bind (boarderref15_In_s a b nets h n _) (Ev.ite' (fun c3 => ?_) (fun c3 => by simpa [c1, c2, c3] using h3 s))
    exact Ev.bind (boarderref15_May_s a b nets h t ht n key _ now) (Ev.ite' (fun c4 => Ev.ret (by simp [c1, c2, c3, c4])) (fun c4 => by simpa [c1, c2, c3, c4] using h3 true))
  · intro s
    refine Ev.step (fun k => by show boarderref15_Choose.l0 (k + 1) _ _ _ _ _ _ _ _ _ _ = _; rw [boarderref15_Choose.l0, if_neg (by omega)]) ?_
    refine Ev.ite' (fun c1 => Ev.ret (by simp [c1])) (fun c1 => ?_)
    rw [if_neg c1]
    have hj : Ev (fun k => boarderref15_Choose.j0 k t key a b nets n now want) (seekA (fun x => mayA a b nets t n key x now) ((t.filter (fun l => decide (l.f3.toList = key.toList) && inA a b nets n l.f0)).map (·.f0) ++ (want :: poolsA nets n)) (0, false)) :=
      Ev.step (fun k => by rw [boarderref15_Choose.j0]) (boarderref15_Choose_l1 h ht now hf want)
    refine Ev.bind (boarderref13_KeptFor_s a b nets h n key) (Ev.ite' (fun c2 => ?_) (fun c2 => ?_))
    · rw [show keptA a b nets n key = [(keptL a b nets n key).1] from if_pos c2, List.singleton_append, seekA_cons]
      exact Ev.bind (boarderref15_May_s a b nets h t ht n key _ now) (Ev.ite' (fun c3 => Ev.ret (by simp [c3])) (fun c3 => by rw [if_neg c3]; exact hj))
    · rw [show keptA a b nets n key = [] from if_neg c2]
      exact hj
end
theorem boarderref15_Choose_s (a b : Int) (nets : List Nt) (h : Sm nets) (t : List Le) (ht : Small t) (n : Int) (key : ByteArray) (want now : Int) : Ev (fun k => boarderref15_Choose.f k a b nets t n key want now) (ansA (chooseA a b nets t n key want now)) := by
  refine Ev.bind (boarderref15_Fair_s a b nets h t ht n key) (Ev.ite' (fun c => Ev.ret ?_) (fun c => ?_))
  · unfold chooseA; rw [if_neg (by simpa using c)]; rfl
  · have c : fairA a b nets t n key = true := by simpa using c
    rw [choose_seek c]
    exact boarderref15_Choose_l0 h ht now c want

end Go.Proofs.Ytopbcamlagdieaa.PStats
set_option linter.unusedVariables false
set_option linter.unusedSimpArgs false
namespace Go.Proofs.Ytopbcamlagdieaa.Pure
open Go.RowKit Go.Proofs.YtopbcamlagdieaaW.PrintWords Go.Proofs.YtopbcamlagdieaaW.PrintLast Go.Proofs.YtopbcamlagdieaaW.PrintMore Go.Proofs.Ytopbcamlagdieaa.PStats

theorem StatsFree : boarderlaw26_StatsFree.Pure := by
  intro a b nets t n key now _ ht _ _ _
  refine Ev.rounds (great26 ht.1 fun h hs => ?_)
  refine Ev.ite' (fun _ => knows26) (fun c1 => Ev.ite' (fun _ => knows26) (fun c2 => Ev.ite' (fun _ => knows26) (fun c3 => ?_)))
  refine Ev.bind (boarderref15_Fair_s a b nets h t hs n key) (Ev.ite' (fun _ => knows26) (fun c4 => ?_))
  have hf : fairA a b nets t n key = true := by simpa using c4
  refine Ev.bind (boarderref13_KeptFor_s a b nets h n key) (Ev.ite' (fun _ => knows26) (fun c5 => ?_))
  have hk : (keptL a b nets n key).2 = false := by simpa using c5
  have hT := (fairA_iff.1 hf).2.1
  have hc := (fairA_iff.1 hf).1
  refine Ev.bind (a := ofL t key) ⟨t.length + 1, fun k hk => (boarderref12_Of_s t hs.1 key k (by omega)).trans (by rw [goodL_of hT]; rfl)⟩ (Ev.ite' (fun _ => knows26) (fun c6 => ?_))
  have ho : ofL t key = [] := List.eq_nil_of_length_eq_zero (by omega)
  obtain ⟨w1, w2⟩ := wait_spec (a := a) (b := b) (nets := nets) (n := n) (key := key) hf (now := now) (by omega)
  refine Ev.bind (stats_Wait_s a b nets h t hs n now) ?_
  generalize waitA a b nets t n now = w at *
  obtain ⟨m, ok⟩ := w
  have hno : ∀ w, (¬ ∃ x, poolL a b nets n x = true ∧ busyA a b nets t w x = false) → (ansA (chooseA a b nets t n key 0 w)).2 = false := fun w hh => by
    rw [← Bool.not_eq_true, choose_iff hf hk ho]
    exact hh
  cases ok with
  | false =>
    obtain ⟨e, h1⟩ := w1 rfl
    refine Ev.pos rfl (Ev.bind (boarderref15_Choose_s a b nets h t hs n key 0 now) (Ev.pos (by rw [hno _ h1]; rfl) (Ev.pos e knows26)))
  | true =>
    obtain ⟨h0, h1, h2, h3⟩ := w2 rfl
    dsimp only at h0 h1 h2 h3
    have e1 : wrap64 (now + m) = now + m := by unfold wrap64; omega
    have e2 : wrap64 (now + m - 1) = now + m - 1 := by unfold wrap64; omega
    have hy := (choose_iff hf hk ho (now + m)).2 h2
    refine Ev.neg (by intro c; cases c) (Ev.bind (by rw [e1]; exact boarderref15_Choose_s a b nets h t hs n key 0 (now + m)) (Ev.ite' (fun c => ?_) (fun c => Ev.pos hy (Ev.pos (by dsimp only at c ⊢; omega) knows26))))
    refine Ev.bind (by rw [e1, e2]; exact boarderref15_Choose_s a b nets h t hs n key 0 (now + m - 1)) (Ev.pos hy (Ev.pos (by rw [hno _ (h3 c)]; rfl) knows26))

end Go.Proofs.Ytopbcamlagdieaa.Pure
namespace Go.Proofs.Ytopbcamlagdieaa.statsFree
open Go.Proofs.Ytopbcamlagdieaa.PStats Go.Proofs.Ytopbcamlagdieaa.Abs Go.ChangeShapes Go.WideShapes Go.ChangeAt Go.RowKit
open Go.ChangeMaps (open_string shut_string)
open Go.Proofs.YtopbcamlagdieaaW.PrintWords
set_option linter.unusedVariables false
set_option linter.unusedSimpArgs false
theorem own : ownKnob Try.prog.godebug = none := by kernel_rfl
theorem laidOut : laidOutB Try.prog = true := by kernel_rfl
set_option maxRecDepth 100000 in
theorem lifted (os : Os) (started : os.Started) (H : Type) (enc : TypeId × Value → H) :
    ReturnsInHanded {} Try.checked os 5 .any (Rows.statsFreeSpec.pre6 enc Try.prog Try.f5 Rows.statsFreeRow.domain false) (Rows.statsFreeSpec.post enc Try.prog Try.f5 false true false false) := by
  refine returnsInHanded_of_change_sized (C := Try.checked) own started (by kernel_rfl) Try.func5
    (ChangeSpec.witness6 (enc := enc) (C := Try.checked) false ⟨#[], #[.agg #[.int .i64 0, .int .i64 0, .slice none 0 0], .slice none 0 0, .int .i64 0, .string ByteArray.empty, .int .i64 0], []⟩ 8 (by kernel_rfl) (by kernel_rfl) (by kernel_rfl) (by kernel_rfl)) ?_
  intro W base args ds gs before hval0 hW hcnd hsz0 _
  have hsz : (DataW.weightsEach Try.prog (Try.f5.params.toList ++ Rows.statsFreeSpec.plain.varTypes Try.prog) (ds ++ gs)).all (· ≤ reachBytes) = true := hsz0
  have hval : ∀ (j : Nat) t v, Try.f5.params[j]? = some t → args[j]? = some v → Value.okWide Try.prog W .any base t v := hval0
  have hW' := hW
  obtain ⟨p, q, hA0, hV, rfl, hfz, hnd⟩ := hW
  have hA : DataW.TrodAll enc Try.prog W 0 (fun _ => true) true Try.f5.params.toList args.toList ds p := hA0
  rw [Try.params5] at hA hval hsz
  obtain ⟨v0, vs0, d0, ds0, p0, q0, hargs, rfl, rfl, h0, r0⟩ := trodAll_cons hA
  obtain ⟨v1, vs1, d1, ds1, p1, q1, rfl, rfl, rfl, h1, r1⟩ := trodAll_cons r0
  obtain ⟨v2, vs2, d2, ds2, p2, q2, rfl, rfl, rfl, h2, r2⟩ := trodAll_cons r1
  obtain ⟨v3, vs3, d3, ds3, p3, q3, rfl, rfl, rfl, h3, r3⟩ := trodAll_cons r2
  obtain ⟨v4, vs4, d4, ds4, p4, q4, rfl, rfl, rfl, h4, r4⟩ := trodAll_cons r3
  obtain ⟨rfl, rfl, rfl⟩ := trodAll_nil r4
  obtain rfl : args = #[v0, v1, v2, v3, v4] := by cases args; simp_all
  obtain ⟨rfl, rfl⟩ := trodVars_none hV
  have k0 := h0
  have lt0 : ∀ x ∈ p0, x.block < W.heap.size := by obtain ⟨m, hm⟩ := k0; exact DataW.trod_lt m _ _ _ hm
  obtain ⟨cs0, rfl, hcs0⟩ := okWide_struct Try.underlying34 (hval 0 34 v0 rfl rfl)
  obtain ⟨x0, hr0, ok_0⟩ : RaT eS34 ok34 W cs0.toList := by
    obtain ⟨fuel, hf⟩ := h0
    exact ra34 H enc W fuel _ _ hf
  have k1 := h1
  have lt1 : ∀ x ∈ p1, x.block < W.heap.size := by obtain ⟨m, hm⟩ := k1; exact DataW.trod_lt m _ _ _ hm
  obtain ⟨A1, n1, c1, rfl⟩ := okWide_slice Try.underlying35 (hval 1 35 v1 rfl rfl)
  obtain ⟨l1, hr1, ok_1⟩ : RaT (fun l : List (S68) => [vS68 l]) (fun xs : List (S68) => xs.length ≤ maxLen ∧ ∀ x ∈ xs, ok68 x) W [.slice A1 n1 c1] := by
    obtain ⟨fuel, hf⟩ := h1
    exact (ra_slice (d := eS68) (sz := 4) (z := z68) Try.underlying35 (by kernel_rfl) (fun _ => rfl) ra68) H enc W fuel _ _ hf
  obtain rfl : n1 = l1.length := (arg_one hr1).sl_len
  obtain ⟨a2, rfl, rfl, rfl, w2⟩ := open_int Try.underlying3 (hval 2 3 v2 rfl rfl) h2
  obtain ⟨a3, rfl, rfl, rfl, y3⟩ := open_string Try.underlying9 (hval 3 9 v3 rfl rfl) h3
  have w3 : a3.size ≤ 140737488351232 := by
    have z := sized_string hsz (j := 3) (t := 9) rfl rfl
    rw [Array.length_toList] at z
    exact z
  obtain ⟨a4, rfl, rfl, rfl, w4⟩ := open_int Try.underlying3 (hval 4 3 v4 rfl rfl) h4
  clear hA0 hval0 hsz0 hsz
  refine (boarderlaw26_StatsFree.walk Pure.StatsFree x0.f0 x0.f1 x0.f2 l1 a2 a3 a4 W ok_0 ok_1 w2 w3 w4 cs0 hr0 A1 c1 hr1).mono fun e W' ⟨he, bel⟩ => ?_
  subst he
  exact ⟨_, rfl, _, _, _, [], _, [], hW', trodAll_mk1 (shut_bool Try.underlying4 _), (trodAll_cons_mk (Below.trod laidOut (by kernel_rfl) (of_decide_eq_true (by kernel_rfl)) k0 bel lt0) (trodAll_cons_mk (Below.trod laidOut (by kernel_rfl) (of_decide_eq_true (by kernel_rfl)) k1 bel lt1) (trodAll_cons_mk (shut_int Try.underlying3 w2) (trodAll_cons_mk (shut_string Try.underlying9 y3) (trodAll_cons_mk (shut_int Try.underlying3 w4) trodAll_mk0))))), rfl, bel.frame _, fun h => by cases h⟩
theorem over : Rows.statsFreeRow.holds Try.pinned (OpenSpec.ofChange Rows.statsFreeSpec) :=
  OpenClaim.holds_of_wide 5 Try.f5 rfl rfl rfl rfl rfl rfl rfl ⟨rfl, rfl, rfl, rfl, rfl⟩ rfl rfl rfl rfl rfl (by kernel_rfl) Try.func5 (by kernel_rfl)
    (of_decide_eq_true (by kernel_rfl)) (by unfold Func.isWrapper; first | (rw [if_pos (by decide +kernel)]; kernel_rfl) | (rw [if_neg (by decide +kernel)]; exact ⟨rfl, rfl⟩))
    (fun os started H enc _ => lifted os started H enc)
theorem proved : Rows.StatsFreeSaid := over
#print axioms proved
end Go.Proofs.Ytopbcamlagdieaa.statsFree
