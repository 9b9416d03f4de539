/- What the printed functions of this group come to, in plain words; each under its theorem's own conditions. -/
import Derived.Test.YtdcabfonjmeajaaPConfx10
import Derived.Test.YtdcabfonjmeajaaPConfx11
import Derived.Test.YtdcabfonjmeajaaPConfx7
import Derived.Test.YtdcabfonjmeajaaPConfx8
import Derived.Test.YtdcabfonjmeajaaPConfx9
import Derived.Test.YtdcabfonjmeajaaAdr
import Derived.Test.YtdcabfonjmeajaaConfCfg
import Derived.Test.YtdcabfonjmeajaaConfS1
set_option linter.unusedVariables false
set_option linter.unusedSimpArgs false
namespace Go.Proofs.Ytdcabfonjmeajaa.PConf
open Go.RowKit Go.Proofs.YtdcabfonjmeajaaW.PrintWords Go.Proofs.YtdcabfonjmeajaaW.PrintLast Go.Proofs.YtdcabfonjmeajaaW.PrintMore

/-! ### boarderref01.Right -/
theorem boarderref01_Right_s (a : Int) : boarderref01_Right.f a = some (decide (0 ≤ a ∧ a ≤ 4294967295)) := by
  unfold boarderref01_Right.f
  by_cases h : a ≥ 0
  · rw [if_pos h]; congr 1; exact decide_eq_decide.2 ⟨fun h2 => ⟨h, by omega⟩, fun h2 => by omega⟩
  · rw [if_neg h, decide_eq_false (by omega)]

/-! ### boarderref07.Right -/
theorem boarderref07_Right_s (s : ByteArray) : boarderref07_Right.f s = some (keyB s) := by
  unfold boarderref07_Right.f keyB
  by_cases h0 : (s.size : Int) < 3
  · rw [if_pos h0, decide_eq_false (show ¬ 3 ≤ s.size by omega)]; rfl
  · rw [if_neg h0, if_pos (by omega), decide_eq_true (show 3 ≤ s.size by omega), Bool.true_and]
    by_cases h1 : bt s 0 = 105
    · rw [if_pos h1]
      by_cases h2 : (s.size : Int) ≤ 256
      · rw [if_pos h2, decide_eq_true (show bt s 0 = 105 ∧ s.size ≤ 256 from ⟨h1, by omega⟩)]; rfl
      · rw [if_neg h2, if_neg (by omega), decide_eq_false (by omega), decide_eq_false (by omega)]; rfl
    · rw [if_neg h1, decide_eq_false (show ¬ (bt s 0 = 105 ∧ s.size ≤ 256) from fun h => h1 h.1), Bool.false_or]
      by_cases h3 : bt s 0 = 104
      · rw [if_pos h3]
        congr 1
        exact decide_eq_decide.2 ⟨fun h => ⟨h3, by omega⟩, fun h => by omega⟩
      · rw [if_neg h3, decide_eq_false (fun h => h3 h.1)]

/-! ### boarderref01.Size -/
theorem boarderref01_Size_l (d : Nat) : ∀ (n : Int) (x : Nat) (k : Nat), 0 ≤ n → n + d = 32 → x * 2 ^ d ≤ 4294967296 → d < k → boarderref01_Size.l0 k x n = some ((x * 2 ^ d : Nat) : Int) := by
  induction d with
  | zero =>
    intro n x k h0 h1 h2 hk
    obtain ⟨k, rfl⟩ : ∃ m, k = m + 1 := ⟨k - 1, by omega⟩
    rw [boarderref01_Size.l0, if_neg (by omega)]; simp
  | succ d ih =>
    intro n x k h0 h1 h2 hk
    obtain ⟨k, rfl⟩ : ∃ m, k = m + 1 := ⟨k - 1, by omega⟩
    have hp := Nat.two_pow_pos d
    have e : x * 2 ^ (d + 1) = x * 2 * 2 ^ d := by rw [Nat.pow_succ, Nat.mul_assoc, Nat.mul_comm 2]
    have hx : x * 2 ≤ 4294967296 := by
      rw [e] at h2
      exact Nat.le_trans (Nat.le_mul_of_pos_right _ hp) h2
    rw [boarderref01_Size.l0, if_pos (by omega), show wrap64 ((x : Int) * 2) = ((x * 2 : Nat) : Int) from by unfold wrap64; omega, show wrap64 (n + 1) = n + 1 from by unfold wrap64; omega, ih (n + 1) (x * 2) k (by omega) (by omega) (by omega) (by omega), e]
theorem boarderref01_Size_s (n : Int) (h0 : 0 ≤ n) (h1 : n ≤ 32) (k : Nat) (hk : 40 ≤ k) : boarderref01_Size.f k n = some (Com.sz n : Int) := by
  have e := boarderref01_Size_l (32 - n.toNat) n 1 k h0 (by omega) (by have := Com.sz_le n; unfold Com.sz at this; omega) (by omega)
  rw [Nat.one_mul] at e
  exact e

/-! ### boarderref01.Fair -/
theorem boarderref01_Fair_s (b n : Int) (k : Nat) (hk : 40 ≤ k) : boarderref01_Fair.f k b n = some (Com.fairB b n) := by
  unfold boarderref01_Fair.f Com.fairB
  by_cases h0 : n ≥ 0
  · rw [if_pos h0]
    by_cases h1 : n ≤ 32
    · rw [if_pos h1, boarderref01_Right_s]
      simp only [Option.bind_some]
      by_cases h2 : 0 ≤ b ∧ b ≤ 4294967295
      · have hp := Com.sz_pos n
        rw [decide_eq_true h2, if_pos rfl, boarderref01_Size_s n h0 h1 k hk, Option.bind_some, if_neg (by omega), Int.tmod_eq_emod_of_nonneg h2.1]
        congr 1
        rw [Bool.eq_iff_iff, beq_iff_eq, decide_eq_true_iff]
        exact ⟨fun h => ⟨h0, h1, h2.1, h2.2, h⟩, fun h => h.2.2.2.2⟩
      · rw [decide_eq_false h2, if_neg (by simp), decide_eq_false (fun h => h2 ⟨h.2.2.1, h.2.2.2.1⟩)]
    · rw [if_neg h1, decide_eq_false (fun h => h1 h.2.1)]
  · rw [if_neg h0, decide_eq_false (fun h => h0 h.1)]

/-! ### boarderref13.subnet -/
theorem boarderref13_subnet_l1 (a b : Int) (p : List Rg) (l : List Rs) (c d e : Int) (hl : l.length ≤ 20) {r : Bool} (hr : r = decide (∀ i, (h : i < l.length) → keyB l[i].f0 = true)) : Ev (fun k => boarderref13_subnet.l1 k 0 a b p l c d e) r := by
  refine loopC (n := l.length) (L := fun k i => boarderref13_subnet.l1 k i a b p l c d e) (fun i => (h : i < l.length) → keyB l[i].f0 = true) false (fun i hi hp r h => ?_) (fun i hi hp => ?_) (fun h => ?_) (fun h => ?_)
  · refine Ev.step (fun k => ?_) h
    show boarderref13_subnet.l1 (k + 1) _ _ _ _ _ _ _ _ = _
    rw [boarderref13_subnet.l1, if_pos (by omega), if_pos (by omega), show rd_T59 l (i : Int) = l[i] from rd_get hi, boarderref07_Right_s, hp hi, Option.bind_some, if_pos rfl, wrap_next hi (by omega)]
  · refine Ev.step (f := fun _ => some false) (fun k => ?_) Ev.some'
    have h2 : keyB l[i].f0 = false := by
      cases h : keyB l[i].f0 with
      | false => rfl
      | true => exact absurd (fun _ => h) hp
    show boarderref13_subnet.l1 (k + 1) _ _ _ _ _ _ _ _ = _
    rw [boarderref13_subnet.l1, if_pos (by omega), if_pos (by omega), show rd_T59 l (i : Int) = l[i] from rd_get hi, boarderref07_Right_s, h2, Option.bind_some, if_neg (by simp)]
  · rw [hr, decide_eq_true (fun i hi => h i hi hi)]
    refine Ev.step (f := fun _ => some true) (fun k => ?_) Ev.some'
    show boarderref13_subnet.l1 (k + 1) _ _ _ _ _ _ _ _ = _
    rw [boarderref13_subnet.l1, if_neg (by omega)]
  · obtain ⟨i, hi, hp⟩ := h
    rw [hr]
    exact decide_eq_false (fun h => hp (fun hi => h i hi))
theorem boarderref13_subnet_l0 (a b : Int) (p : List Rg) (l : List Rs) (c d e : Int) (hl : l.length ≤ 20) (hp : p.length ≤ 20) {r : Bool}
    (hr : r = decide ((∀ i, (h : i < p.length) → p[i].f0 ≤ p[i].f1) ∧ ∀ i, (h : i < l.length) → keyB l[i].f0 = true)) : Ev (fun k => boarderref13_subnet.l0 k 0 a b p l c d e) r := by
  refine loopC (n := p.length) (L := fun k i => boarderref13_subnet.l0 k i a b p l c d e) (fun i => (h : i < p.length) → p[i].f0 ≤ p[i].f1) false (fun i hi hp r h => ?_) (fun i hi hp => ?_) (fun h => ?_) (fun h => ?_)
  · refine Ev.step (fun k => ?_) h
    have := hp hi
    clear hp
    show boarderref13_subnet.l0 (k + 1) _ _ _ _ _ _ _ _ = _
    rw [boarderref13_subnet.l0, if_pos (by omega), if_pos (by omega), show rd_T62 p (i : Int) = p[i] from rd_get hi, if_neg (by omega), wrap_next hi (by omega)]
  · refine Ev.step (f := fun _ => some false) (fun k => ?_) Ev.some'
    have : p[i].f1 < p[i].f0 := by
      by_cases h : p[i].f1 < p[i].f0
      · exact h
      · exact absurd (fun _ => Int.not_lt.1 h) hp
    clear hp
    show boarderref13_subnet.l0 (k + 1) _ _ _ _ _ _ _ _ = _
    rw [boarderref13_subnet.l0, if_pos (by omega), if_pos (by omega), show rd_T62 p (i : Int) = p[i] from rd_get hi, if_pos this]
  · refine Ev.step (fun k => ?_) (boarderref13_subnet_l1 a b p l c d e hl ?_)
    · show boarderref13_subnet.l0 (k + 1) _ _ _ _ _ _ _ _ = _
      rw [boarderref13_subnet.l0, if_neg (by omega)]
    · rw [hr]; exact decide_eq_decide.2 ⟨fun h2 => h2.2, fun h2 => ⟨fun i hi => h i hi hi, h2⟩⟩
  · obtain ⟨i, hi, hp⟩ := h
    rw [hr]
    exact decide_eq_false (fun h => hp (fun hi => h.1 i hi))
open Classical in
theorem boarderref13_subnet_s (s : Sb) (hs : SmS s) : Ev (fun k => boarderref13_subnet.f k s.f0 s.f1 s.f2 s.f3 s.f4 s.f5 s.f6) (decide (FairS s)) := by
  obtain ⟨h1, h2, h3⟩ := hs
  have J1 : ∀ (x : Bool), (x = true → ¬ FairS s) → (x = false → (FairS s ↔ ((∀ i, (h : i < s.f2.length) → s.f2[i].f0 ≤ s.f2[i].f1) ∧ ∀ i, (h : i < s.f3.length) → keyB s.f3[i].f0 = true))) →
      Ev (fun k => boarderref13_subnet.j1 k x s.f0 s.f1 s.f2 s.f3 s.f4 s.f5 s.f6) (decide (FairS s)) := by
    intro x hx hy
    cases x with
    | true =>
      rw [decide_eq_false (hx rfl)]
      exact Ev.step (f := fun _ => some false) (fun k => by show boarderref13_subnet.j1 (k + 1) _ _ _ _ _ _ _ _ = _; rw [boarderref13_subnet.j1, if_pos rfl]) Ev.some'
    | false =>
      refine Ev.step (fun k => by show boarderref13_subnet.j1 (k + 1) _ _ _ _ _ _ _ _ = _; rw [boarderref13_subnet.j1, if_neg (by simp)]) (boarderref13_subnet_l0 _ _ _ _ _ _ _ h2 h1 ?_)
      exact decide_eq_decide.2 (hy rfl)
  have J0 : ∀ (x : Bool), (x = true → ¬ FairS s) → (x = false → (Com.fairB s.f0 s.f1 = true ∧ 8 ≤ s.f1 ∧ s.f1 ≤ 30 ∧ s.f2.length ≤ 4 ∧ s.f3.length ≤ 8)) →
      Ev (fun k => boarderref13_subnet.j0 k x s.f0 s.f1 s.f2 s.f3 s.f4 s.f5 s.f6) (decide (FairS s)) := by
    intro x hx hy
    cases x with
    | true =>
      rw [decide_eq_false (hx rfl)]
      exact Ev.step (f := fun _ => some false) (fun k => by show boarderref13_subnet.j0 (k + 1) _ _ _ _ _ _ _ _ = _; rw [boarderref13_subnet.j0, if_pos rfl]) Ev.some'
    | false =>
      obtain ⟨b1, b2, b3, b4, b5⟩ := hy rfl
      refine Ev.step (fun k => by show boarderref13_subnet.j0 (k + 1) _ _ _ _ _ _ _ _ = _; rw [boarderref13_subnet.j0, if_neg (by simp)]) ?_
      by_cases a1 : s.f4 < 0
      · exact Ev.pos a1 (J1 true (fun _ h => by have := h.2.2.2.2.2.1; omega) (fun h => by cases h))
      · refine Ev.neg a1 ?_
        by_cases a2 : s.f4 > 99
        · exact Ev.pos a2 (J1 true (fun _ h => by have := h.2.2.2.2.2.2.1; omega) (fun h => by cases h))
        · refine Ev.neg a2 ?_
          by_cases a3 : s.f6 < 1
          · exact Ev.pos a3 (J1 true (fun _ h => by have := h.2.2.2.2.2.2.2.1; omega) (fun h => by cases h))
          · refine Ev.neg a3 (J1 _ (fun h h2 => ?_) (fun h => ?_))
            · have := of_decide_eq_true h; have := h2.2.2.2.2.2.2.2.2.1; omega
            · have := of_decide_eq_false h
              exact ⟨fun h => h.2.2.2.2.2.2.2.2.2, fun h => ⟨b1, b2, b3, b4, b5, Int.not_lt.1 a1, Int.not_lt.1 a2, Int.not_lt.1 a3, Int.not_lt.1 this, h⟩⟩
  refine Ev.bind (g := fun k => boarderref01_Fair.f k s.f0 s.f1) (a := Com.fairB s.f0 s.f1) ⟨40, fun k hk => boarderref01_Fair_s _ _ k hk⟩ (f := fun k t => if t = true then _ else _) ?_
  by_cases a1 : Com.fairB s.f0 s.f1 = true
  · refine Ev.pos a1 ?_
    by_cases a2 : s.f1 < 8
    · exact Ev.pos a2 (J0 true (fun _ h => by have := h.2.1; omega) (fun h => by cases h))
    · refine Ev.neg a2 ?_
      by_cases a3 : s.f1 > 30
      · exact Ev.pos a3 (J0 true (fun _ h => by have := h.2.2.1; omega) (fun h => by cases h))
      · refine Ev.neg a3 ?_
        by_cases a4 : (s.f2.length : Int) > 4
        · exact Ev.pos a4 (J0 true (fun _ h => by have := h.2.2.2.1; omega) (fun h => by cases h))
        · refine Ev.neg a4 (J0 _ (fun h h2 => ?_) (fun h => ?_))
          · have := of_decide_eq_true h; have := h2.2.2.2.2.1; omega
          · have := of_decide_eq_false h; exact ⟨a1, by omega, by omega, by omega, by omega⟩
  · exact Ev.neg a1 (J0 true (fun _ h => a1 h.1) (fun h => by cases h))

/-! ### boarderref13.Form -/
open Classical in
theorem boarderref13_Form_l1 (a b : Int) (nets : List Nt) (m : Nat) (hm : m < nets.length) (h : Sm nets) {r : Bool} (h1 : (∀ s ∈ nets[m].f0, FairS s) → Ev (fun k => boarderref13_Form.l0 k ((m + 1 : Nat) : Int) a b nets) r) (h2 : (¬ ∀ s ∈ nets[m].f0, FairS s) → r = false) :
    Ev (fun k => boarderref13_Form.l1 k (m : Int) 0 a b nets) r := by
  have hN := h.1
  have h10 := (h.2 nets[m] (List.getElem_mem hm)).1
  have eN : rd_T41 nets (m : Int) = nets[m] := rd_get hm
  refine loopC (n := nets[m].f0.length) (L := fun k i => boarderref13_Form.l1 k (m : Int) i a b nets) (fun i => ∃ h : i < nets[m].f0.length, FairS nets[m].f0[i]) false (fun i hi hp r h3 => ?_) (fun i hi hp => ?_) (fun h3 => ?_) (fun h3 => ?_)
  · obtain ⟨_, hp⟩ := hp
    have e := boarderref13_subnet_s nets[m].f0[i] ((h.2 _ (List.getElem_mem hm)).2 _ (List.getElem_mem hi))
    rw [decide_eq_true hp] at e
    refine Ev.step (fun k => ?_) (Ev.bind e (f := fun k t => if t = true then boarderref13_Form.l1 k (m : Int) ((i + 1 : Nat) : Int) a b nets else some false) (Ev.pos rfl h3))
    show boarderref13_Form.l1 (k + 1) _ _ _ _ _ = _
    rw [boarderref13_Form.l1, if_pos (by omega), if_pos (by omega), eN, if_pos (by omega), if_pos (by omega), show rd_T57 nets[m].f0 (i : Int) = nets[m].f0[i] from rd_get hi, wrap_next hi (by omega)]
  · have e := boarderref13_subnet_s nets[m].f0[i] ((h.2 _ (List.getElem_mem hm)).2 _ (List.getElem_mem hi))
    rw [decide_eq_false (fun h => hp ⟨hi, h⟩)] at e
    refine Ev.step (fun k => ?_) (Ev.bind e (f := fun k t => if t = true then boarderref13_Form.l1 k (m : Int) ((i + 1 : Nat) : Int) a b nets else some false) (Ev.neg (by simp) Ev.some'))
    show boarderref13_Form.l1 (k + 1) _ _ _ _ _ = _
    rw [boarderref13_Form.l1, if_pos (by omega), if_pos (by omega), eN, if_pos (by omega), if_pos (by omega), show rd_T57 nets[m].f0 (i : Int) = nets[m].f0[i] from rd_get hi, wrap_next hi (by omega)]
  · refine Ev.step (fun k => ?_) (h1 (fun s hs => by obtain ⟨i, hi, rfl⟩ := List.mem_iff_getElem.1 hs; exact (h3 i hi).2))
    show boarderref13_Form.l1 (k + 1) _ _ _ _ _ = _
    rw [boarderref13_Form.l1, if_pos (by omega), if_pos (by omega), eN, if_neg (by omega), wrap_next hm (by omega)]
  · obtain ⟨i, hi, hp⟩ := h3
    exact h2 (fun h => hp ⟨hi, h _ (List.getElem_mem hi)⟩)
theorem boarderref13_Form_l0 (a b : Int) (nets : List Nt) (h : Sm nets) {r : Bool} (hr : r = true ↔ (∀ n ∈ nets, 1 ≤ n.f0.length ∧ n.f0.length ≤ 4) ∧ ∀ n ∈ nets, ∀ s ∈ n.f0, FairS s) : Ev (fun k => boarderref13_Form.l0 k 0 a b nets) r := by
  have hN := h.1
  have J : ∀ (i : Nat) (hi : i < nets.length) (x : Bool) (r : Bool), (x = true → r = false) → (x = false → Ev (fun k => boarderref13_Form.l1 k (i : Int) 0 a b nets) r) → Ev (fun k => boarderref13_Form.j2 k (i : Int) x a b nets) r := by
    intro i hi x r hx hy
    cases x with
    | true => rw [hx rfl]; exact Ev.step (f := fun _ => some false) (fun k => by show boarderref13_Form.j2 (k + 1) _ _ _ _ _ = _; rw [boarderref13_Form.j2, if_pos rfl]) Ev.some'
    | false => exact Ev.step (fun k => by show boarderref13_Form.j2 (k + 1) _ _ _ _ _ = _; rw [boarderref13_Form.j2, if_neg (by simp)]) (hy rfl)
  have S : ∀ (i : Nat) (hi : i < nets.length) (r : Bool), ((1 ≤ nets[i].f0.length ∧ nets[i].f0.length ≤ 4) → Ev (fun k => boarderref13_Form.l1 k (i : Int) 0 a b nets) r) → (¬ (1 ≤ nets[i].f0.length ∧ nets[i].f0.length ≤ 4) → r = false) → Ev (fun k => boarderref13_Form.l0 k (i : Int) a b nets) r := by
    intro i hi r h1 h2
    refine Ev.step (f := fun k => if (nets[i].f0.length : Int) = 0 then boarderref13_Form.j2 k (i : Int) true a b nets else boarderref13_Form.j2 k (i : Int) (decide ((nets[i].f0.length : Int) > 4)) a b nets) (fun k => ?_) ?_
    · show boarderref13_Form.l0 (k + 1) _ _ _ _ = _
      rw [boarderref13_Form.l0, if_pos (by omega), if_pos (by omega), show rd_T41 nets (i : Int) = nets[i] from rd_get hi]
    · by_cases c : (nets[i].f0.length : Int) = 0
      · exact Ev.pos c (J i hi true r (fun _ => h2 (by omega)) (fun h => by cases h))
      · refine Ev.neg c (J i hi _ r (fun h => ?_) (fun h => ?_))
        · have := of_decide_eq_true h; exact h2 (by omega)
        · have := of_decide_eq_false h; exact h1 (by omega)
  refine loopC (n := nets.length) (L := fun k i => boarderref13_Form.l0 k i a b nets) (fun i => ∃ h : i < nets.length, (1 ≤ nets[i].f0.length ∧ nets[i].f0.length ≤ 4) ∧ ∀ s ∈ nets[i].f0, FairS s) false (fun i hi hp r h3 => ?_) (fun i hi hp => ?_) (fun h2 => ?_) (fun h => ?_)
  · obtain ⟨_, hp1, hp2⟩ := hp
    exact S i hi r (fun _ => boarderref13_Form_l1 a b nets i hi h (fun _ => h3) (fun h => absurd hp2 h)) (fun h => absurd hp1 h)
  · refine S i hi false (fun h1 => boarderref13_Form_l1 a b nets i hi h (fun h4 => absurd ⟨hi, h1, h4⟩ hp) (fun _ => rfl)) (fun _ => rfl)
  · rw [hr.2 ⟨fun n hn => by obtain ⟨i, hi, rfl⟩ := List.mem_iff_getElem.1 hn; exact (h2 i hi).2.1, fun n hn => by obtain ⟨i, hi, rfl⟩ := List.mem_iff_getElem.1 hn; exact (h2 i hi).2.2⟩]
    refine Ev.step (f := fun _ => some true) (fun k => ?_) Ev.some'
    show boarderref13_Form.l0 (k + 1) _ _ _ _ = _
    rw [boarderref13_Form.l0, if_neg (by omega)]
  · obtain ⟨i, hi, hp⟩ := h
    cases r with
    | false => rfl
    | true => exact absurd ⟨hi, (hr.1 rfl).1 _ (List.getElem_mem hi), (hr.1 rfl).2 _ (List.getElem_mem hi)⟩ hp
open Classical in
theorem boarderref13_Form_s (a b : Int) (nets : List Nt) (h : Sm nets) : Ev (fun k => boarderref13_Form.f k a b nets) (decide (FormP a b nets)) := by
  have J : ∀ (x : Bool), (x = true → ¬ FormP a b nets) → (x = false → (FormP a b nets ↔ ((∀ n ∈ nets, 1 ≤ n.f0.length ∧ n.f0.length ≤ 4) ∧ ∀ n ∈ nets, ∀ s ∈ n.f0, FairS s))) →
      Ev (fun k => boarderref13_Form.j0 k x a b nets) (decide (FormP a b nets)) := by
    intro x hx hy
    cases x with
    | true =>
      rw [decide_eq_false (hx rfl)]
      exact Ev.step (f := fun _ => some false) (fun k => by show boarderref13_Form.j0 (k + 1) _ _ _ _ = _; rw [boarderref13_Form.j0, if_pos rfl]) Ev.some'
    | false =>
      refine Ev.step (fun k => by show boarderref13_Form.j0 (k + 1) _ _ _ _ = _; rw [boarderref13_Form.j0, if_neg (by simp)]) (boarderref13_Form_l0 a b nets h ?_)
      rw [decide_eq_true_iff]; exact hy rfl
  simp only [boarderref13_Form.f, boarderref01_Right_s, Option.bind_some]
  by_cases a1 : 0 ≤ a ∧ a ≤ 4294967295
  · refine Ev.pos (decide_eq_true a1) ?_
    by_cases a2 : b < 1
    · exact Ev.pos a2 (J true (fun _ h => by have := h.2.2.1; omega) (fun h => by cases h))
    · refine Ev.neg a2 ?_
      by_cases a3 : b > 2147483648
      · exact Ev.pos a3 (J true (fun _ h => by have := h.2.2.2.1; omega) (fun h => by cases h))
      · refine Ev.neg a3 (J _ (fun h3 h4 => ?_) (fun h3 => ?_))
        · have := of_decide_eq_true h3; have := h4.2.2.2.2.1; omega
        · have := of_decide_eq_false h3
          exact ⟨fun h => h.2.2.2.2.2, fun h => ⟨a1.1, a1.2, Int.not_lt.1 a2, Int.not_lt.1 a3, by omega, h⟩⟩
  · exact Ev.neg (by rw [decide_eq_false a1]; simp) (J true (fun _ h => a1 ⟨h.1, h.2.1⟩) (fun h => by cases h))

/-! ### boarderref01.Has -/
theorem boarderref01_Has_s (b n a : Int) (k : Nat) (hk : 40 ≤ k) : boarderref01_Has.f k b n a = some (Com.hasB b n a) := by
  unfold boarderref01_Has.f Com.hasB
  rw [boarderref01_Fair_s b n k hk, Option.bind_some]
  by_cases h : Com.fairB b n = true
  · obtain ⟨h0, h1, h2, h3, h4⟩ := (Com.fairB_iff b n).1 h
    have he := Com.fair_end b n h
    have hz := Com.sz_le n
    rw [if_pos h, h, Bool.true_and, boarderref01_Right_s, Option.bind_some]
    by_cases ha : 0 ≤ a ∧ a ≤ 4294967295
    · rw [decide_eq_true ha, if_pos rfl]
      by_cases hb : a ≥ b
      · rw [if_pos hb, boarderref01_Size_s n h0 h1 k hk, Option.bind_some, show wrap64 (b + (Com.sz n : Int)) = b + (Com.sz n : Int) from by unfold wrap64; omega]
        congr 1; exact decide_eq_decide.2 ⟨fun h2 => ⟨hb, h2⟩, fun h2 => h2.2⟩
      · rw [if_neg hb, decide_eq_false (fun h => hb h.1)]
    · rw [decide_eq_false ha, if_neg (by simp), decide_eq_false (by omega)]
  · rw [if_neg h, Bool.eq_false_iff.2 h, Bool.false_and]

/-! ### boarderref01.Last -/
theorem boarderref01_Last_s (b n : Int) (h : Com.fairB b n = true) (k : Nat) (hk : 40 ≤ k) : boarderref01_Last.f k b n = some (b + (Com.sz n : Int) - 1) := by
  unfold boarderref01_Last.f
  obtain ⟨h0, h1, h2, h3, h4⟩ := (Com.fairB_iff b n).1 h
  have := Com.sz_le n
  rw [boarderref01_Size_s n h0 h1 k hk, Option.bind_some, show wrap64 (wrap64 (b + (Com.sz n : Int)) - 1) = b + (Com.sz n : Int) - 1 from by unfold wrap64; omega]

/-! ### boarderref13.lends -/
theorem boarderref13_lends_s (s : Sb) (h : Com.fairB s.f0 s.f1 = true) (a : Int) : Ev (fun k => boarderref13_lends.f k s.f0 s.f1 s.f2 s.f3 s.f4 s.f5 s.f6 a) (decide (InS s a)) := by
  refine ⟨40, fun k hk => ?_⟩
  show boarderref13_lends.f k _ _ _ _ _ _ _ _ = _
  unfold boarderref13_lends.f
  rw [boarderref01_Last_s _ _ h k hk, Option.bind_some]
  by_cases c : a > s.f0
  · rw [if_pos c]; congr 1; exact decide_eq_decide.2 ⟨fun h2 => ⟨c, h2⟩, fun h2 => h2.2⟩
  · rw [if_neg c, decide_eq_false (fun h2 => c h2.1)]

/-! ### boarderref13.Places -/
theorem boarderref13_Places_l3 (m j : Nat) (sv b : Int) (nets : List Nt) (s : Sb) (hs : SmS s) (hF : Com.fairB s.f0 s.f1 = true) (hj : j ≤ 1000) {r : Bool}
    (h1 : ((∀ i, (h : i < s.f3.length) → InS s s.f3[i].f1 ∧ s.f3[i].f1 ≠ sv) ∧ (s.f5 ≠ 0 → Com.hasB s.f0 s.f1 s.f5 = true)) → Ev (fun k => boarderref13_Places.l1 k (m : Int) ((j + 1 : Nat) : Int) sv b nets) r)
    (h2 : (¬ ((∀ i, (h : i < s.f3.length) → InS s s.f3[i].f1 ∧ s.f3[i].f1 ≠ sv) ∧ (s.f5 ≠ 0 → Com.hasB s.f0 s.f1 s.f5 = true))) → r = false) :
    Ev (fun k => boarderref13_Places.l3 k (m : Int) (j : Int) 0 sv b nets s.f0 s.f1 s.f2 s.f3 s.f4 s.f5 s.f6) r := by
  have h20 := hs.2.1
  have hw : wrap64 ((j : Int) + 1) = ((j + 1 : Nat) : Int) := by unfold wrap64; omega
  refine loopC (n := s.f3.length) (L := fun k i => boarderref13_Places.l3 k (m : Int) (j : Int) i sv b nets s.f0 s.f1 s.f2 s.f3 s.f4 s.f5 s.f6) (fun i => ∃ h : i < s.f3.length, InS s s.f3[i].f1 ∧ s.f3[i].f1 ≠ sv) false (fun i hi hp r h3 => ?_) (fun i hi hp => ?_) (fun h3 => ?_) (fun h3 => ?_)
  · obtain ⟨_, hp1, hp2⟩ := hp
    have e := boarderref13_lends_s s hF s.f3[i].f1
    rw [decide_eq_true hp1] at e
    refine Ev.step (fun k => ?_) (Ev.bind e (f := fun k t => if t = true then (if s.f3[i].f1 = sv then some false else boarderref13_Places.l3 k (m : Int) (j : Int) ((i + 1 : Nat) : Int) sv b nets s.f0 s.f1 s.f2 s.f3 s.f4 s.f5 s.f6) else some false) (Ev.pos rfl (Ev.neg hp2 h3)))
    show boarderref13_Places.l3 (k + 1) _ _ _ _ _ _ _ _ _ _ _ _ _ = _
    rw [boarderref13_Places.l3, if_pos (by omega), if_pos (by omega), show rd_T59 s.f3 (i : Int) = s.f3[i] from rd_get hi, wrap_next hi (by omega)]
  · have e := boarderref13_lends_s s hF s.f3[i].f1
    refine Ev.step (fun k => ?_) (Ev.bind e (f := fun k t => if t = true then (if s.f3[i].f1 = sv then some false else boarderref13_Places.l3 k (m : Int) (j : Int) ((i + 1 : Nat) : Int) sv b nets s.f0 s.f1 s.f2 s.f3 s.f4 s.f5 s.f6) else some false) ?_)
    · show boarderref13_Places.l3 (k + 1) _ _ _ _ _ _ _ _ _ _ _ _ _ = _
      rw [boarderref13_Places.l3, if_pos (by omega), if_pos (by omega), show rd_T59 s.f3 (i : Int) = s.f3[i] from rd_get hi, wrap_next hi (by omega)]
    · by_cases c : InS s s.f3[i].f1
      · refine Ev.pos (decide_eq_true c) ?_
        by_cases c2 : s.f3[i].f1 = sv
        · exact Ev.pos c2 Ev.some'
        · exact absurd ⟨hi, c, c2⟩ hp
      · exact Ev.neg (by rw [decide_eq_false c]; simp) Ev.some'
  · have h4 : ∀ i, (h : i < s.f3.length) → InS s s.f3[i].f1 ∧ s.f3[i].f1 ≠ sv := fun i hi => (h3 i hi).2
    refine Ev.step (f := fun k => if s.f5 = 0 then boarderref13_Places.l1 k (m : Int) ((j + 1 : Nat) : Int) sv b nets else ((boarderref01_Has.f k s.f0 s.f1 s.f5).bind fun t => if t = true then boarderref13_Places.l1 k (m : Int) ((j + 1 : Nat) : Int) sv b nets else some false)) (fun k => ?_) ?_
    · show boarderref13_Places.l3 (k + 1) _ _ _ _ _ _ _ _ _ _ _ _ _ = _
      rw [boarderref13_Places.l3, if_neg (by omega), hw]
    · by_cases c : s.f5 = 0
      · exact Ev.pos c (h1 ⟨h4, fun h => absurd c h⟩)
      · refine Ev.neg c (Ev.bind (g := fun k => boarderref01_Has.f k s.f0 s.f1 s.f5) (a := Com.hasB s.f0 s.f1 s.f5) ⟨40, fun k hk => boarderref01_Has_s _ _ _ k hk⟩ (f := fun k t => if t = true then boarderref13_Places.l1 k (m : Int) ((j + 1 : Nat) : Int) sv b nets else some false) ?_)
        by_cases c2 : Com.hasB s.f0 s.f1 s.f5 = true
        · exact Ev.pos c2 (h1 ⟨h4, fun _ => c2⟩)
        · rw [h2 (fun h => c2 (h.2 c))]; exact Ev.neg c2 Ev.some'
  · obtain ⟨i, hi, hp⟩ := h3
    exact h2 (fun h => hp ⟨hi, h.1 i hi⟩)
theorem boarderref13_Places_l2 (m j : Nat) (sv b : Int) (nets : List Nt) (s : Sb) (hs : SmS s) (hF : Com.fairB s.f0 s.f1 = true) (hj : j ≤ 1000) {r : Bool}
    (h1 : PlaceS sv s → Ev (fun k => boarderref13_Places.l1 k (m : Int) ((j + 1 : Nat) : Int) sv b nets) r) (h2 : ¬ PlaceS sv s → r = false) :
    Ev (fun k => boarderref13_Places.l2 k (m : Int) (j : Int) 0 sv b nets s.f0 s.f1 s.f2 s.f3 s.f4 s.f5 s.f6) r := by
  have h20 := hs.1
  have E : ∀ i (hi : i < s.f2.length) (r : Bool), ((InS s s.f2[i].f0 ∧ InS s s.f2[i].f1 ∧ ¬ (s.f2[i].f0 ≤ sv ∧ sv ≤ s.f2[i].f1)) → Ev (fun k => boarderref13_Places.l2 k (m : Int) (j : Int) ((i + 1 : Nat) : Int) sv b nets s.f0 s.f1 s.f2 s.f3 s.f4 s.f5 s.f6) r) →
      (¬ (InS s s.f2[i].f0 ∧ InS s s.f2[i].f1 ∧ ¬ (s.f2[i].f0 ≤ sv ∧ sv ≤ s.f2[i].f1)) → r = false) → Ev (fun k => boarderref13_Places.l2 k (m : Int) (j : Int) (i : Int) sv b nets s.f0 s.f1 s.f2 s.f3 s.f4 s.f5 s.f6) r := by
    intro i hi r h3 h4
    refine Ev.step (fun k => ?_) (Ev.bind (boarderref13_lends_s s hF s.f2[i].f0) (f := fun k t => if t = true then ((boarderref13_lends.f k s.f0 s.f1 s.f2 s.f3 s.f4 s.f5 s.f6 s.f2[i].f1).bind fun t2 => if t2 = true then (if sv ≥ s.f2[i].f0 then (if sv ≤ s.f2[i].f1 then some false else boarderref13_Places.l2 k (m : Int) (j : Int) ((i + 1 : Nat) : Int) sv b nets s.f0 s.f1 s.f2 s.f3 s.f4 s.f5 s.f6) else boarderref13_Places.l2 k (m : Int) (j : Int) ((i + 1 : Nat) : Int) sv b nets s.f0 s.f1 s.f2 s.f3 s.f4 s.f5 s.f6) else some false) else some false) ?_)
    · show boarderref13_Places.l2 (k + 1) _ _ _ _ _ _ _ _ _ _ _ _ _ = _
      rw [boarderref13_Places.l2, if_pos (by omega), if_pos (by omega), show rd_T62 s.f2 (i : Int) = s.f2[i] from rd_get hi, wrap_next hi (by omega)]
    · by_cases c : InS s s.f2[i].f0
      · refine Ev.pos (decide_eq_true c) (Ev.bind (boarderref13_lends_s s hF s.f2[i].f1) (f := fun k t2 => if t2 = true then (if sv ≥ s.f2[i].f0 then (if sv ≤ s.f2[i].f1 then some false else boarderref13_Places.l2 k (m : Int) (j : Int) ((i + 1 : Nat) : Int) sv b nets s.f0 s.f1 s.f2 s.f3 s.f4 s.f5 s.f6) else boarderref13_Places.l2 k (m : Int) (j : Int) ((i + 1 : Nat) : Int) sv b nets s.f0 s.f1 s.f2 s.f3 s.f4 s.f5 s.f6) else some false) ?_)
        by_cases c2 : InS s s.f2[i].f1
        · refine Ev.pos (decide_eq_true c2) ?_
          by_cases c3 : sv ≥ s.f2[i].f0
          · refine Ev.pos c3 ?_
            by_cases c4 : sv ≤ s.f2[i].f1
            · rw [h4 (fun h => h.2.2 ⟨c3, c4⟩)]; exact Ev.pos c4 Ev.some'
            · exact Ev.neg c4 (h3 ⟨c, c2, fun h => c4 h.2⟩)
          · exact Ev.neg c3 (h3 ⟨c, c2, fun h => c3 h.1⟩)
        · rw [h4 (fun h => c2 h.2.1)]; exact Ev.neg (by rw [decide_eq_false c2]; simp) Ev.some'
      · rw [h4 (fun h => c h.1)]; exact Ev.neg (by rw [decide_eq_false c]; simp) Ev.some'
  refine loopC (n := s.f2.length) (L := fun k i => boarderref13_Places.l2 k (m : Int) (j : Int) i sv b nets s.f0 s.f1 s.f2 s.f3 s.f4 s.f5 s.f6) (fun i => ∃ h : i < s.f2.length, InS s s.f2[i].f0 ∧ InS s s.f2[i].f1 ∧ ¬ (s.f2[i].f0 ≤ sv ∧ sv ≤ s.f2[i].f1)) false (fun i hi hp r h3 => ?_) (fun i hi hp => ?_) (fun h3 => ?_) (fun h3 => ?_)
  · exact E i hi r (fun _ => h3) (fun h => absurd hp.2 h)
  · exact E i hi false (fun h => absurd ⟨hi, h⟩ hp) (fun _ => rfl)
  · have h4 : ∀ i, (h : i < s.f2.length) → InS s s.f2[i].f0 ∧ InS s s.f2[i].f1 ∧ ¬ (s.f2[i].f0 ≤ sv ∧ sv ≤ s.f2[i].f1) := fun i hi => (h3 i hi).2
    refine Ev.step (fun k => ?_) (boarderref13_Places_l3 m j sv b nets s hs hF hj (r := r) (fun h => h1 ⟨h4, h.1, h.2⟩) (fun h => h2 (fun h5 => h ⟨h5.2.1, h5.2.2⟩)))
    show boarderref13_Places.l2 (k + 1) _ _ _ _ _ _ _ _ _ _ _ _ _ = _
    rw [boarderref13_Places.l2, if_neg (by omega)]
  · obtain ⟨i, hi, hp⟩ := h3
    exact h2 (fun h => hp ⟨hi, h.1 i hi⟩)
theorem boarderref13_Places_l1 (m : Nat) (sv b : Int) (nets : List Nt) (hm : m < nets.length) (h : Sm nets) (hF : ∀ n ∈ nets, ∀ s ∈ n.f0, FairS s) {r : Bool} (h1 : (∀ s ∈ nets[m].f0, PlaceS sv s) → Ev (fun k => boarderref13_Places.l0 k ((m + 1 : Nat) : Int) sv b nets) r) (h2 : (¬ ∀ s ∈ nets[m].f0, PlaceS sv s) → r = false) :
    Ev (fun k => boarderref13_Places.l1 k (m : Int) 0 sv b nets) r := by
  have hN := h.1
  have h10 := (h.2 nets[m] (List.getElem_mem hm)).1
  have eN : rd_T41 nets (m : Int) = nets[m] := rd_get hm
  have E : ∀ i (hi : i < nets[m].f0.length) (r : Bool), (PlaceS sv nets[m].f0[i] → Ev (fun k => boarderref13_Places.l1 k (m : Int) ((i + 1 : Nat) : Int) sv b nets) r) → (¬ PlaceS sv nets[m].f0[i] → r = false) → Ev (fun k => boarderref13_Places.l1 k (m : Int) (i : Int) sv b nets) r := by
    intro i hi r h3 h4
    refine Ev.step (fun k => ?_) (boarderref13_Places_l2 m i sv b nets nets[m].f0[i] ((h.2 _ (List.getElem_mem hm)).2 _ (List.getElem_mem hi)) (hF _ (List.getElem_mem hm) _ (List.getElem_mem hi)).1 (by omega) h3 h4)
    show boarderref13_Places.l1 (k + 1) _ _ _ _ _ = _
    rw [boarderref13_Places.l1, if_pos (by omega), if_pos (by omega), eN, if_pos (by omega), if_pos (by omega), show rd_T57 nets[m].f0 (i : Int) = nets[m].f0[i] from rd_get hi]
  refine loopC (n := nets[m].f0.length) (L := fun k i => boarderref13_Places.l1 k (m : Int) i sv b nets) (fun i => ∃ h : i < nets[m].f0.length, PlaceS sv nets[m].f0[i]) false (fun i hi hp r h3 => ?_) (fun i hi hp => ?_) (fun h3 => ?_) (fun h3 => ?_)
  · exact E i hi r (fun _ => h3) (fun h => absurd hp.2 h)
  · exact E i hi false (fun h => absurd ⟨hi, h⟩ hp) (fun _ => rfl)
  · refine Ev.step (fun k => ?_) (h1 (fun s hs => by obtain ⟨i, hi, rfl⟩ := List.mem_iff_getElem.1 hs; exact (h3 i hi).2))
    show boarderref13_Places.l1 (k + 1) _ _ _ _ _ = _
    rw [boarderref13_Places.l1, if_pos (by omega), if_pos (by omega), eN, if_neg (by omega), wrap_next hm (by omega)]
  · obtain ⟨i, hi, hp⟩ := h3
    exact h2 (fun h => hp ⟨hi, h _ (List.getElem_mem hi)⟩)
open Classical in
theorem boarderref13_Places_s (a b : Int) (nets : List Nt) (h : Sm nets) (hF : ∀ n ∈ nets, ∀ s ∈ n.f0, FairS s) : Ev (fun k => boarderref13_Places.f k a b nets) (decide (∀ n ∈ nets, ∀ s ∈ n.f0, PlaceS a s)) := by
  have hN := h.1
  have E : ∀ i (hi : i < nets.length) (r : Bool), ((∀ s ∈ nets[i].f0, PlaceS a s) → Ev (fun k => boarderref13_Places.l0 k ((i + 1 : Nat) : Int) a b nets) r) → ((¬ ∀ s ∈ nets[i].f0, PlaceS a s) → r = false) → Ev (fun k => boarderref13_Places.l0 k (i : Int) a b nets) r := by
    intro i hi r h3 h4
    refine Ev.step (fun k => ?_) (boarderref13_Places_l1 i a b nets hi h hF h3 h4)
    show boarderref13_Places.l0 (k + 1) _ _ _ _ = _
    rw [boarderref13_Places.l0, if_pos (by omega)]
  refine loopC (n := nets.length) (L := fun k i => boarderref13_Places.l0 k i a b nets) (fun i => ∃ h : i < nets.length, ∀ s ∈ nets[i].f0, PlaceS a s) false (fun i hi hp r h3 => ?_) (fun i hi hp => ?_) (fun h3 => ?_) (fun h3 => ?_)
  · exact E i hi r (fun _ => h3) (fun h => absurd hp.2 h)
  · exact E i hi false (fun h => absurd ⟨hi, h⟩ hp) (fun _ => rfl)
  · rw [decide_eq_true (fun n hn => by obtain ⟨i, hi, rfl⟩ := List.mem_iff_getElem.1 hn; exact (h3 i hi).2)]
    refine Ev.step (f := fun _ => some true) (fun k => ?_) Ev.some'
    show boarderref13_Places.l0 (k + 1) _ _ _ _ = _
    rw [boarderref13_Places.l0, if_neg (by omega)]
  · obtain ⟨i, hi, hp⟩ := h3
    exact decide_eq_false (fun h => hp ⟨hi, h _ (List.getElem_mem hi)⟩)

/-! ### boarderref13.Flat -/
theorem boarderref13_Flat_l1 (a b : Int) (nets : List Nt) (m : Nat) (hm : m < nets.length) (hn : nets.length ≤ 10) (h10 : nets[m].f0.length ≤ 10) : ∀ (d i : Nat) (o1 : List Sb) (o2 : List Int) (r : List Sb × List Int), i + d = nets[m].f0.length → o1.length + d ≤ 1000 → o2.length + d ≤ 1000 →
    Ev (fun k => boarderref13_Flat.l0 k (o1 ++ (subAt (m : Int) i (nets[m].f0.drop i)).map (·.f2)) (o2 ++ (subAt (m : Int) i (nets[m].f0.drop i)).map (·.f0)) ((m + 1 : Nat) : Int) a b nets) r → Ev (fun k => boarderref13_Flat.l1 k o1 o2 (m : Int) (i : Int) a b nets) r := by
  have eN : rd_T41 nets (m : Int) = nets[m] := rd_get hm
  intro d
  induction d with
  | zero =>
    intro i o1 o2 r hi ho1 ho2 h
    rw [List.drop_eq_nil_of_le (by omega), subAt, List.map_nil, List.map_nil, List.append_nil, List.append_nil] at h
    refine Ev.step (fun k => ?_) h
    show boarderref13_Flat.l1 (k + 1) _ _ _ _ _ _ _ = _
    rw [boarderref13_Flat.l1, if_pos (by omega), if_pos (by omega), eN, if_neg (by omega), wrap_next hm (by omega)]
  | succ d ih =>
    intro i o1 o2 r hi ho1 ho2 h
    have hl : i < nets[m].f0.length := by omega
    refine Ev.step (fun k => ?_) (ih (i + 1) (o1 ++ [nets[m].f0[i]]) (o2 ++ [(m : Int)]) r (by omega) (by rw [List.length_append, List.length_singleton]; omega) (by rw [List.length_append, List.length_singleton]; omega) ?_)
    · show boarderref13_Flat.l1 (k + 1) _ _ _ _ _ _ _ = _
      rw [boarderref13_Flat.l1, if_pos (by omega), if_pos (by omega), eN, if_pos (by omega), if_pos (by omega), if_pos (by omega), if_pos (by omega), show rd_T57 nets[m].f0 (i : Int) = nets[m].f0[i] from rd_get hl, wrap_next hl (by omega)]
    · rw [List.append_assoc, List.singleton_append, List.append_assoc, List.singleton_append]
      rwa [List.drop_eq_getElem_cons hl, subAt, List.map_cons, List.map_cons] at h
theorem boarderref13_Flat_l0 (a b : Int) (nets : List Nt) (hn : nets.length ≤ 10) (hx : ∀ x ∈ nets, x.f0.length ≤ 10) : ∀ (d m : Nat) (o1 : List Sb) (o2 : List Int), m + d = nets.length → o1.length + 10 * d ≤ 500 → o2.length + 10 * d ≤ 500 →
    Ev (fun k => boarderref13_Flat.l0 k o1 o2 (m : Int) a b nets) (o1 ++ (spotsFrom m (nets.drop m)).map (·.f2), o2 ++ (spotsFrom m (nets.drop m)).map (·.f0)) := by
  intro d
  induction d with
  | zero =>
    intro m o1 o2 hm ho1 ho2
    rw [List.drop_eq_nil_of_le (by omega), spotsFrom, List.map_nil, List.map_nil, List.append_nil, List.append_nil]
    refine Ev.step (f := fun _ => some (o1, o2)) (fun k => ?_) Ev.some'
    show boarderref13_Flat.l0 (k + 1) _ _ _ _ _ _ = _
    rw [boarderref13_Flat.l0, if_neg (by omega)]
  | succ d ih =>
    intro m o1 o2 hm ho1 ho2
    have hl : m < nets.length := by omega
    have h10 := hx nets[m] (List.getElem_mem hl)
    rw [List.drop_eq_getElem_cons hl, spotsFrom, List.map_append, List.map_append, ← List.append_assoc, ← List.append_assoc]
    refine Ev.step (fun k => ?_) (boarderref13_Flat_l1 a b nets m hl hn h10 nets[m].f0.length 0 o1 o2 _ (by omega) (by omega) (by omega) ?_)
    · show boarderref13_Flat.l0 (k + 1) _ _ _ _ _ _ = _
      rw [boarderref13_Flat.l0, if_pos (by omega)]
      rfl
    · rw [List.drop_zero]
      exact ih (m + 1) _ _ (by omega) (by rw [List.length_append, List.length_map, subAt_len]; omega) (by rw [List.length_append, List.length_map, subAt_len]; omega)
theorem boarderref13_Flat_s (a b : Int) (nets : List Nt) (h : Sm nets) : Ev (fun k => boarderref13_Flat.f k a b nets) ((spotsL nets).map (·.f2), (spotsL nets).map (·.f0)) := by
  have e := boarderref13_Flat_l0 a b nets h.1 (fun x hx => (h.2 x hx).1) nets.length 0 [] [] (by omega) (by have := h.1; simp; omega) (by have := h.1; simp; omega)
  rw [List.drop_zero, List.nil_append, List.nil_append] at e
  exact e

/-! ### boarderref13.Pooled -/
open Classical in
theorem boarderref13_Pooled_s (s : Sb) (hs : SmS s) : Ev (fun k => boarderref13_Pooled.f k s.f0 s.f1 s.f2 s.f3 s.f4 s.f5 s.f6) (decide (PooledP s)) := by
  have h20 := hs.1
  have E1 : ∀ i (hi : i < s.f2.length) (r : Bool), ((∀ j, (hj : j < i) → ¬ OverP s.f2[i] s.f2[j]) → Ev (fun k => boarderref13_Pooled.l0 k ((i + 1 : Nat) : Int) s.f0 s.f1 s.f2 s.f3 s.f4 s.f5 s.f6) r) → ((¬ ∀ j, (hj : j < i) → ¬ OverP s.f2[i] s.f2[j]) → r = true) → Ev (fun k => boarderref13_Pooled.l1 k (i : Int) 0 s.f0 s.f1 s.f2 s.f3 s.f4 s.f5 s.f6) r := by
    intro i hi r h1 h2
    have eI : rd_T62 s.f2 (i : Int) = s.f2[i] := rd_get hi
    have E : ∀ j (hj : j < i) (r : Bool), (¬ OverP s.f2[i] s.f2[j] → Ev (fun k => boarderref13_Pooled.l1 k (i : Int) ((j + 1 : Nat) : Int) s.f0 s.f1 s.f2 s.f3 s.f4 s.f5 s.f6) r) → (OverP s.f2[i] s.f2[j] → r = true) → Ev (fun k => boarderref13_Pooled.l1 k (i : Int) (j : Int) s.f0 s.f1 s.f2 s.f3 s.f4 s.f5 s.f6) r := by
      intro j hj r h3 h4
      have hj2 : j < s.f2.length := by omega
      refine Ev.step (f := fun k => if s.f2[i].f0 ≤ s.f2[j].f1 then (if s.f2[j].f0 ≤ s.f2[i].f1 then some true else boarderref13_Pooled.l1 k (i : Int) ((j + 1 : Nat) : Int) s.f0 s.f1 s.f2 s.f3 s.f4 s.f5 s.f6) else boarderref13_Pooled.l1 k (i : Int) ((j + 1 : Nat) : Int) s.f0 s.f1 s.f2 s.f3 s.f4 s.f5 s.f6) (fun k => ?_) ?_
      · show boarderref13_Pooled.l1 (k + 1) _ _ _ _ _ _ _ _ _ = _
        rw [boarderref13_Pooled.l1, if_pos (by omega), if_pos (by omega), if_pos (by omega), if_pos (by omega), if_pos (by omega), eI, show rd_T62 s.f2 (j : Int) = s.f2[j] from rd_get hj2, wrap_next hj (by omega)]
      · by_cases c1 : s.f2[i].f0 ≤ s.f2[j].f1
        · refine Ev.pos c1 ?_
          by_cases c2 : s.f2[j].f0 ≤ s.f2[i].f1
          · rw [h4 ⟨c1, c2⟩]; exact Ev.pos c2 Ev.some'
          · exact Ev.neg c2 (h3 (fun h => c2 h.2))
        · exact Ev.neg c1 (h3 (fun h => c1 h.1))
    refine loopC (n := i) (L := fun k j => boarderref13_Pooled.l1 k (i : Int) j s.f0 s.f1 s.f2 s.f3 s.f4 s.f5 s.f6) (fun j => ∃ h : j < i, ¬ OverP s.f2[i] s.f2[j]) true (fun j hj hp r h3 => ?_) (fun j hj hp => ?_) (fun h3 => ?_) (fun h3 => ?_)
    · exact E j hj r (fun _ => h3) (fun h => absurd h hp.2)
    · exact E j hj true (fun h => absurd ⟨hj, h⟩ hp) (fun _ => rfl)
    · refine Ev.step (fun k => ?_) (h1 (fun j hj => (h3 j hj).2))
      show boarderref13_Pooled.l1 (k + 1) _ _ _ _ _ _ _ _ _ = _
      rw [boarderref13_Pooled.l1, if_neg (by omega), wrap_next hi (by omega)]
    · obtain ⟨j, hj, hp⟩ := h3
      exact h2 (fun h => hp ⟨hj, h j hj⟩)
  have E0 : ∀ i (hi : i < s.f2.length) (r : Bool), ((∀ j, (hj : j < i) → ¬ OverP s.f2[i] s.f2[j]) → Ev (fun k => boarderref13_Pooled.l0 k ((i + 1 : Nat) : Int) s.f0 s.f1 s.f2 s.f3 s.f4 s.f5 s.f6) r) → ((¬ ∀ j, (hj : j < i) → ¬ OverP s.f2[i] s.f2[j]) → r = true) → Ev (fun k => boarderref13_Pooled.l0 k (i : Int) s.f0 s.f1 s.f2 s.f3 s.f4 s.f5 s.f6) r := by
    intro i hi r h1 h2
    refine Ev.step (fun k => ?_) (E1 i hi r h1 h2)
    show boarderref13_Pooled.l0 (k + 1) _ _ _ _ _ _ _ _ = _
    rw [boarderref13_Pooled.l0, if_pos (by omega)]
  refine loopC (n := s.f2.length) (L := fun k i => boarderref13_Pooled.l0 k i s.f0 s.f1 s.f2 s.f3 s.f4 s.f5 s.f6) (fun i => ∃ h : i < s.f2.length, ∀ j, (hj : j < i) → ¬ OverP s.f2[i] s.f2[j]) true (fun i hi hp r h3 => ?_) (fun i hi hp => ?_) (fun h3 => ?_) (fun h3 => ?_)
  · exact E0 i hi r (fun _ => h3) (fun h => absurd hp.2 h)
  · exact E0 i hi true (fun h => absurd ⟨hi, h⟩ hp) (fun _ => rfl)
  · rw [decide_eq_false (show ¬ PooledP s by rintro ⟨i, j, hi, hj, ho⟩; exact (h3 i hi).2 j hj ho)]
    refine Ev.step (f := fun _ => some false) (fun k => ?_) Ev.some'
    show boarderref13_Pooled.l0 (k + 1) _ _ _ _ _ _ _ _ = _
    rw [boarderref13_Pooled.l0, if_neg (by omega)]
  · obtain ⟨i, hi, hp⟩ := h3
    refine decide_eq_true ?_
    by_cases c : PooledP s
    · exact c
    · exact absurd ⟨hi, fun j hj ho => c ⟨i, j, hi, hj, ho⟩⟩ hp

end Go.Proofs.Ytdcabfonjmeajaa.PConf
