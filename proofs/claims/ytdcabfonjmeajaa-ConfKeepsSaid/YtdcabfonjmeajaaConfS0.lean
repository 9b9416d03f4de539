/- What the printed functions of this group come to, in plain words; each under its theorem's own conditions. -/
import Derived.Test.YtdcabfonjmeajaaPConfx1
import Derived.Test.YtdcabfonjmeajaaPConfx2
import Derived.Test.YtdcabfonjmeajaaPConfx3
import Derived.Test.YtdcabfonjmeajaaAdr
import Derived.Test.YtdcabfonjmeajaaConfCfg
set_option linter.unusedVariables false
set_option linter.unusedSimpArgs false
namespace Go.Proofs.Ytdcabfonjmeajaa.PConf
open Go.RowKit Go.Proofs.YtdcabfonjmeajaaW.PrintWords Go.Proofs.YtdcabfonjmeajaaW.PrintLast Go.Proofs.YtdcabfonjmeajaaW.PrintMore

/-! ### boarderlaw13.Great -/
theorem boarderlaw13_Great_l2 (a b : Int) (nets : List Nt) (m j : Nat) (hj : j ≤ 1000) (s : Sb) (h20 : s.f3.length ≤ 20) {r : Bool} (h1 : (∀ r ∈ s.f3, r.f0.size ≤ 1000) → Ev (fun k => boarderlaw13_Great.l1 k (m : Int) ((j + 1 : Nat) : Int) a b nets) r) (h2 : (¬ ∀ r ∈ s.f3, r.f0.size ≤ 1000) → r = true) :
    Ev (fun k => boarderlaw13_Great.l2 k (m : Int) (j : Int) 0 a b nets s.f0 s.f1 s.f2 s.f3 s.f4 s.f5 s.f6) r := by
  have hw : wrap64 ((j : Int) + 1) = ((j + 1 : Nat) : Int) := by unfold wrap64; omega
  refine loopC (n := s.f3.length) (L := fun k i => boarderlaw13_Great.l2 k (m : Int) (j : Int) i a b nets s.f0 s.f1 s.f2 s.f3 s.f4 s.f5 s.f6) (fun i => ∃ h : i < s.f3.length, s.f3[i].f0.size ≤ 1000) true (fun i hi hp r h3 => ?_) (fun i hi hp => ?_) (fun h3 => ?_) (fun h3 => ?_)
  · obtain ⟨_, hp⟩ := hp
    refine Ev.step (fun k => ?_) h3
    show boarderlaw13_Great.l2 (k + 1) _ _ _ _ _ _ _ _ _ _ _ _ _ = _
    rw [boarderlaw13_Great.l2, if_pos (by omega), if_pos (by omega), show rd_T59 s.f3 (i : Int) = s.f3[i] from rd_get hi, if_neg (by omega), wrap_next hi (by omega)]
  · have h4 : ¬ s.f3[i].f0.size ≤ 1000 := fun h => hp ⟨hi, h⟩
    refine Ev.step (f := fun _ => some true) (fun k => ?_) Ev.some'
    show boarderlaw13_Great.l2 (k + 1) _ _ _ _ _ _ _ _ _ _ _ _ _ = _
    rw [boarderlaw13_Great.l2, if_pos (by omega), if_pos (by omega), show rd_T59 s.f3 (i : Int) = s.f3[i] from rd_get hi, if_pos (by omega)]
  · refine Ev.step (fun k => ?_) (h1 (fun r hr => by obtain ⟨i, hi, rfl⟩ := List.mem_iff_getElem.1 hr; exact (h3 i hi).2))
    show boarderlaw13_Great.l2 (k + 1) _ _ _ _ _ _ _ _ _ _ _ _ _ = _
    rw [boarderlaw13_Great.l2, if_neg (by omega), hw]
  · obtain ⟨i, hi, hp⟩ := h3
    exact h2 (fun h => hp ⟨hi, h _ (List.getElem_mem hi)⟩)
theorem boarderlaw13_Great_j2 (a b : Int) (nets : List Nt) (m j : Nat) (hj : j ≤ 1000) (s : Sb) (x : Bool) {r : Bool} (hx : x = true → ¬ SmS s) (hx2 : x = false → s.f2.length ≤ 20 ∧ s.f3.length ≤ 20) (h1 : SmS s → Ev (fun k => boarderlaw13_Great.l1 k (m : Int) ((j + 1 : Nat) : Int) a b nets) r) (h2 : ¬ SmS s → r = true) :
    Ev (fun k => boarderlaw13_Great.j2 k (m : Int) (j : Int) x a b nets s.f0 s.f1 s.f2 s.f3 s.f4 s.f5 s.f6) r := by
  cases x with
  | true =>
    rw [h2 (hx rfl)]
    exact Ev.step (f := fun _ => some true) (fun k => by show boarderlaw13_Great.j2 (k + 1) _ _ _ _ _ _ _ _ _ _ _ _ _ = _; rw [boarderlaw13_Great.j2, if_pos rfl]) Ev.some'
  | false =>
    obtain ⟨e1, e2⟩ := hx2 rfl
    exact Ev.step (fun k => by show boarderlaw13_Great.j2 (k + 1) _ _ _ _ _ _ _ _ _ _ _ _ _ = _; rw [boarderlaw13_Great.j2, if_neg (by simp)]) (boarderlaw13_Great_l2 a b nets m j hj s e2 (fun h => h1 ⟨e1, e2, h⟩) (fun h => h2 (fun h3 => h h3.2.2)))
theorem boarderlaw13_Great_l1 (a b : Int) (nets : List Nt) (m : Nat) (hm : m < nets.length) (hn : nets.length ≤ 10) (h10 : nets[m].f0.length ≤ 10) {r : Bool} (h1 : (∀ s ∈ nets[m].f0, SmS s) → Ev (fun k => boarderlaw13_Great.l0 k ((m + 1 : Nat) : Int) a b nets) r) (h2 : (¬ ∀ s ∈ nets[m].f0, SmS s) → r = true) :
    Ev (fun k => boarderlaw13_Great.l1 k (m : Int) 0 a b nets) r := by
  have eN : rd_T41 nets (m : Int) = nets[m] := rd_get hm
  have E : ∀ i (hi : i < nets[m].f0.length) (r : Bool), (SmS nets[m].f0[i] → Ev (fun k => boarderlaw13_Great.l1 k (m : Int) ((i + 1 : Nat) : Int) a b nets) r) → (¬ SmS nets[m].f0[i] → r = true) → Ev (fun k => boarderlaw13_Great.l1 k (m : Int) (i : Int) a b nets) r := by
    intro i hi r h3 h4
    refine Ev.step (f := fun k => if ((nets[m].f0[i].f2).length : Int) > 20 then boarderlaw13_Great.j2 k (m : Int) (i : Int) true a b nets nets[m].f0[i].f0 nets[m].f0[i].f1 nets[m].f0[i].f2 nets[m].f0[i].f3 nets[m].f0[i].f4 nets[m].f0[i].f5 nets[m].f0[i].f6 else boarderlaw13_Great.j2 k (m : Int) (i : Int) (decide (((nets[m].f0[i].f3).length : Int) > 20)) a b nets nets[m].f0[i].f0 nets[m].f0[i].f1 nets[m].f0[i].f2 nets[m].f0[i].f3 nets[m].f0[i].f4 nets[m].f0[i].f5 nets[m].f0[i].f6) (fun k => ?_) ?_
    · show boarderlaw13_Great.l1 (k + 1) _ _ _ _ _ = _
      rw [boarderlaw13_Great.l1, if_pos (by omega), if_pos (by omega), eN, if_pos (by omega), if_pos (by omega), show rd_T57 nets[m].f0 (i : Int) = nets[m].f0[i] from rd_get hi]
    · by_cases c : ((nets[m].f0[i].f2).length : Int) > 20
      · exact Ev.pos c (boarderlaw13_Great_j2 a b nets m i (by omega) nets[m].f0[i] true (fun _ h => by have := h.1; omega) (fun h => by cases h) h3 h4)
      · refine Ev.neg c (boarderlaw13_Great_j2 a b nets m i (by omega) nets[m].f0[i] _ (fun h h5 => ?_) (fun h => ?_) h3 h4)
        · have := of_decide_eq_true h; have := h5.2.1; omega
        · have := of_decide_eq_false h; omega
  refine loopC (n := nets[m].f0.length) (L := fun k i => boarderlaw13_Great.l1 k (m : Int) i a b nets) (fun i => ∃ h : i < nets[m].f0.length, SmS nets[m].f0[i]) true (fun i hi hp r h3 => ?_) (fun i hi hp => ?_) (fun h3 => ?_) (fun h3 => ?_)
  · exact E i hi r (fun _ => h3) (fun h => absurd hp.2 h)
  · exact E i hi true (fun h => absurd ⟨hi, h⟩ hp) (fun _ => rfl)
  · refine Ev.step (fun k => ?_) (h1 (fun s hs => by obtain ⟨i, hi, rfl⟩ := List.mem_iff_getElem.1 hs; exact (h3 i hi).2))
    show boarderlaw13_Great.l1 (k + 1) _ _ _ _ _ = _
    rw [boarderlaw13_Great.l1, if_pos (by omega), if_pos (by omega), eN, if_neg (by omega), wrap_next hm (by omega)]
  · obtain ⟨i, hi, hp⟩ := h3
    exact h2 (fun h => hp ⟨hi, h _ (List.getElem_mem hi)⟩)
open Classical in
theorem boarderlaw13_Great_s (a b : Int) (nets : List Nt) : Ev (fun k => boarderlaw13_Great.f k a b nets) (decide (¬ Sm nets)) := by
  unfold boarderlaw13_Great.f
  by_cases c : (nets.length : Int) > 10
  · rw [show decide (¬ Sm nets) = true from decide_eq_true_iff.2 (fun h => by have := h.1; omega)]
    exact Ev.pos c Ev.some'
  · refine Ev.neg c ?_
    have hn : nets.length ≤ 10 := by omega
    have E : ∀ i (hi : i < nets.length) (r : Bool), ((nets[i].f0.length ≤ 10 ∧ ∀ s ∈ nets[i].f0, SmS s) → Ev (fun k => boarderlaw13_Great.l0 k ((i + 1 : Nat) : Int) a b nets) r) → ((¬ (nets[i].f0.length ≤ 10 ∧ ∀ s ∈ nets[i].f0, SmS s)) → r = true) → Ev (fun k => boarderlaw13_Great.l0 k (i : Int) a b nets) r := by
      intro i hi r h3 h4
      refine Ev.step (f := fun k => if (nets[i].f0.length : Int) > 10 then some true else boarderlaw13_Great.l1 k (i : Int) 0 a b nets) (fun k => ?_) ?_
      · show boarderlaw13_Great.l0 (k + 1) _ _ _ _ = _
        rw [boarderlaw13_Great.l0, if_pos (by omega), if_pos (by omega), show rd_T41 nets (i : Int) = nets[i] from rd_get hi]
      · by_cases c1 : (nets[i].f0.length : Int) > 10
        · rw [h4 (fun h => by have := h.1; omega)]; exact Ev.pos c1 Ev.some'
        · exact Ev.neg c1 (boarderlaw13_Great_l1 a b nets i hi hn (by omega) (fun h => h3 ⟨by omega, h⟩) (fun h => h4 (fun h5 => h h5.2)))
    refine loopC (n := nets.length) (L := fun k i => boarderlaw13_Great.l0 k i a b nets) (fun i => ∃ h : i < nets.length, nets[i].f0.length ≤ 10 ∧ ∀ s ∈ nets[i].f0, SmS s) true (fun i hi hp r h3 => ?_) (fun i hi hp => ?_) (fun h3 => ?_) (fun h3 => ?_)
    · exact E i hi r (fun _ => h3) (fun h => absurd hp.2 h)
    · exact E i hi true (fun h => absurd ⟨hi, h⟩ hp) (fun _ => rfl)
    · rw [show decide (¬ Sm nets) = false from decide_eq_false_iff_not.2 (fun h => h ⟨hn, fun n hn' => by obtain ⟨i, hi, rfl⟩ := List.mem_iff_getElem.1 hn'; exact (h3 i hi).2⟩)]
      refine Ev.step (f := fun _ => some false) (fun k => ?_) Ev.some'
      show boarderlaw13_Great.l0 (k + 1) _ _ _ _ = _
      rw [boarderlaw13_Great.l0, if_neg (by omega)]
    · obtain ⟨i, hi, hp⟩ := h3
      exact decide_eq_true_iff.2 (fun h => hp ⟨hi, h.2 _ (List.getElem_mem hi)⟩)

/-! ### addr.Right -/
theorem addr_Right_s (a : Int) : addr_Right.f a = some (decide (0 ≤ a ∧ a ≤ 4294967295)) := by
  unfold addr_Right.f
  by_cases h : a ≥ 0
  · rw [if_pos h]; congr 1; exact decide_eq_decide.2 ⟨fun h2 => ⟨h, h2⟩, fun h2 => h2.2⟩
  · rw [if_neg h, decide_eq_false (by omega)]

/-! ### conf.within -/
theorem conf_within_s (a b c : Int) : conf_within.f a b c = some (decide (b ≤ a ∧ a ≤ c)) := by
  unfold conf_within.f
  by_cases h : a ≥ b
  · rw [if_pos h]; congr 1; exact decide_eq_decide.2 ⟨fun h2 => ⟨h, h2⟩, fun h2 => h2.2⟩
  · rw [if_neg h, decide_eq_false (fun h2 => h h2.1)]

/-! ### conf.spots -/
theorem conf_spots_l1 (nets : List Nt) (m : Nat) (subs : List Sb) (hm : m < nets.length) (hn : nets.length ≤ 10) (hs : subs.length ≤ 10) : ∀ (d i : Nat) (out : List Sp) (r : List Sp), i + d = subs.length → out.length + d ≤ 1000 →
    Ev (fun k => conf_spots.l0 k (out ++ subAt (m : Int) i (subs.drop i)) nets (nets.length : Int) ((m + 1 : Nat) : Int)) r → Ev (fun k => conf_spots.l1 k out (m : Int) nets (nets.length : Int) (m : Int) subs (subs.length : Int) (i : Int)) r := by
  intro d
  induction d with
  | zero =>
    intro i out r hi ho h
    rw [List.drop_eq_nil_of_le (by omega), subAt, List.append_nil] at h
    refine Ev.step (fun k => ?_) h
    show conf_spots.l1 (k + 1) _ _ _ _ _ _ _ _ = _
    rw [conf_spots.l1, if_neg (by omega), wrap_next hm (by omega)]
  | succ d ih =>
    intro i out r hi ho h
    have hl : i < subs.length := by omega
    refine Ev.step (fun k => ?_) (ih (i + 1) (out ++ [⟨(m : Int), (i : Int), subs[i]⟩]) r (by omega) (by rw [List.length_append, List.length_singleton]; omega) ?_)
    · show conf_spots.l1 (k + 1) _ _ _ _ _ _ _ _ = _
      rw [conf_spots.l1, if_pos (by omega), if_pos (by omega), if_pos (by omega), if_pos (by omega), show rd_T57 subs (i : Int) = subs[i] from rd_get hl, wrap_next hl (by omega)]
    · rw [List.append_assoc, List.singleton_append]
      rwa [List.drop_eq_getElem_cons hl, subAt] at h
theorem conf_spots_l0 (nets : List Nt) (hn : nets.length ≤ 10) (hx : ∀ x ∈ nets, x.f0.length ≤ 10) : ∀ (d m : Nat) (out : List Sp), m + d = nets.length → out.length + 10 * d ≤ 500 →
    Ev (fun k => conf_spots.l0 k out nets (nets.length : Int) (m : Int)) (out ++ spotsFrom m (nets.drop m)) := by
  intro d
  induction d with
  | zero =>
    intro m out hm ho
    rw [List.drop_eq_nil_of_le (by omega), spotsFrom, List.append_nil]
    refine Ev.step (f := fun _ => some out) (fun k => ?_) Ev.some'
    show conf_spots.l0 (k + 1) _ _ _ _ = _
    rw [conf_spots.l0, if_neg (by omega)]
  | succ d ih =>
    intro m out hm ho
    have hl : m < nets.length := by omega
    have h10 := hx nets[m] (List.getElem_mem hl)
    rw [List.drop_eq_getElem_cons hl, spotsFrom, ← List.append_assoc]
    refine Ev.step (fun k => ?_) (conf_spots_l1 nets m nets[m].f0 hl hn h10 nets[m].f0.length 0 out _ (by omega) (by omega) ?_)
    · show conf_spots.l0 (k + 1) _ _ _ _ = _
      rw [conf_spots.l0, if_pos (by omega), if_pos (by omega), if_pos (by omega), show rd_T41 nets (m : Int) = nets[m] from rd_get hl]
      rfl
    · rw [List.drop_zero]
      exact ih (m + 1) _ (by omega) (by rw [List.length_append, subAt_len]; omega)
theorem conf_spots_s (a b : Int) (nets : List Nt) (h : Sm nets) : Ev (fun k => conf_spots.f k a b nets) (spotsL nets) := by
  have e := conf_spots_l0 nets h.1 (fun x hx => (h.2 x hx).1) nets.length 0 [] (by omega) (by have := h.1; simp; omega)
  rw [List.drop_zero, List.nil_append] at e
  exact e

/-! ### addr.mask -/
theorem addr_mask_all : ∀ i : Fin 33, addr_mask.f (i.val : Int) = some (4294967296 - (Com.sz (i.val : Int) : Int)) := by decide +kernel
theorem addr_mask_s (n : Int) (h0 : 0 ≤ n) (h1 : n ≤ 32) : addr_mask.f n = some (4294967296 - (Com.sz n : Int)) := by
  have := addr_mask_all ⟨n.toNat, by omega⟩
  rw [show ((⟨n.toNat, by omega⟩ : Fin 33).val : Int) = n from by simp; omega] at this
  exact this
theorem addr_mask_n (n : Int) : 4294967296 - (Com.sz n : Int) = ((4294967296 - 2 ^ (32 - n.toNat) : Nat) : Int) := by
  have := Com.sz_le n
  unfold Com.sz at *
  omega

/-! ### addr.Fair -/
theorem addr_Fair_s (b n : Int) : addr_Fair.f b n = some (Com.fairB b n) := by
  unfold addr_Fair.f Com.fairB
  by_cases h0 : n ≥ 0
  · rw [if_pos h0]
    by_cases h1 : n ≤ 32
    · rw [if_pos h1, addr_Right_s]
      simp only [Option.bind_some]
      by_cases h2 : 0 ≤ b ∧ b ≤ 4294967295
      · rw [decide_eq_true h2, if_pos rfl, addr_mask_s n h0 h1, Option.bind_some]
        obtain ⟨x, rfl⟩ := Int.eq_ofNat_of_zero_le h2.1
        rw [addr_mask_n, Com.i64_andNot_mask x (32 - n.toNat) (by omega) (by omega)]
        congr 1
        have e : ((x % 2 ^ (32 - n.toNat) : Nat) : Int) = (x : Int) % (Com.sz n : Int) := by unfold Com.sz; push_cast; rfl
        rw [e, Bool.eq_iff_iff, beq_iff_eq, decide_eq_true_iff]
        exact ⟨fun h => ⟨h0, h1, h2.1, h2.2, h⟩, fun h => h.2.2.2.2⟩
      · rw [decide_eq_false h2, if_neg (by simp), decide_eq_false (fun h => h2 ⟨h.2.2.1, h.2.2.2.1⟩)]
    · rw [if_neg h1, decide_eq_false (fun h => h1 h.2.1)]
  · rw [if_neg h0, decide_eq_false (fun h => h0 h.1)]

/-! ### key.Right -/
theorem key_Right_s (s : ByteArray) (hs : s.size ≤ maxLen) : key_Right.f s = some (keyB s) := by
  unfold key_Right.f keyB
  simp only [maxLen] at hs
  have hw : wrap64 ((s.size : Int) - 1) = (s.size : Int) - 1 := by unfold wrap64; omega
  rw [hw]
  clear hw
  by_cases h0 : (s.size : Int) = 0
  · rw [if_pos h0, decide_eq_false (show ¬ 3 ≤ s.size by omega)]; rfl
  · rw [if_neg h0, if_pos (by omega)]
    by_cases h1 : bt s 0 = 105
    · rw [if_pos h1]
      by_cases h2 : (s.size : Int) - 1 ≥ 2
      · rw [if_pos h2, decide_eq_true (show 3 ≤ s.size by omega), Bool.true_and]
        congr 1
        rw [Bool.eq_iff_iff, decide_eq_true_iff, Bool.or_eq_true, decide_eq_true_iff, decide_eq_true_iff]
        constructor
        · intro h; exact .inl ⟨h1, by omega⟩
        · rintro (⟨_, h⟩ | ⟨h, _⟩) <;> omega
      · rw [if_neg h2, decide_eq_false (show ¬ 3 ≤ s.size by omega)]; rfl
    · rw [if_neg h1]
      by_cases h3 : bt s 0 = 104
      · rw [if_pos h3]
        by_cases h2 : (s.size : Int) - 1 ≥ 2
        · rw [if_pos h2, decide_eq_true (show 3 ≤ s.size by omega), Bool.true_and]
          congr 1
          rw [Bool.eq_iff_iff, decide_eq_true_iff, Bool.or_eq_true, decide_eq_true_iff, decide_eq_true_iff]
          constructor
          · intro h; exact .inr ⟨h3, by omega⟩
          · rintro (⟨h, _⟩ | ⟨_, h⟩) <;> omega
        · rw [if_neg h2, decide_eq_false (show ¬ 3 ≤ s.size by omega)]; rfl
      · rw [if_neg h3, decide_eq_false (show ¬ (bt s 0 = 105 ∧ s.size ≤ 256) from fun h => h1 h.1), decide_eq_false (show ¬ (bt s 0 = 104 ∧ s.size ≤ 18) from fun h => h3 h.1), Bool.or_false, Bool.and_false]

/-! ### conf.fair -/
theorem conf_fair_l1 (l : List Rs) (hl : l.length ≤ 20) (hk : ∀ r ∈ l, r.f0.size ≤ 1000) {r : Bool} (hr : r = decide (∀ i, (h : i < l.length) → keyB l[i].f0 = true)) : Ev (fun k => conf_fair.l1 k l (l.length : Int) 0) r := by
  refine loopC (n := l.length) (L := fun k i => conf_fair.l1 k l (l.length : Int) i) (fun i => (h : i < l.length) → keyB l[i].f0 = true) false (fun i hi hp r h => ?_) (fun i hi hp => ?_) (fun h => ?_) (fun h => ?_)
  · refine Ev.step (fun k => ?_) h
    have h1 : l[i].f0.size ≤ maxLen := by have := hk l[i] (List.getElem_mem hi); simp only [maxLen]; omega
    show conf_fair.l1 (k + 1) l _ _ = _
    rw [conf_fair.l1, if_pos (by omega), if_pos (by omega), if_pos (by omega), show rd_T59 l (i : Int) = l[i] from rd_get hi, key_Right_s _ h1, hp hi, Option.bind_some, if_pos rfl, wrap_next hi (by omega)]
  · refine Ev.step (f := fun _ => some false) (fun k => ?_) Ev.some'
    have h1 : l[i].f0.size ≤ maxLen := by have := hk l[i] (List.getElem_mem hi); simp only [maxLen]; omega
    have h2 : keyB l[i].f0 = false := by
      cases h : keyB l[i].f0 with
      | false => rfl
      | true => exact absurd (fun _ => h) hp
    show conf_fair.l1 (k + 1) l _ _ = _
    rw [conf_fair.l1, if_pos (by omega), if_pos (by omega), if_pos (by omega), show rd_T59 l (i : Int) = l[i] from rd_get hi, key_Right_s _ h1, h2, Option.bind_some, if_neg (by simp)]
  · rw [hr, decide_eq_true (fun i hi => h i hi hi)]
    refine Ev.step (f := fun _ => some true) (fun k => ?_) Ev.some'
    show conf_fair.l1 (k + 1) l _ _ = _
    rw [conf_fair.l1, if_neg (by omega)]
  · obtain ⟨i, hi, hp⟩ := h
    rw [hr]
    exact decide_eq_false (fun h => hp (fun hi => h i hi))
theorem conf_fair_l0 (a b : Int) (p : List Rg) (l : List Rs) (c d e : Int) (hl : l.length ≤ 20) (hp : p.length ≤ 20) (hk : ∀ r ∈ l, r.f0.size ≤ 1000) {r : Bool}
    (hr : r = decide ((∀ i, (h : i < p.length) → p[i].f0 ≤ p[i].f1) ∧ ∀ i, (h : i < l.length) → keyB l[i].f0 = true)) : Ev (fun k => conf_fair.l0 k p (p.length : Int) 0 a b p l c d e) r := by
  refine loopC (n := p.length) (L := fun k i => conf_fair.l0 k p (p.length : Int) i a b p l c d e) (fun i => (h : i < p.length) → p[i].f0 ≤ p[i].f1) false (fun i hi hp r h => ?_) (fun i hi hp => ?_) (fun h => ?_) (fun h => ?_)
  · refine Ev.step (fun k => ?_) h
    have := hp hi
    clear hp
    show conf_fair.l0 (k + 1) p _ _ _ _ _ _ _ _ _ = _
    rw [conf_fair.l0, if_pos (by omega), if_pos (by omega), if_pos (by omega), show rd_T62 p (i : Int) = p[i] from rd_get hi, if_neg (by omega), wrap_next hi (by omega)]
  · refine Ev.step (f := fun _ => some false) (fun k => ?_) Ev.some'
    have : p[i].f0 > p[i].f1 := by
      by_cases h : p[i].f0 > p[i].f1
      · exact h
      · exact absurd (fun _ => Int.not_lt.1 h) hp
    clear hp
    show conf_fair.l0 (k + 1) p _ _ _ _ _ _ _ _ _ = _
    rw [conf_fair.l0, if_pos (by omega), if_pos (by omega), if_pos (by omega), show rd_T62 p (i : Int) = p[i] from rd_get hi, if_pos this]
  · refine Ev.step (f := fun k => conf_fair.l1 k l (l.length : Int) 0) (fun k => ?_) (conf_fair_l1 l hl hk ?_)
    · show conf_fair.l0 (k + 1) p _ _ _ _ _ _ _ _ _ = _
      rw [conf_fair.l0, if_neg (by omega)]
    · rw [hr]; exact decide_eq_decide.2 ⟨fun h2 => h2.2, fun h2 => ⟨fun i hi => h i hi hi, h2⟩⟩
  · obtain ⟨i, hi, hp⟩ := h
    rw [hr]
    exact decide_eq_false (fun h => hp (fun hi => h.1 i hi))
open Classical in
theorem conf_fair_s (s : Sb) (hs : SmS s) : Ev (fun k => conf_fair.f k s.f0 s.f1 s.f2 s.f3 s.f4 s.f5 s.f6) (decide (FairS s)) := by
  obtain ⟨h1, h2, h3⟩ := hs
  have J : ∀ (x : Bool), (x = true → ¬ FairS s) → (x = false → (FairS s ↔ ((∀ i, (h : i < s.f2.length) → s.f2[i].f0 ≤ s.f2[i].f1) ∧ ∀ i, (h : i < s.f3.length) → keyB s.f3[i].f0 = true))) →
      Ev (fun k => conf_fair.j0 k x s.f0 s.f1 s.f2 s.f3 s.f4 s.f5 s.f6) (decide (FairS s)) := by
    intro x hx hy
    cases x with
    | true =>
      rw [decide_eq_false (hx rfl)]
      exact Ev.step (f := fun _ => some false) (fun k => by show conf_fair.j0 (k + 1) _ _ _ _ _ _ _ _ = _; rw [conf_fair.j0, if_pos rfl]) Ev.some'
    | false =>
      refine Ev.step (f := fun k => conf_fair.l0 k s.f2 (s.f2.length : Int) 0 s.f0 s.f1 s.f2 s.f3 s.f4 s.f5 s.f6) (fun k => by show conf_fair.j0 (k + 1) _ _ _ _ _ _ _ _ = _; rw [conf_fair.j0, if_neg (by simp)]) (conf_fair_l0 _ _ _ _ _ _ _ h2 h1 h3 ?_)
      exact decide_eq_decide.2 (hy rfl)
  simp only [conf_fair.f, addr_Fair_s, conf_within_s, Option.bind_some]
  by_cases a1 : Com.fairB s.f0 s.f1 = true
  · refine Ev.pos a1 ?_
    by_cases a2 : 8 ≤ s.f1 ∧ s.f1 ≤ 30
    · refine Ev.pos (decide_eq_true a2) ?_
      by_cases a3 : (s.f2.length : Int) > 4
      · refine Ev.pos a3 (J true (fun _ h => by have := h.2.2.2.1; omega) (fun h => by cases h))
      · refine Ev.neg a3 ?_
        by_cases a4 : (s.f3.length : Int) > 8
        · refine Ev.pos a4 (J true (fun _ h => by have := h.2.2.2.2.1; omega) (fun h => by cases h))
        · refine Ev.neg a4 ?_
          by_cases a5 : 0 ≤ s.f4 ∧ s.f4 ≤ 99
          · refine Ev.pos (decide_eq_true a5) (J _ (fun h h2 => ?_) (fun h => ?_))
            · have h3 := h2.2.2.2.2.2.2.2
              rw [decide_eq_true ⟨h3.1, h3.2.1⟩] at h; cases h
            · have h3 : 1 ≤ s.f6 ∧ s.f6 ≤ 2147483648 := by
                by_cases q : 1 ≤ s.f6 ∧ s.f6 ≤ 2147483648
                · exact q
                · rw [decide_eq_false q] at h; cases h
              exact ⟨fun h => h.2.2.2.2.2.2.2.2.2, fun h => ⟨a1, a2.1, a2.2, by omega, by omega, a5.1, a5.2, h3.1, h3.2, h⟩⟩
          · exact Ev.neg (by rw [decide_eq_false a5]; simp) (J true (fun _ h => a5 ⟨h.2.2.2.2.2.1, h.2.2.2.2.2.2.1⟩) (fun h => by cases h))
    · exact Ev.neg (by rw [decide_eq_false a2]; simp) (J true (fun _ h => a2 ⟨h.2.1, h.2.2.1⟩) (fun h => by cases h))
  · exact Ev.neg a1 (J true (fun _ h => a1 h.1) (fun h => by cases h))

/-! ### conf.form -/
open Classical in
theorem conf_form_l1 (nets : List Nt) (h : Sm nets) {r : Bool} (hr : r = true ↔ ∀ n ∈ nets, ∀ s ∈ n.f0, FairS s) : Ev (fun k => conf_form.l1 k (spotsL nets) ((spotsL nets).length : Int) 0) r := by
  have hN : (spotsL nets).length ≤ 1000 := by have := spots_len (n := 0) (fun x hx => (h.2 x hx).1); have := h.1; unfold spotsL; omega
  have hS : ∀ (i : Nat) (hi : i < (spotsL nets).length), SmS (spotsL nets)[i].f2 := fun i hi => (spots_all (F := SmS)).2 (fun n hn s hs => (h.2 n hn).2 s hs) _ (List.getElem_mem hi)
  rw [← spots_all] at hr
  generalize spotsL nets = l at *
  refine loopC (n := l.length) (L := fun k i => conf_form.l1 k l (l.length : Int) i) (fun i => ∃ h : i < l.length, FairS l[i].f2) false (fun i hi hp r h => ?_) (fun i hi hp => ?_) (fun h => ?_) (fun h => ?_)
  · obtain ⟨_, hp⟩ := hp
    have e := conf_fair_s l[i].f2 (hS i hi)
    rw [decide_eq_true hp] at e
    refine Ev.step (fun k => ?_) (Ev.bind e (f := fun k t => if t = true then conf_form.l1 k l (l.length : Int) ((i + 1 : Nat) : Int) else some false) (Ev.pos rfl h))
    show conf_form.l1 (k + 1) _ _ _ = _
    rw [conf_form.l1, if_pos (by omega), if_pos (by omega), if_pos (by omega), show rd_T66 l (i : Int) = l[i] from rd_get hi, wrap_next hi (by omega)]
  · have e := conf_fair_s l[i].f2 (hS i hi)
    rw [decide_eq_false (fun h => hp ⟨hi, h⟩)] at e
    refine Ev.step (fun k => ?_) (Ev.bind e (f := fun k t => if t = true then conf_form.l1 k l (l.length : Int) ((i + 1 : Nat) : Int) else some false) (Ev.neg (by simp) Ev.some'))
    show conf_form.l1 (k + 1) _ _ _ = _
    rw [conf_form.l1, if_pos (by omega), if_pos (by omega), if_pos (by omega), show rd_T66 l (i : Int) = l[i] from rd_get hi, wrap_next hi (by omega)]
  · rw [hr.2 (fun x hx => by obtain ⟨i, hi, rfl⟩ := List.mem_iff_getElem.1 hx; exact (h i hi).2)]
    refine Ev.step (f := fun _ => some true) (fun k => ?_) Ev.some'
    show conf_form.l1 (k + 1) _ _ _ = _
    rw [conf_form.l1, if_neg (by omega)]
  · obtain ⟨i, hi, hp⟩ := h
    cases r with
    | false => rfl
    | true => exact absurd ⟨hi, hr.1 rfl _ (List.getElem_mem hi)⟩ hp
theorem conf_form_l0 (a b : Int) (nets : List Nt) (h : Sm nets) {r : Bool} (hr : r = true ↔ (∀ n ∈ nets, 1 ≤ n.f0.length ∧ n.f0.length ≤ 4) ∧ ∀ n ∈ nets, ∀ s ∈ n.f0, FairS s) : Ev (fun k => conf_form.l0 k nets (nets.length : Int) 0 a b nets) r := by
  have hN := h.1
  refine loopC (n := nets.length) (L := fun k i => conf_form.l0 k nets (nets.length : Int) i a b nets) (fun i => ∃ h : i < nets.length, 1 ≤ nets[i].f0.length ∧ nets[i].f0.length ≤ 4) false (fun i hi hp r h => ?_) (fun i hi hp => ?_) (fun h2 => ?_) (fun h => ?_)
  · obtain ⟨_, hp⟩ := hp
    refine Ev.step (fun k => ?_) h
    show conf_form.l0 (k + 1) _ _ _ _ _ _ = _
    rw [conf_form.l0, if_pos (by omega), if_pos (by omega), if_pos (by omega), show rd_T41 nets (i : Int) = nets[i] from rd_get hi, conf_within_s, decide_eq_true (by omega), Option.bind_some, if_pos rfl, wrap_next hi (by omega)]
  · have h4 : ¬ (1 ≤ (nets[i].f0.length : Int) ∧ (nets[i].f0.length : Int) ≤ 4) := fun h => hp ⟨hi, by omega⟩
    refine Ev.step (f := fun _ => some false) (fun k => ?_) Ev.some'
    show conf_form.l0 (k + 1) _ _ _ _ _ _ = _
    rw [conf_form.l0, if_pos (by omega), if_pos (by omega), if_pos (by omega), show rd_T41 nets (i : Int) = nets[i] from rd_get hi, conf_within_s, decide_eq_false h4, Option.bind_some, if_neg (by simp)]
  · refine Ev.step (fun k => ?_) (Ev.bind (conf_spots_s a b nets h) (f := fun k t => conf_form.l1 k t (t.length : Int) 0) (conf_form_l1 nets h (r := r) ?_))
    · show conf_form.l0 (k + 1) _ _ _ _ _ _ = _
      rw [conf_form.l0, if_neg (by omega)]
    · rw [hr]
      exact ⟨fun h => h.2, fun h3 => ⟨fun n hn => by obtain ⟨i, hi, rfl⟩ := List.mem_iff_getElem.1 hn; exact (h2 i hi).2, h3⟩⟩
  · obtain ⟨i, hi, hp⟩ := h
    cases r with
    | false => rfl
    | true => exact absurd ⟨hi, (hr.1 rfl).1 _ (List.getElem_mem hi)⟩ hp
open Classical in
theorem conf_form_s (a b : Int) (nets : List Nt) (h : Sm nets) : Ev (fun k => conf_form.f k a b nets) (decide (FormP a b nets)) := by
  have J : ∀ (x : Bool), (x = true → ¬ FormP a b nets) → (x = false → (FormP a b nets ↔ ((∀ n ∈ nets, 1 ≤ n.f0.length ∧ n.f0.length ≤ 4) ∧ ∀ n ∈ nets, ∀ s ∈ n.f0, FairS s))) →
      Ev (fun k => conf_form.j0 k x a b nets) (decide (FormP a b nets)) := by
    intro x hx hy
    cases x with
    | true =>
      rw [decide_eq_false (hx rfl)]
      exact Ev.step (f := fun _ => some false) (fun k => by show conf_form.j0 (k + 1) _ _ _ _ = _; rw [conf_form.j0, if_pos rfl]) Ev.some'
    | false =>
      refine Ev.step (fun k => by show conf_form.j0 (k + 1) _ _ _ _ = _; rw [conf_form.j0, if_neg (by simp)]) (conf_form_l0 a b nets h ?_)
      rw [decide_eq_true_iff]; exact hy rfl
  simp only [conf_form.f, addr_Right_s, conf_within_s, Option.bind_some]
  by_cases a1 : 0 ≤ a ∧ a ≤ 4294967295
  · refine Ev.pos (decide_eq_true a1) ?_
    by_cases a2 : 1 ≤ b ∧ b ≤ 2147483648
    · refine Ev.pos (decide_eq_true a2) (J _ (fun h3 h4 => ?_) (fun h3 => ?_))
      · have := of_decide_eq_true h3; have := h4.2.2.2.2.1; omega
      · have := of_decide_eq_false h3
        exact ⟨fun h => h.2.2.2.2.2, fun h => ⟨a1.1, a1.2, a2.1, a2.2, by omega, h⟩⟩
    · exact Ev.neg (by rw [decide_eq_false a2]; simp) (J true (fun _ h => a2 ⟨h.2.2.1, h.2.2.2.1⟩) (fun h => by cases h))
  · exact Ev.neg (by rw [decide_eq_false a1]; simp) (J true (fun _ h => a1 ⟨h.1, h.2.1⟩) (fun h => by cases h))

/-! ### conf.has -/
theorem conf_has_s (a b c : Int) : conf_has.f a b c = some (decide (a ≤ c ∧ c ≤ b)) := by
  unfold conf_has.f
  rw [conf_within_s, Option.bind_some]

/-! ### addr.Has -/
theorem addr_Has_s (b n a : Int) : addr_Has.f b n a = some (Com.hasB b n a) := by
  unfold addr_Has.f Com.hasB
  rw [addr_Fair_s, Option.bind_some]
  by_cases h : Com.fairB b n = true
  · obtain ⟨h0, h1, h2, h3, h4⟩ := (Com.fairB_iff b n).1 h
    have he := Com.fair_end b n h
    have hp := Com.sz_pos n
    rw [if_pos h, h, Bool.true_and, addr_Right_s, Option.bind_some]
    by_cases ha : 0 ≤ a ∧ a ≤ 4294967295
    · rw [decide_eq_true ha, if_pos rfl, addr_mask_s n h0 h1, Option.bind_some]
      obtain ⟨x, rfl⟩ := Int.eq_ofNat_of_zero_le ha.1
      rw [addr_mask_n, Com.i64_and_nat x _ (by omega) (Nat.lt_of_le_of_lt (Nat.sub_le _ _) (by omega)), Com.and_mask x _ (by omega) (by omega)]
      congr 1
      rw [Bool.eq_iff_iff, beq_iff_eq, decide_eq_true_iff]
      obtain ⟨q, hq⟩ := Int.dvd_of_emod_eq_zero h4
      have hszz : (2 ^ (32 - n.toNat) : Nat) = Com.sz n := rfl
      rw [hszz]
      push_cast
      rw [hq]
      have hs : (0 : Int) < Com.sz n := by omega
      generalize (Com.sz n : Int) = s at *
      have hd := Int.mul_ediv_add_emod (x : Int) s
      have hm0 := Int.emod_nonneg (x : Int) (by omega : s ≠ 0)
      have hm1 := Int.emod_lt_of_pos (x : Int) hs
      constructor
      · intro e
        rw [Int.mul_comm] at e
        omega
      · intro ⟨e1, e2⟩
        have hx : (x : Int) / s = q := by
          have t1 : q ≤ (x : Int) / s := (Int.le_ediv_iff_mul_le hs).2 (by rw [Int.mul_comm]; omega)
          have t2 : (x : Int) / s < q + 1 := (Int.ediv_lt_iff_lt_mul hs).2 (by rw [Int.add_mul, Int.mul_comm q]; omega)
          omega
        rw [hx, Int.mul_comm]
    · rw [decide_eq_false ha, if_neg (by simp), decide_eq_false (by omega)]
  · rw [if_neg h, Bool.eq_false_iff.2 h, Bool.false_and]

/-! ### addr.Last -/
theorem addr_Last_all : ∀ i : Fin 33, Go.bits .andNot .i64 4294967295 (4294967296 - (Com.sz (i.val : Int) : Int)) = (Com.sz (i.val : Int) : Int) - 1 := by decide +kernel
theorem addr_Last_s (b n : Int) : addr_Last.f b n = some (if Com.fairB b n = true then (b + (Com.sz n : Int) - 1, 0) else (0, 1)) := by
  unfold addr_Last.f
  rw [addr_Fair_s, Option.bind_some]
  by_cases h : Com.fairB b n = true
  · obtain ⟨h0, h1, h2, h3, h4⟩ := (Com.fairB_iff b n).1 h
    have he := Com.fair_end b n h
    rw [if_pos h, if_pos h, addr_mask_s n h0 h1, Option.bind_some]
    have ha := addr_Last_all ⟨n.toNat, by omega⟩
    rw [show ((⟨n.toNat, by omega⟩ : Fin 33).val : Int) = n from by simp; omega] at ha
    rw [ha]
    obtain ⟨q, hq⟩ := Int.dvd_of_emod_eq_zero h4
    have hp := Com.sz_pos n
    have hq0 : 0 ≤ q := by
      refine Int.le_of_not_gt fun hlt => ?_
      have : (Com.sz n : Int) * q ≤ (Com.sz n : Int) * (-1) := Int.mul_le_mul_of_nonneg_left (by omega) (by omega)
      omega
    obtain ⟨x, rfl⟩ := Int.eq_ofNat_of_zero_le hq0
    have hb : b = ((x * 2 ^ (32 - n.toNat) : Nat) : Int) := by rw [hq]; unfold Com.sz; push_cast; rw [Int.mul_comm]
    have hz : (Com.sz n : Int) - 1 = ((2 ^ (32 - n.toNat) - 1 : Nat) : Int) := by unfold Com.sz at *; omega
    have hszz : Com.sz n = 2 ^ (32 - n.toNat) := rfl
    rw [hz, hb, Com.i64_or_add x (2 ^ (32 - n.toNat) - 1) (32 - n.toNat) (by omega) (by omega)]
    congr 2
    omega
  · rw [if_neg h, if_neg h]

end Go.Proofs.Ytdcabfonjmeajaa.PConf
