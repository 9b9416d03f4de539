/- The law TableRows holds of the printed functions; no condition beyond the law's own. -/
import Derived.Test.YtlabpabnddfllaaTableRTableRows
import Derived.Test.YtlabpabnddfllaaPTablex12
import Derived.Test.YtlabpabnddfllaaPTablex6
import Derived.Test.YtlabpabnddfllaaTableTab
import Derived.Test.YtlabpabnddfllaaTableS1
set_option linter.unusedVariables false
set_option linter.unusedSimpArgs false
namespace Go.Proofs.Ytlabpabnddfllaa.PTable
open Go.RowKit Go.Proofs.YtlabpabnddfllaaW.PrintWords Go.Proofs.YtlabpabnddfllaaW.PrintLast Go.Proofs.YtlabpabnddfllaaW.PrintMore

/-! ### boarderref10.SameLeases -/
theorem boarderref10_SameLeases_l (t : List Le) (ht : t.length ≤ maxLen) (d : Nat) : ∀ (i : Nat) (k : Nat), i + d = t.length → d < k → boarderref10_SameLeases.l0 k t t i = some true := by
  simp only [maxLen] at ht
  induction d with
  | zero =>
    intro i k hi hk
    obtain ⟨k, rfl⟩ : ∃ m, k = m + 1 := ⟨k - 1, by omega⟩
    rw [boarderref10_SameLeases.l0, if_neg (by omega)]
  | succ d ih =>
    intro i k hi hkk
    obtain ⟨k, rfl⟩ : ∃ m, k = m + 1 := ⟨k - 1, by omega⟩
    have hw : wrap64 ((i : Int) + 1) = ((i + 1 : Nat) : Int) := by unfold wrap64; omega
    rw [boarderref10_SameLeases.l0, if_pos (by omega), if_pos (by omega), if_pos (by omega), if_neg (by simp), hw]
    exact ih (i + 1) k (by omega) (by omega)
theorem boarderref10_SameLeases_s (t : List Le) (ht : t.length ≤ maxLen) (k : Nat) (hk : t.length < k) : boarderref10_SameLeases.f k t t = some true := by
  unfold boarderref10_SameLeases.f
  rw [if_pos rfl]
  exact boarderref10_SameLeases_l t ht t.length 0 k (by omega) hk

/-! ### boarderref11.behind -/
theorem boarderref11_behind_l (t : List Le) (ht : t.length ≤ maxLen) (a : Int) (d : Nat) : ∀ (i : Nat) (k : Nat), i + d = t.length → d < k → boarderref11_behind.l0 k t a i = some (decide (∃ x ∈ t.drop i, x.f0 = a)) := by
  simp only [maxLen] at ht
  induction d with
  | zero =>
    intro i k hi hk
    obtain ⟨k, rfl⟩ : ∃ m, k = m + 1 := ⟨k - 1, by omega⟩
    rw [boarderref11_behind.l0, if_neg (by omega), List.drop_eq_nil_of_le (by omega)]; simp
  | succ d ih =>
    intro i k hi hkk
    obtain ⟨k, rfl⟩ : ∃ m, k = m + 1 := ⟨k - 1, by omega⟩
    have hw : wrap64 ((i : Int) + 1) = ((i + 1 : Nat) : Int) := by unfold wrap64; omega
    rw [boarderref11_behind.l0, if_pos (by omega), if_pos (by omega), show rd_T43 t (i : Int) = atL t i from rfl, hw, List.drop_eq_getElem_cons (i := i) (by omega), ← atL_get (by omega)]
    by_cases h : (atL t i).f0 = a
    · rw [if_pos h, decide_eq_true ⟨_, List.mem_cons_self, h⟩]
    · rw [if_neg h, ih (i + 1) k (by omega) (by omega)]
      congr 1
      refine decide_eq_decide.2 ⟨fun ⟨x, hx, e⟩ => ⟨x, List.mem_cons_of_mem _ hx, e⟩, fun ⟨x, hx, e⟩ => ?_⟩
      rcases List.mem_cons.1 hx with rfl | hx
      · exact absurd e h
      · exact ⟨x, hx, e⟩
open Classical in
theorem boarderref11_behind_s (t : List Le) (ht : t.length ≤ maxLen) (i : Nat) (hi : i < t.length) (a : Int) (k : Nat) (hk : t.length < k) : boarderref11_behind.f k t i a = some (decide (∃ x ∈ t.drop (i + 1), x.f0 = a)) := by
  have hm := ht
  simp only [maxLen] at hm
  unfold boarderref11_behind.f
  rw [show wrap64 ((i : Int) + 1) = ((i + 1 : Nat) : Int) from by unfold wrap64; omega, boarderref11_behind_l t ht a (t.length - (i + 1)) (i + 1) k (by omega) (by omega)]
  congr 1
  exact decide_eq_decide.2 Iff.rfl

/-! ### boarderref11.Last -/
/-- Those with none of their address behind them. -/
def uniqL : List Le → List Le
  | [] => []
  | x :: r => if ∃ y ∈ r, y.f0 = x.f0 then uniqL r else x :: uniqL r
theorem uniqL_sub : ∀ t : List Le, (uniqL t).Sublist t
  | [] => List.Sublist.slnil
  | x :: r => by
    unfold uniqL
    split
    · exact (uniqL_sub r).cons x
    · exact (uniqL_sub r).cons_cons x
theorem uniqL_diff : ∀ t : List Le, (uniqL t).Pairwise (fun a b => a.f0 ≠ b.f0)
  | [] => List.Pairwise.nil
  | x :: r => by
    unfold uniqL
    split
    · exact uniqL_diff r
    · rename_i h
      exact List.pairwise_cons.2 ⟨fun y hy e => h ⟨y, (uniqL_sub r).subset hy, e.symm⟩, uniqL_diff r⟩
theorem uniqL_snoc (l : Le) : ∀ (t : List Le) (x : Le), x ∈ uniqL (t ++ [l]) ↔ x = l ∨ (x ∈ uniqL t ∧ x.f0 ≠ l.f0)
  | [], x => by simp [uniqL]
  | y :: r, x => by
    have ih := uniqL_snoc l r x
    rw [List.cons_append]
    unfold uniqL
    by_cases c : ∃ z ∈ r, z.f0 = y.f0
    · obtain ⟨z, hz, e⟩ := c
      rw [if_pos ⟨z, List.mem_append_left _ hz, e⟩, if_pos ⟨z, hz, e⟩]
      exact ih
    · rw [if_neg c]
      by_cases d : l.f0 = y.f0
      · rw [if_pos ⟨l, by simp, d⟩, ih, List.mem_cons]
        constructor
        · rintro (h | ⟨h1, h2⟩)
          · exact .inl h
          · exact .inr ⟨.inr h1, h2⟩
        · rintro (h | ⟨h1 | h1, h2⟩)
          · exact .inl h
          · exact absurd (by rw [h1]; exact d.symm) h2
          · exact .inr ⟨h1, h2⟩
      · rw [if_neg (by
          rintro ⟨z, hz, e⟩
          rcases List.mem_append.1 hz with h | h
          · exact c ⟨z, h, e⟩
          · exact d (by rw [← List.mem_singleton.1 h]; exact e)), List.mem_cons, ih, List.mem_cons]
        constructor
        · rintro (h | h | ⟨h1, h2⟩)
          · exact .inr ⟨.inl h, by rw [h]; exact fun q => d q.symm⟩
          · exact .inl h
          · exact .inr ⟨.inr h1, h2⟩
        · rintro (h | ⟨h1 | h1, h2⟩)
          · exact .inr (.inl h)
          · exact .inl h1
          · exact .inr (.inr ⟨h1, h2⟩)
theorem boarderref11_Last_l2 (t : List Le) (ht : t.length ≤ 500) (out : List Le) (ho : out.length ≤ 1000) (d : Nat) : ∀ (i best : Nat) (k : Nat), i + d = t.length → best < i → (∀ j, j < i → (atL t best).f0 ≤ (atL t j).f0) →
    ∃ b, b < t.length ∧ (∀ j, j < t.length → (atL t b).f0 ≤ (atL t j).f0) ∧ boarderref11_Last.l2 (k + d + 1) t out best i = boarderref11_Last.l1 k (t.take b ++ t.drop (b + 1)) (out ++ [atL t b]) := by
  induction d with
  | zero =>
    intro i best k hi hb hm
    refine ⟨best, by omega, fun j hj => hm j (by omega), ?_⟩
    have hw : wrap64 ((best : Int) + 1) = ((best + 1 : Nat) : Int) := by unfold wrap64; omega
    have hx : (⟨(atL t best).f0, (atL t best).f1, (atL t best).f2, (atL t best).f3⟩ : Le) = atL t best := rfl
    have l1 : (t.take best).length ≤ 500 := by rw [List.length_take]; omega
    have l2 : (t.drop (best + 1)).length ≤ 500 := by rw [List.length_drop]; omega
    rw [Nat.add_zero, boarderref11_Last.l2, if_neg (by omega), if_pos (by omega), if_pos (by omega), if_pos (by omega), hw, show rd_T43 t (best : Int) = atL t best from rfl, hx]
    simp only [Option.bind_some, Int.toNat_natCast, List.nil_append]
    rw [if_pos (by omega), if_pos (by simp only [List.length_nil]; omega), if_pos (by omega), if_pos (by omega), if_pos (by omega)]
  | succ d ih =>
    intro i best k hi hb hm
    have hw : wrap64 ((i : Int) + 1) = ((i + 1 : Nat) : Int) := by unfold wrap64; omega
    rw [show k + (d + 1) + 1 = (k + d + 1) + 1 from by omega, boarderref11_Last.l2, if_pos (by omega), if_pos (by omega), if_pos (by omega), if_pos (by omega), hw, show rd_T43 t (best : Int) = atL t best from rfl, show rd_T43 t (i : Int) = atL t i from rfl]
    by_cases c : (atL t i).f0 < (atL t best).f0
    · rw [if_pos c]
      exact ih (i + 1) i k (by omega) (by omega) fun j hj => by
        rcases Nat.lt_or_ge j i with h | h
        · have := hm j h; omega
        · rw [show j = i from by omega]; exact Int.le_refl _
    · rw [if_neg c]
      exact ih (i + 1) best k (by omega) (by omega) fun j hj => by
        rcases Nat.lt_or_ge j i with h | h
        · exact hm j h
        · rw [show j = i from by omega]; omega
/-- The rounds that sorting takes. -/
def lastF : Nat → Nat | 0 => 1 | m + 1 => lastF m + m + 2
theorem lastF_mono {m n : Nat} (h : m ≤ n) : lastF m ≤ lastF n := by
  induction n with
  | zero => rw [show m = 0 from by omega]; exact Nat.le_refl _
  | succ n ih =>
    rcases Nat.lt_or_ge n m with c | c
    · rw [show m = n + 1 from by omega]; exact Nat.le_refl _
    · have := ih c; rw [lastF]; omega
theorem boarderref11_Last_l1 (m : Nat) : ∀ (t out : List Le) (k : Nat), t.length = m → m ≤ 500 → out.length + m ≤ 1000 → t.Pairwise (fun a b => a.f0 ≠ b.f0) → lastF m ≤ k →
    ∃ r, boarderref11_Last.l1 k t out = some (out ++ r) ∧ Asc r ∧ ∀ x, x ∈ r ↔ x ∈ t := by
  induction m with
  | zero =>
    intro t out k hm h5 ho hp hk
    rw [lastF] at hk
    obtain ⟨k, rfl⟩ : ∃ m, k = m + 1 := ⟨k - 1, by omega⟩
    have e := List.length_eq_zero_iff.1 hm
    subst e
    exact ⟨[], by rw [boarderref11_Last.l1, if_neg (by simp), List.append_nil], List.Pairwise.nil, fun x => Iff.rfl⟩
  | succ m ih =>
    intro t out k hm h5 ho hp hk
    rw [lastF] at hk
    obtain ⟨k, rfl⟩ : ∃ q, k = (q + m + 1) + 1 := ⟨k - m - 2, by omega⟩
    have hk2 : lastF m ≤ k := by omega
    clear hk
    obtain ⟨b, hb, hmin, e⟩ := boarderref11_Last_l2 t (by omega) out (by omega) m 1 0 k (by omega) (by omega) (fun j hj => by rw [show j = 0 from by omega]; exact Int.le_refl _)
    have hs : t = t.take b ++ atL t b :: t.drop (b + 1) := by
      rw [atL_get hb, ← List.drop_eq_getElem_cons hb, List.take_append_drop]
    have hp' := hp
    rw [hs, List.pairwise_append, List.pairwise_cons] at hp'
    obtain ⟨p1, ⟨p2, p3⟩, p4⟩ := hp'
    have hq : (t.take b ++ t.drop (b + 1)).Pairwise (fun a b => a.f0 ≠ b.f0) := List.pairwise_append.2 ⟨p1, p3, fun x hx y hy => p4 x hx y (List.mem_cons_of_mem _ hy)⟩
    have hmem : ∀ x, x ∈ t ↔ x = atL t b ∨ x ∈ t.take b ++ t.drop (b + 1) := fun x => by
      constructor
      · intro h
        rw [hs] at h
        rcases List.mem_append.1 h with h | h
        · exact .inr (List.mem_append_left _ h)
        · rcases List.mem_cons.1 h with h | h
          · exact .inl h
          · exact .inr (List.mem_append_right _ h)
      · rintro (h | h)
        · rw [h]; exact atL_mem hb
        · rcases List.mem_append.1 h with h | h
          · exact List.mem_of_mem_take h
          · exact List.mem_of_mem_drop h
    obtain ⟨r, hr, ha, hx⟩ := ih (t.take b ++ t.drop (b + 1)) (out ++ [atL t b]) k (by rw [List.length_append, List.length_take, List.length_drop]; omega) (by omega) (by rw [List.length_append, List.length_singleton]; omega) hq hk2
    refine ⟨atL t b :: r, ?_, ?_, fun x => ?_⟩
    · rw [boarderref11_Last.l1, if_pos (by omega)]
      rw [show boarderref11_Last.l2 (k + m + 1) t out 0 1 = boarderref11_Last.l2 (k + m + 1) t out ((0 : Nat) : Int) ((1 : Nat) : Int) from rfl, e, hr]
      simp
    · refine List.pairwise_cons.2 ⟨fun y hy => ?_, ha⟩
      have h1 := (hx y).1 hy
      have h2 : (atL t b).f0 ≤ y.f0 := by
        obtain ⟨j, hj, rfl⟩ := mem_atL ((hmem y).2 (.inr h1))
        exact hmin j hj
      have h3 : (atL t b).f0 ≠ y.f0 := by
        rcases List.mem_append.1 h1 with h | h
        · exact fun q => p4 y h _ List.mem_cons_self q.symm
        · exact p2 y h
      omega
    · rw [List.mem_cons, hx, hmem]
theorem boarderref11_Last_l0 (t : List Le) (ht : t.length ≤ 500) (d : Nat) : ∀ (i : Nat) (out : List Le) (k : Nat), i + d = t.length → out.length + d ≤ 1000 → t.length < k →
    boarderref11_Last.l0 (k + d + 1) t out i = boarderref11_Last.l1 k (out ++ uniqL (t.drop i)) [] := by
  have hm : (140737488351232 : Nat) ≤ maxLen := by decide
  induction d with
  | zero =>
    intro i out k hi ho hk
    rw [boarderref11_Last.l0, if_neg (by omega), List.drop_eq_nil_of_le (by omega), uniqL, List.append_nil]
  | succ d ih =>
    intro i out k hi ho hk
    have hw : wrap64 ((i : Int) + 1) = ((i + 1 : Nat) : Int) := by unfold wrap64; omega
    have hx : (⟨(atL t i).f0, (atL t i).f1, (atL t i).f2, (atL t i).f3⟩ : Le) = atL t i := rfl
    rw [show k + (d + 1) + 1 = (k + d + 1) + 1 from by omega, boarderref11_Last.l0, if_pos (by omega), if_pos (by omega), show rd_T43 t (i : Int) = atL t i from rfl, boarderref11_behind_s t (by omega) i (by omega) _ _ (by omega), hw, hx, List.drop_eq_getElem_cons (i := i) (by omega), ← atL_get (by omega), uniqL]
    simp only [Option.bind_some]
    by_cases c : ∃ y ∈ t.drop (i + 1), y.f0 = (atL t i).f0
    · rw [if_pos (by simp only [decide_eq_true_eq]; exact c), if_pos c]
      exact ih (i + 1) out k (by omega) (by omega) hk
    · rw [if_neg (by simp only [decide_eq_true_eq]; exact c), if_neg c, if_pos (by omega), ih (i + 1) _ k (by omega) (by simp; omega) hk]
      simp
theorem boarderref11_Last_s (t : List Le) (ht : t.length ≤ 400) (k : Nat) (hk : lastF t.length + t.length + 1 ≤ k) (hk2 : 2 * t.length + 1 < k) : ∃ r, boarderref11_Last.f k t = some r ∧ Asc r ∧ ∀ x, x ∈ r ↔ x ∈ uniqL t := by
  obtain ⟨k, rfl⟩ : ∃ q, k = q + t.length + 1 := ⟨k - t.length - 1, by omega⟩
  have e := boarderref11_Last_l0 t (by omega) t.length 0 [] k (by omega) (by simp; omega) (by omega)
  have hu := (uniqL_sub t).length_le
  obtain ⟨r, hr, ha, hx⟩ := boarderref11_Last_l1 (uniqL t).length (uniqL t) [] k rfl (by omega) (by simp; omega) (uniqL_diff t) (by have := lastF_mono hu; omega)
  rw [List.drop_zero, List.nil_append] at e
  rw [List.nil_append] at hr
  exact ⟨r, e.trans hr, ha, hx⟩

end Go.Proofs.Ytlabpabnddfllaa.PTable

namespace Go.Proofs.Ytlabpabnddfllaa.Pure
open Go.RowKit Go.Proofs.YtlabpabnddfllaaW.PrintWords Go.Proofs.YtlabpabnddfllaaW.PrintLast Go.Proofs.YtlabpabnddfllaaW.PrintMore Go.Proofs.Ytlabpabnddfllaa.PTable

theorem TableRows_j (l : List Le) (hg : greatB l = false) (t kept : List Le) (n : Nat) (hn : n ≤ 60) (hT : Tab t) (hkl : kept.length ≤ n) (hx : ∀ x, x ∈ t ↔ x ∈ uniqL kept) (i : Int) (k : Nat) (hk : 4000 ≤ k) : boarderlaw12_TableRows.j1 (k + 1) l t kept i false = some true := by
  have hf : lastF 60 = 1891 := by decide
  have hm := lastF_mono (show kept.length ≤ 60 by omega)
  have h64 := hT.1
  obtain ⟨r, hr, ha, hy⟩ := boarderref11_Last_s kept (by omega) k (by omega) (by omega)
  have e : t = r := asc_ext hT.2.2 ha (fun x => by rw [hx, hy])
  rw [boarderlaw12_TableRows.j1, if_neg (by simp), hr, ← e]
  simp only [Option.bind_some]
  rw [boarderref10_SameLeases_s t (by simp only [maxLen]; omega) k (by omega), table_Right_s t (tab_small hT) k (by omega), boarderlaw12_knows_s k (by omega), decide_eq_true hT]
  simp
theorem TableRows_l (l : List Le) (hg : greatB l = false) (d : Nat) : ∀ (i : Nat) (t kept : List Le) (k : Nat), i + d = l.length → i ≤ 60 → t.length ≤ i → kept.length ≤ i → Tab t → (∀ x, x ∈ t ↔ x ∈ uniqL kept) → 2 * d + 4000 ≤ k →
    boarderlaw12_TableRows.l0 (k + 2) l t kept i = some true := by
  have hb := greatB_not hg
  induction d with
  | zero =>
    intro i t kept k hi h60 ht hkl hT hx hk
    rw [show k + 2 = (k + 1) + 1 from rfl, boarderlaw12_TableRows.l0, if_neg (by omega)]
    exact TableRows_j l hg t kept i h60 hT hkl hx i k (by omega)
  | succ d ih =>
    intro i t kept k hi h60 ht hkl hT hx hk
    have hw : wrap64 ((i : Int) + 1) = ((i + 1 : Nat) : Int) := by unfold wrap64; omega
    rw [show k + 2 = (k + 1) + 1 from rfl, boarderlaw12_TableRows.l0, if_pos (by omega)]
    by_cases c : (i : Int) < 60
    · obtain ⟨q, rfl⟩ : ∃ q, k = q + 2 := ⟨k - 2, by omega⟩
      have h64 := hT.1
      have e1 := table_Set_s t (tab_small hT) (atL l i) (by have := hb.2 _ (atL_mem (t := l) (j := i) (by omega)); simp only [maxLen]; omega) (q + 2) (by omega)
      have hx2 : (⟨(atL l i).f0, (atL l i).f1, (atL l i).f2, (atL l i).f3⟩ : Le) = atL l i := rfl
      have ih2 := fun t' kept' a b c d => ih (i + 1) t' kept' q (by omega) (by omega) a b c d (by omega)
      rw [decide_eq_true c, boarderlaw12_TableRows.j1, if_pos rfl, if_pos (by omega), if_pos (by omega), show rd_T43 l (i : Int) = atL l i from rfl, e1, hx2, hw, boarderref09_Right_s]
      simp only [Option.bind_some]
      generalize atL l i = y at ih2 ⊢
      unfold setAns
      rw [goodL_of hT]
      by_cases f : leaseB y = true
      · have hlen : (setL t y).length ≤ t.length + 1 := by
          unfold setL
          have h1 : (t.filter (fun x => decide (x.f0 < y.f0))).length + (t.filter (fun x => decide (y.f0 < x.f0))).length ≤ t.length := by
            clear ih ih2 e1 hx hT ht h64
            induction t with
            | nil => simp
            | cons z t ih =>
              rw [List.filter_cons, List.filter_cons]
              by_cases p : z.f0 < y.f0
              · rw [if_pos (by simpa using p), if_neg (by simp; omega)]; simp only [List.length_cons]; omega
              · rw [if_neg (by simpa using p)]
                by_cases p2 : y.f0 < z.f0
                · rw [if_pos (by simpa using p2)]; simp only [List.length_cons]; omega
                · rw [if_neg (by simpa using p2)]; simp only [List.length_cons]; omega
          rw [List.length_append, List.length_cons]; omega
        rw [if_pos f, if_pos (show (setL t y).length ≤ 64 by omega)]
        show (if (0 : Int) = 0 then _ else _) = _
        rw [if_pos rfl, if_pos (by omega)]
        refine ih2 (setL t y) (kept ++ [y]) (by omega) (by simp; omega) ?_ ?_
        · refine ⟨by omega, fun x h => ?_, setL_asc hT.2.2 y⟩
          rcases setL_mem.1 h with h | ⟨h, _⟩
          · rw [h]; exact f
          · exact hT.2.1 x h
        · intro x
          rw [setL_mem, uniqL_snoc, hx]
      · rw [if_neg f]
        show (if (1 : Int) = 0 then _ else _) = _
        rw [if_neg (by decide), if_neg f]
        exact ih2 t kept (by omega) (by omega) hT hx
    · rw [decide_eq_false c]
      exact TableRows_j l hg t kept i h60 hT hkl hx i k (by omega)
theorem TableRows : boarderlaw12_TableRows.Pure := by
  intro l hl
  have hm : l.length ≤ maxLen := hl.1
  refine ⟨2 * l.length + 4000 + 2, ?_⟩
  unfold boarderlaw12_TableRows.f
  rw [boarderlaw12_Great_s l hm _ (by omega)]
  simp only [Option.bind_some]
  cases hg : greatB l with
  | true => rw [if_pos rfl, boarderlaw12_knows_s _ (by omega)]; rfl
  | false =>
    rw [if_neg (by simp)]
    exact TableRows_l l hg l.length 0 [] [] (2 * l.length + 4000) (by omega) (by omega) (by simp) (by simp) tab_nil (fun x => Iff.rfl) (by omega)

end Go.Proofs.Ytlabpabnddfllaa.Pure
