/- The law LeaseRows holds of the printed functions; no condition beyond the law's own. -/
import Derived.Test.YtdajdpgnhjlbaaaDoorLeaseRLeaseRows
import Derived.Test.YtdajdpgnhjlbaaaDoorPLeasex11
import Derived.Test.YtdajdpgnhjlbaaaDoorPLeasex6
import Derived.Test.YtdajdpgnhjlbaaaDoorPLeasex8
import Derived.Test.YtdajdpgnhjlbaaaDoorLeaseTab
import Derived.Test.YtdajdpgnhjlbaaaDoorLeaseHex
import Derived.Test.YtdajdpgnhjlbaaaDoorLeaseLin
import Derived.Test.YtdajdpgnhjlbaaaDoorLeaseS1
set_option linter.unusedVariables false
set_option linter.unusedSimpArgs false
namespace Go.Proofs.YtdajdpgnhjlbaaaDoor.PLease
open Go.RowKit Go.Proofs.YtdajdpgnhjlbaaaDoorW.PrintWords Go.Proofs.YtdajdpgnhjlbaaaDoorW.PrintLast Go.Proofs.YtdajdpgnhjlbaaaDoorW.PrintMore

/-! ### boarderref01.Right -/
theorem boarderref01_Right_s (a : Int) : boarderref01_Right.f a = some (decide (0 ≤ a ∧ a ≤ 4294967295)) := by
  unfold boarderref01_Right.f
  by_cases h : a ≥ 0
  · rw [if_pos h]; congr 1; exact decide_eq_decide.2 ⟨fun h2 => ⟨h, by omega⟩, fun h2 => by omega⟩
  · rw [if_neg h, decide_eq_false (by omega)]

/-! ### boarderref07.Right -/
theorem boarderref07_Right_s (s : ByteArray) : boarderref07_Right.f s = some (keyB s) := by
  unfold boarderref07_Right.f keyB
  by_cases h0 : (s.size : Int) < 3
  · rw [if_pos h0, decide_eq_false (show ¬ 3 ≤ s.size by omega)]; rfl
  · rw [if_neg h0, if_pos (by omega), decide_eq_true (show 3 ≤ s.size by omega), Bool.true_and]
    by_cases h1 : bt s 0 = 105
    · rw [if_pos h1]
      by_cases h2 : (s.size : Int) ≤ 256
      · rw [if_pos h2, decide_eq_true (show bt s 0 = 105 ∧ s.size ≤ 256 from ⟨h1, by omega⟩)]; rfl
      · rw [if_neg h2, if_neg (by omega), decide_eq_false (by omega), decide_eq_false (by omega)]; rfl
    · rw [if_neg h1, decide_eq_false (show ¬ (bt s 0 = 105 ∧ s.size ≤ 256) from fun h => h1 h.1), Bool.false_or]
      by_cases h3 : bt s 0 = 104
      · rw [if_pos h3]
        congr 1
        exact decide_eq_decide.2 ⟨fun h => ⟨h3, by omega⟩, fun h => by omega⟩
      · rw [if_neg h3, decide_eq_false (fun h => h3 h.1)]

/-! ### boarderref09.Right -/
theorem boarderref09_Right_s (l : Le) : boarderref09_Right.f l.f0 l.f1 l.f2 l.f3 = some (leaseB l) := by
  unfold boarderref09_Right.f leaseB
  rw [boarderref01_Right_s, boarderref07_Right_s]
  simp only [Option.bind_some]
  by_cases h0 : 0 ≤ l.f0 ∧ l.f0 ≤ 4294967295
  · rw [decide_eq_true h0, if_pos rfl]
    cases hk : keyB l.f3 with
    | false => rw [if_neg (by simp), Bool.and_false]
    | true =>
      rw [if_pos rfl, Bool.and_true]
      have fin : (if l.f2 ≥ 0 then (some (decide (l.f2 ≤ 1125899906842624))) else (some false)) = some (decide (0 ≤ l.f2 ∧ l.f2 ≤ 1125899906842624)) := by
        by_cases h3 : l.f2 ≥ 0
        · rw [if_pos h3]; congr 1; exact decide_eq_decide.2 ⟨fun h => ⟨h3, h⟩, fun h => h.2⟩
        · rw [if_neg h3, decide_eq_false (fun h => h3 h.1)]
      rw [fin]
      by_cases c1 : l.f1 = 1
      · rw [if_pos c1]; congr 1; exact decide_eq_decide.2 ⟨fun h => ⟨h0.1, h0.2, by omega, by omega, h.1, h.2⟩, fun h => ⟨h.2.2.2.2.1, h.2.2.2.2.2⟩⟩
      · rw [if_neg c1]
        by_cases c2 : l.f1 = 2
        · rw [if_pos c2]; congr 1; exact decide_eq_decide.2 ⟨fun h => ⟨h0.1, h0.2, by omega, by omega, h.1, h.2⟩, fun h => ⟨h.2.2.2.2.1, h.2.2.2.2.2⟩⟩
        · rw [if_neg c2]
          by_cases c3 : l.f1 = 3
          · rw [if_pos c3]; congr 1; exact decide_eq_decide.2 ⟨fun h => ⟨h0.1, h0.2, by omega, by omega, h.1, h.2⟩, fun h => ⟨h.2.2.2.2.1, h.2.2.2.2.2⟩⟩
          · rw [if_neg c3, decide_eq_false (by omega)]
  · rw [decide_eq_false h0, if_neg (by simp), decide_eq_false (fun h => h0 ⟨h.1, h.2.1⟩)]; rfl

/-! ### boarderref12.Right -/
open Classical in
theorem boarderref12_Right_l (t : List Le) (ht : t.length ≤ maxLen) (d : Nat) : ∀ (i : Nat) (k : Nat), i + d = t.length → d < k →
    boarderref12_Right.l0 k t i = some (decide (∀ j, i ≤ j → j < t.length → leaseB (atL t j) = true ∧ (j + 1 < t.length → (atL t j).f0 < (atL t (j + 1)).f0))) := by
  simp only [maxLen] at ht
  induction d with
  | zero =>
    intro i k hi hk
    obtain ⟨k, rfl⟩ : ∃ m, k = m + 1 := ⟨k - 1, by omega⟩
    rw [boarderref12_Right.l0, if_neg (by omega), decide_eq_true (fun j a b => by omega)]
  | succ d ih =>
    intro i k hi hkk
    obtain ⟨k, rfl⟩ : ∃ m, k = m + 1 := ⟨k - 1, by omega⟩
    have hw : wrap64 ((i : Int) + 1) = ((i + 1 : Nat) : Int) := by unfold wrap64; omega
    have ihh := ih (i + 1) k (by omega) (by omega)
    rw [boarderref12_Right.l0, if_pos (by omega), if_pos (by omega), show rd_T23 t (i : Int) = atL t i from rfl, boarderref09_Right_s, hw]
    simp only [Option.bind_some]
    by_cases h : leaseB (atL t i) = true
    · rw [if_pos h]
      by_cases h0 : ((i + 1 : Nat) : Int) < (t.length : Int)
      · rw [if_pos h0, if_pos (by omega), show rd_T23 t ((i + 1 : Nat) : Int) = atL t (i + 1) from rfl]
        by_cases h1 : (atL t (i + 1)).f0 ≤ (atL t i).f0
        · rw [if_pos h1, decide_eq_false]
          intro h2
          have := (h2 i (by omega) (by omega)).2 (by omega)
          omega
        · rw [if_neg h1, ihh]
          congr 1
          refine decide_eq_decide.2 ⟨fun h2 j a b => ?_, fun h2 j a b => h2 j (by omega) b⟩
          rcases Nat.eq_or_lt_of_le a with c | c
          · subst c; exact ⟨h, fun _ => by omega⟩
          · exact h2 j (by omega) b
      · rw [if_neg h0, ihh]
        congr 1
        refine decide_eq_decide.2 ⟨fun h2 j a b => ?_, fun h2 j a b => h2 j (by omega) b⟩
        rcases Nat.eq_or_lt_of_le a with c | c
        · subst c; exact ⟨h, fun _ => by omega⟩
        · exact h2 j (by omega) b
    · rw [if_neg h, decide_eq_false]
      intro h2
      exact h (h2 i (by omega) (by omega)).1
theorem boarderref12_Right_s (t : List Le) (ht : t.length ≤ maxLen) (k : Nat) (hk : t.length < k) : boarderref12_Right.f k t = some (decide (Tab t)) := by
  unfold boarderref12_Right.f
  by_cases c : (t.length : Int) > 64
  · rw [if_pos c, decide_eq_false (fun h => by have := h.1; omega)]
  · have e := boarderref12_Right_l t ht t.length 0 k (by omega) hk
    rw [if_neg c, show boarderref12_Right.l0 k t 0 = boarderref12_Right.l0 k t ((0 : Nat) : Int) from rfl, e]
    congr 1
    refine decide_eq_decide.2 ?_
    rw [tab_iff2]
    exact ⟨fun h => ⟨by omega, fun j b => h j (by omega) b⟩, fun h j _ b => h.2 j b⟩

/-! ### boarderref10.SameLeases -/
theorem boarderref10_SameLeases_l (t : List Le) (ht : t.length ≤ maxLen) (d : Nat) : ∀ (i : Nat) (k : Nat), i + d = t.length → d < k → boarderref10_SameLeases.l0 k t t i = some true := by
  simp only [maxLen] at ht
  induction d with
  | zero =>
    intro i k hi hk
    obtain ⟨k, rfl⟩ : ∃ m, k = m + 1 := ⟨k - 1, by omega⟩
    rw [boarderref10_SameLeases.l0, if_neg (by omega)]
  | succ d ih =>
    intro i k hi hkk
    obtain ⟨k, rfl⟩ : ∃ m, k = m + 1 := ⟨k - 1, by omega⟩
    have hw : wrap64 ((i : Int) + 1) = ((i + 1 : Nat) : Int) := by unfold wrap64; omega
    rw [boarderref10_SameLeases.l0, if_pos (by omega), if_pos (by omega), if_pos (by omega), if_neg (by simp), hw]
    exact ih (i + 1) k (by omega) (by omega)
theorem boarderref10_SameLeases_s (t : List Le) (ht : t.length ≤ maxLen) (k : Nat) (hk : t.length < k) : boarderref10_SameLeases.f k t t = some true := by
  unfold boarderref10_SameLeases.f
  rw [if_pos rfl]
  exact boarderref10_SameLeases_l t ht t.length 0 k (by omega) hk

/-! ### boarderlaw12.Great -/
/-- Is a table more than is looked at? -/
def greatB (t : List Le) : Bool := decide (∃ l ∈ t, 1000 < l.f3.size) || decide (200 < t.length)
open Classical in
theorem boarderlaw12_Great_l (t : List Le) (ht : t.length ≤ maxLen) (d : Nat) : ∀ (i : Nat) (k : Nat), i + d = t.length → d < k →
    boarderlaw12_Great.l0 k t i = some (decide (∃ j, i ≤ j ∧ j < t.length ∧ 1000 < (atL t j).f3.size) || decide (200 < t.length)) := by
  simp only [maxLen] at ht
  induction d with
  | zero =>
    intro i k hi hk
    obtain ⟨k, rfl⟩ : ∃ m, k = m + 1 := ⟨k - 1, by omega⟩
    rw [boarderlaw12_Great.l0, if_neg (by omega), decide_eq_false (p := ∃ j, i ≤ j ∧ j < t.length ∧ 1000 < (atL t j).f3.size) (by rintro ⟨j, h1, h2, _⟩; omega), Bool.false_or]
    congr 1; exact decide_eq_decide.2 ⟨fun h => by omega, fun h => by omega⟩
  | succ d ih =>
    intro i k hi hk
    obtain ⟨k, rfl⟩ : ∃ m, k = m + 1 := ⟨k - 1, by omega⟩
    rw [boarderlaw12_Great.l0, if_pos (by omega), if_pos (by omega), show rd_T23 t (i : Int) = atL t i from rfl]
    by_cases h : ((atL t i).f3.size : Int) > 1000
    · rw [if_pos h, decide_eq_true (p := ∃ j, i ≤ j ∧ j < t.length ∧ 1000 < (atL t j).f3.size) ⟨i, by omega, by omega, by omega⟩, Bool.true_or]
    · rw [if_neg h, show wrap64 ((i : Int) + 1) = ((i + 1 : Nat) : Int) from by unfold wrap64; omega, ih (i + 1) k (by omega) (by omega)]
      congr 2
      refine decide_eq_decide.2 ⟨?_, ?_⟩
      · rintro ⟨j, h1, h2, h3⟩; exact ⟨j, by omega, h2, h3⟩
      · rintro ⟨j, h1, h2, h3⟩
        rcases Nat.eq_or_lt_of_le h1 with c | c
        · subst c; omega
        · exact ⟨j, by omega, h2, h3⟩
theorem boarderlaw12_Great_s (t : List Le) (ht : t.length ≤ maxLen) (k : Nat) (hk : t.length < k) : boarderlaw12_Great.f k t = some (greatB t) := by
  have e := boarderlaw12_Great_l t ht t.length 0 k (by omega) hk
  unfold boarderlaw12_Great.f greatB
  rw [show boarderlaw12_Great.l0 k t 0 = boarderlaw12_Great.l0 k t ((0 : Nat) : Int) from rfl, e]
  congr 2
  refine decide_eq_decide.2 ⟨?_, ?_⟩
  · rintro ⟨j, _, h2, h3⟩; exact ⟨_, atL_mem h2, h3⟩
  · rintro ⟨l, hl, h⟩
    obtain ⟨j, hj, rfl⟩ := mem_atL hl
    exact ⟨j, by omega, hj, h⟩
/-- What isn't: at most 200 leases, of keys of at most 1000 bytes. -/
theorem greatB_not {t : List Le} (h : greatB t = false) : t.length ≤ 200 ∧ ∀ l ∈ t, l.f3.size ≤ 1000 := by
  unfold greatB at h
  rw [Bool.or_eq_false_iff, decide_eq_false_iff_not, decide_eq_false_iff_not] at h
  exact ⟨by omega, fun l hl => by
    rcases Nat.lt_or_ge 1000 l.f3.size with c | c
    · exact absurd ⟨l, hl, c⟩ h.1
    · exact c⟩
theorem small_of {t : List Le} (h : greatB t = false) : Small t := by
  obtain ⟨h1, h2⟩ := greatB_not h
  exact ⟨by omega, fun l hl => by have := h2 l hl; simp only [maxLen]; omega⟩
theorem goodL_len (t : List Le) : (goodL t).length ≤ t.length := by unfold goodL; split <;> simp

end Go.Proofs.YtdajdpgnhjlbaaaDoor.PLease

namespace Go.Proofs.YtdajdpgnhjlbaaaDoor.Pure
open Go.RowKit Go.Proofs.YtdajdpgnhjlbaaaDoorW.PrintWords Go.Proofs.YtdajdpgnhjlbaaaDoorW.PrintLast Go.Proofs.YtdajdpgnhjlbaaaDoorW.PrintMore Go.Proofs.YtdajdpgnhjlbaaaDoor.PLease

theorem LeaseRows : boarderlaw24_LeaseRows.Pure := by
  intro a b ha hb
  refine Ev.rounds ?_
  have hk : Ev (fun k => (boarderlaw24_knows.f k).bind fun t => some t) true := Ev.bind boarderlaw24_knows_s Ev.some'
  have h0 : ∀ c : Bool, (c = false → Tab a ∧ Tab b) → Ev (fun k => boarderlaw24_LeaseRows.j0 k a b c) true := fun c hc => by
    refine Ev.step (fun k => by show boarderlaw24_LeaseRows.j0 (k + 1) _ _ _ = _; rw [boarderlaw24_LeaseRows.j0]) ?_
    cases c with
    | true => exact Ev.pos rfl hk
    | false =>
      obtain ⟨hA, hB⟩ := hc rfl
      have a64 := hA.1
      have b64 := hB.1
      have na := printL_len a hA.2.1
      have nb := printL_len b hB.2.1
      have hall : ∀ l ∈ a ++ b, leaseB l = true := fun l hl => (List.mem_append.1 hl).elim (hA.2.1 l) (hB.2.1 l)
      have hPa := ltext_Print_s a (tab_small hA)
      have hPb := ltext_Print_s b (tab_small hB)
      rw [if_pos hA] at hPa
      rw [if_pos hB] at hPb
      have hlen : (a ++ b).length ≤ 128 := by rw [List.length_append]; omega
      have hmx : (a ++ b).length ≤ maxLen := by simp only [maxLen]; omega
      have hP := ltext_Parse_s (strOfNums (printL a) ++ strOfNums (printL b)) (by rw [← Com.strOfNums_append, str_size, List.length_append]; omega)
      rw [← Com.strOfNums_append, ← printL_app, bytes_str _ (printL_by _ hall), split_print _ hall] at hP
      have hR : Ev (fun k => boarderref12_Right.f k (a ++ b)) (decide (Tab (a ++ b))) := ⟨(a ++ b).length + 1, fun k hk => boarderref12_Right_s (a ++ b) hmx k (by omega)⟩
      refine Ev.neg (by decide) ?_
      simp only [Option.bind_some, List.nil_append, List.length_nil]
      refine Ev.pos (by omega) (Ev.pos (by omega) (Ev.bind hPa (Ev.bind hPb (Ev.pos (by simp only [str_size]; omega) ?_))))
      simp only
      rw [← Com.strOfNums_append, ← printL_app]
      refine Ev.bind hP (Ev.pos (by first | trivial | rfl) (Ev.step (fun k => by show boarderlaw24_LeaseRows.j1 (k + 1) _ _ _ _ _ = _; rw [boarderlaw24_LeaseRows.j1]) (Ev.neg (by decide) (Ev.bind hR ?_))))
      by_cases hT : Tab (a ++ b)
      · rw [parL_print _ [] 0 (by rw [List.nil_append]; exact hT), List.nil_append]
        exact Ev.pos (decide_eq_true hT) (Ev.bind (a := true) ⟨(a ++ b).length + 1, fun k hk => boarderref10_SameLeases_s (a ++ b) hmx k (by omega)⟩ (Ev.pos (by rfl) (Ev.pos (by rfl) hk)))
      · obtain ⟨m, e⟩ := parL_bad (a ++ b) [] 0 hall tab_nil (by rw [List.nil_append]; exact hT)
        rw [e]
        exact Ev.neg (by simpa using hT) (Ev.pos (by first | trivial | rfl) (Ev.pos (by simp only; omega) (Ev.pos (by first | trivial | rfl) hk)))
  unfold boarderlaw24_LeaseRows.f
  refine Ev.bind (a := greatB a) ⟨a.length + 1, fun k hk => boarderlaw12_Great_s a ha.1 k (by omega)⟩ ?_
  by_cases g : greatB a = true
  · exact Ev.pos g (h0 true (fun e => by cases e))
  refine Ev.neg g (Ev.bind (a := greatB b) ⟨b.length + 1, fun k hk => boarderlaw12_Great_s b hb.1 k (by omega)⟩ ?_)
  by_cases g2 : greatB b = true
  · exact Ev.pos g2 (h0 true (fun e => by cases e))
  refine Ev.neg g2 (Ev.bind (a := decide (Tab a)) ⟨a.length + 1, fun k hk => boarderref12_Right_s a ha.1 k (by omega)⟩ ?_)
  by_cases hT : Tab a
  · refine Ev.pos (decide_eq_true hT) (Ev.bind (a := decide (Tab b)) ⟨b.length + 1, fun k hk => boarderref12_Right_s b hb.1 k (by omega)⟩ (h0 _ (fun e => ⟨hT, ?_⟩)))
    simpa using e
  · exact Ev.neg (by simpa using hT) (h0 true (fun e => by cases e))

end Go.Proofs.YtdajdpgnhjlbaaaDoor.Pure
