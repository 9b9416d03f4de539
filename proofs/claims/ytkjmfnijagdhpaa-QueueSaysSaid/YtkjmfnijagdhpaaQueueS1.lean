/- What the printed functions of this group come to, in plain words; each under its theorem's own conditions. -/
import Derived.Test.YtkjmfnijagdhpaaPQueuex4
import Derived.Test.YtkjmfnijagdhpaaAdr
import Derived.Test.YtkjmfnijagdhpaaQueueTab
import Derived.Test.YtkjmfnijagdhpaaQueueOrd
import Derived.Test.YtkjmfnijagdhpaaQueueS0
set_option linter.unusedVariables false
set_option linter.unusedSimpArgs false
namespace Go.Proofs.Ytkjmfnijagdhpaa.PQueue
open Go.RowKit Go.Proofs.YtkjmfnijagdhpaaW.PrintWords Go.Proofs.YtkjmfnijagdhpaaW.PrintLast Go.Proofs.YtkjmfnijagdhpaaW.PrintMore

/-! ### queue.Next -/
theorem queue_Next_s (t : List Le) (h : Small t) (now : Int) (k : Nat) (hk : 40000 ≤ k) : queue_Next.f k t now = some (nextA (laterL (goodL t) now)) := by
  have := h.1
  have e := queue_someG_s (fun x0 x1 x2 x3 => queue_counts.f x0 x1 x2 x3 now) (fun l => countsB l now) t h (fun x _ => queue_counts_s x now) k (by omega)
  unfold queue_Next.f
  rw [e]
  simp only [Option.bind_some]
  rw [queue_sorted_s _ (filt_len t _) k hk, later_eq (goodL_tab t)]
  simp only [Option.bind_some]
  generalize laterL (goodL t) now = s
  cases s with
  | nil => rfl
  | cons a r => rw [if_neg (by simp; omega)]; rfl

/-! ### queue.Ended -/
theorem queue_Ended_s (t : List Le) (h : Small t) (a b : Int) (k : Nat) (hk : 40000 ≤ k) : queue_Ended.f k t a b = some (endedL (goodL t) a b) := by
  have := h.1
  have e := queue_someG_s (fun x0 x1 x2 x3 => queue_Ended_1.f x0 x1 x2 x3 a b) (fun l => decide (a ≤ b) && (countsB l a && !countsB l b)) t h (fun x _ => by
    show queue_Ended_1.f x.f0 x.f1 x.f2 x.f3 a b = _
    unfold queue_Ended_1.f
    rw [queue_counts_s, queue_counts_s]
    simp only [Option.bind_some]
    by_cases c : a ≤ b
    · rw [if_pos c, decide_eq_true c]
      cases countsB x a <;> cases countsB x b <;> rfl
    · rw [if_neg c, decide_eq_false c]; rfl) k (by omega)
  unfold queue_Ended.f
  rw [e]
  simp only [Option.bind_some]
  rw [queue_sorted_s _ (filt_len t _) k hk, ended_eq (goodL_tab t)]
  rfl

/-! ### table.good -/
theorem table_good_s (t : List Le) (h : Small t) (k : Nat) (hk : t.length < k) : table_good.f k t = some (goodL t) := by
  unfold table_good.f goodL
  have := h.1
  rw [table_Right_s t h k hk]
  simp only [Option.bind_some]
  by_cases c : Tab t
  · rw [decide_eq_true c, if_pos rfl, if_pos c, if_pos (by simp; omega)]; simp
  · rw [decide_eq_false c, if_neg (by simp), if_neg c]
theorem goodL_small {t : List Le} (h : Small t) : Small (goodL t) := by
  unfold goodL
  by_cases c : Tab t
  · rw [if_pos c]; exact h
  · rw [if_neg c]; exact ⟨by simp, fun l hl => by simp at hl⟩

/-! ### table.place -/
/-- What a place is: all addresses below it are less; and the one at it is that, or all from it on are greater. -/
def PlaceOf (t : List Le) (a : Int) (p : Nat) (b : Bool) : Prop :=
  p ≤ t.length ∧ (∀ j, j < p → (atL t j).f0 < a) ∧ (b = true → p < t.length ∧ (atL t p).f0 = a) ∧ (b = false → ∀ j, p ≤ j → j < t.length → a < (atL t j).f0)
theorem table_place_l (t : List Le) (ht : t.length ≤ 500) (hs : Asc t) (a : Int) (d : Nat) : ∀ (lo hi : Nat) (k : Nat), hi ≤ lo + d → lo ≤ hi → hi ≤ t.length → d < k → (∀ j, j < lo → (atL t j).f0 < a) → (∀ j, hi ≤ j → j < t.length → a < (atL t j).f0) →
    ∃ (p : Nat) (b : Bool), table_place.l0 k t a lo hi = some ((p : Int), b) ∧ PlaceOf t a p b := by
  induction d using Nat.strongRecOn with
  | _ d ih =>
    intro lo hi k hd hle hhi hk h1 h2
    obtain ⟨k, rfl⟩ : ∃ m, k = m + 1 := ⟨k - 1, by omega⟩
    rw [table_place.l0]
    by_cases c : (lo : Int) < hi
    · have hm : wrap64 (Int.tdiv (wrap64 ((lo : Int) + hi)) 2) = (((lo + hi) / 2 : Nat) : Int) := by
        rw [show wrap64 ((lo : Int) + hi) = (lo : Int) + hi from by unfold wrap64; omega, Int.tdiv_eq_ediv_of_nonneg (by omega)]; unfold wrap64; omega
      rw [if_pos c, hm, if_pos (by omega), if_pos (by omega), show rd_T34 t (((lo + hi) / 2 : Nat) : Int) = atL t ((lo + hi) / 2) from rfl]
      clear hm
      generalize hmid : (lo + hi) / 2 = m
      have hm1 : lo ≤ m := by omega
      have hm2 : m < hi := by omega
      clear hmid
      by_cases e : (atL t m).f0 = a
      · rw [if_pos e]
        refine ⟨m, true, by rw [beq_iff_eq.2 e], by omega, fun j hj => by rw [← e]; exact asc_at hs hj (by omega), fun _ => ⟨by omega, e⟩, fun h => (by cases h)⟩
      · rw [if_neg e]
        by_cases l : (atL t m).f0 < a
        · rw [if_pos l, show wrap64 ((m : Int) + 1) = ((m + 1 : Nat) : Int) from by unfold wrap64; omega]
          refine ih (hi - (m + 1)) (by omega) (m + 1) hi k (by omega) (by omega) hhi (by omega) (fun j hj => ?_) h2
          rcases Nat.lt_or_ge j m with c | c
          · exact Int.lt_trans (asc_at hs c (by omega)) l
          · obtain rfl : j = m := by omega
            exact l
        · rw [if_neg l]
          refine ih (m - lo) (by omega) lo m k (by omega) (by omega) (by omega) (by omega) h1 (fun j a1 b1 => ?_)
          rcases Nat.eq_or_lt_of_le a1 with c | c
          · subst c; omega
          · have := asc_at hs c b1; omega
    · obtain rfl : lo = hi := by omega
      rw [if_neg c]
      by_cases n : (lo : Int) < (t.length : Int)
      · rw [if_pos n, if_pos (by omega), show rd_T34 t (lo : Int) = atL t lo from rfl]
        have := h2 lo (by omega) (by omega)
        refine ⟨lo, false, by rw [beq_eq_false_iff_ne.2 (by omega)], by omega, h1, fun h => (by cases h), fun _ => h2⟩
      · rw [if_neg n]
        exact ⟨lo, false, rfl, by omega, h1, fun h => (by cases h), fun _ => h2⟩
theorem table_place_s (t : List Le) (ht : t.length ≤ 500) (hs : Asc t) (a : Int) (k : Nat) (hk : t.length < k) : ∃ (p : Nat) (b : Bool), table_place.f k t a = some ((p : Int), b) ∧ PlaceOf t a p b := by
  unfold table_place.f
  exact table_place_l t ht hs a t.length 0 t.length k (by omega) (by omega) (by omega) hk (fun j h => by omega) (fun j h1 h2 => by omega)

/-! ### table.Get -/
theorem table_Get_s (t : List Le) (h : Small t) (a : Int) (k : Nat) (hk : t.length + 1 < k) : table_Get.f k t a = some (ans (getL (goodL t) a)) := by
  unfold table_Get.f
  have hg := goodL_tab t
  have hgl : (goodL t).length ≤ t.length := by unfold goodL; split <;> simp
  rw [table_good_s t h k (by omega)]
  simp only [Option.bind_some]
  generalize goodL t = g at *
  have hg64 := hg.1
  obtain ⟨p, b, hp, hp1, hp2, hp3, hp4⟩ := table_place_s g (by omega) hg.2.2 a k (by omega)
  rw [hp]
  simp only [Option.bind_some]
  cases b with
  | true =>
    obtain ⟨q1, q2⟩ := hp3 rfl
    rw [if_pos rfl, if_pos (by omega), if_pos (by omega), ← q2, getL_some hg.2.2 (atL_mem q1)]
    rfl
  | false =>
    rw [if_neg (by simp), getL_none]
    · rfl
    · intro l hl
      obtain ⟨j, hj, rfl⟩ := mem_atL hl
      rcases Nat.lt_or_ge j p with c | c
      · have := hp2 j c; omega
      · have := hp4 rfl j c hj; omega

/-! ### queue.Until -/
theorem queue_Until_s (t : List Le) (h : Small t) (a now : Int) (k : Nat) (hk : 40000 ≤ k) : queue_Until.f k t a now = some (untilL (goodL t) a now) := by
  have := h.1
  unfold queue_Until.f untilL
  rw [table_Get_s t h a k (by omega)]
  simp only [Option.bind_some]
  cases hq : getL (goodL t) a with
  | none => rfl
  | some l =>
    show (if true = true then ((queue_counts.f l.f0 l.f1 l.f2 l.f3 now).bind fun b => (if b = true then some (wrap64 (l.f2 - now)) else some 0)) else some 0) = some (if countsB l now = true then wrap64 (l.f2 - now) else 0)
    rw [if_pos rfl, queue_counts_s]
    simp only [Option.bind_some]
    cases countsB l now <;> rfl

/-! ### boarderlaw25.knows -/
/-- The table of the document's examples. -/
def kT : List Le := [⟨1, 1, 10, (⟨#[105, 48, 49]⟩ : ByteArray)⟩, ⟨2, 3, 5, (⟨#[105, 48, 50]⟩ : ByteArray)⟩, ⟨3, 2, 3, (⟨#[105, 48, 51]⟩ : ByteArray)⟩]
theorem kT_tab : Tab kT := by
  refine ⟨by decide, fun l h => ?_, ?_⟩
  · have e : ∀ l ∈ kT, leaseB l = true := by decide +kernel
    exact e l h
  · unfold kT Asc
    decide
theorem boarderlaw25_knows_s (k : Nat) (hk : 40000 ≤ k) : boarderlaw25_knows.f k = some true := by
  have hs := tab_small kT_tab
  have e1 := queue_ByEnd_s kT hs k hk
  have e2 := queue_Next_s kT hs 4 k hk
  have e3 := queue_Ended_s kT hs 4 10 k hk
  have e4 := queue_Until_s kT hs 1 4 k hk
  have e5 := queue_Until_s kT hs 3 1 k hk
  rw [goodL_of kT_tab] at e1 e2 e3 e4 e5
  have f1 : endsL kT = [⟨2, 3, 5, (⟨#[105, 48, 50]⟩ : ByteArray)⟩, ⟨1, 1, 10, (⟨#[105, 48, 49]⟩ : ByteArray)⟩] := rfl
  have f2 : nextA (laterL kT 4) = (5, true) := rfl
  have f3 : (endedL kT 4 10).length = 2 := rfl
  have f4 : untilL kT 1 4 = 6 := by decide +kernel
  have f5 : untilL kT 3 1 = 0 := by decide +kernel
  rw [f1] at e1
  rw [f2] at e2
  rw [f4] at e4
  rw [f5] at e5
  unfold boarderlaw25_knows.f
  simp only [Option.bind_some]
  rw [show ([(⟨1, 1, 10, (⟨#[105, 48, 49]⟩ : ByteArray)⟩ : Le), (⟨2, 3, 5, (⟨#[105, 48, 50]⟩ : ByteArray)⟩ : Le), (⟨3, 2, 3, (⟨#[105, 48, 51]⟩ : ByteArray)⟩ : Le)] : List Le) = kT from rfl, e1, e2, e3, e4, e5]
  simp only [Option.bind_some]
  have t1 : (⟨#[105, 48, 50]⟩ : ByteArray).toList = [105, 48, 50] := ByteArray.toList_mk _
  have t2 : (⟨#[105, 48, 49]⟩ : ByteArray).toList = [105, 48, 49] := ByteArray.toList_mk _
  rw [f3]
  show (if (2 : Int) = 2 then (if (0 : Int) < 2 then (if ((2 : Int) == 2 && ((3 : Int) == 3 && ((5 : Int) == 5 && ((⟨#[105, 48, 50]⟩ : ByteArray).toList == [105, 48, 50])))) = true then (if (1 : Int) < 2 then (if ((1 : Int) == 1 && ((1 : Int) == 1 && ((10 : Int) == 10 && ((⟨#[105, 48, 49]⟩ : ByteArray).toList == [105, 48, 49])))) = true then _ else _) else _) else _) else _) else _) = some true
  rw [t1, t2]
  rfl

end Go.Proofs.Ytkjmfnijagdhpaa.PQueue
