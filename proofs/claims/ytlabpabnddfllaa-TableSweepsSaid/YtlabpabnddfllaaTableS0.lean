/- What the printed functions of this group come to, in plain words; each under its theorem's own conditions. -/
import Derived.Test.YtlabpabnddfllaaPTablex2
import Derived.Test.YtlabpabnddfllaaPTablex3
import Derived.Test.YtlabpabnddfllaaAdr
import Derived.Test.YtlabpabnddfllaaTableTab
set_option linter.unusedVariables false
set_option linter.unusedSimpArgs false
namespace Go.Proofs.Ytlabpabnddfllaa.PTable
open Go.RowKit Go.Proofs.YtlabpabnddfllaaW.PrintWords Go.Proofs.YtlabpabnddfllaaW.PrintLast Go.Proofs.YtlabpabnddfllaaW.PrintMore

/-! ### boarderlaw12.Great -/
/-- Is a table more than is looked at? -/
def greatB (t : List Le) : Bool := decide (∃ l ∈ t, 1000 < l.f3.size) || decide (200 < t.length)
open Classical in
theorem boarderlaw12_Great_l (t : List Le) (ht : t.length ≤ maxLen) (d : Nat) : ∀ (i : Nat) (k : Nat), i + d = t.length → d < k →
    boarderlaw12_Great.l0 k t i = some (decide (∃ j, i ≤ j ∧ j < t.length ∧ 1000 < (atL t j).f3.size) || decide (200 < t.length)) := by
  simp only [maxLen] at ht
  induction d with
  | zero =>
    intro i k hi hk
    obtain ⟨k, rfl⟩ : ∃ m, k = m + 1 := ⟨k - 1, by omega⟩
    rw [boarderlaw12_Great.l0, if_neg (by omega), decide_eq_false (p := ∃ j, i ≤ j ∧ j < t.length ∧ 1000 < (atL t j).f3.size) (by rintro ⟨j, h1, h2, _⟩; omega), Bool.false_or]
    congr 1; exact decide_eq_decide.2 ⟨fun h => by omega, fun h => by omega⟩
  | succ d ih =>
    intro i k hi hk
    obtain ⟨k, rfl⟩ : ∃ m, k = m + 1 := ⟨k - 1, by omega⟩
    rw [boarderlaw12_Great.l0, if_pos (by omega), if_pos (by omega), show rd_T43 t (i : Int) = atL t i from rfl]
    by_cases h : ((atL t i).f3.size : Int) > 1000
    · rw [if_pos h, decide_eq_true (p := ∃ j, i ≤ j ∧ j < t.length ∧ 1000 < (atL t j).f3.size) ⟨i, by omega, by omega, by omega⟩, Bool.true_or]
    · rw [if_neg h, show wrap64 ((i : Int) + 1) = ((i + 1 : Nat) : Int) from by unfold wrap64; omega, ih (i + 1) k (by omega) (by omega)]
      congr 2
      refine decide_eq_decide.2 ⟨?_, ?_⟩
      · rintro ⟨j, h1, h2, h3⟩; exact ⟨j, by omega, h2, h3⟩
      · rintro ⟨j, h1, h2, h3⟩
        rcases Nat.eq_or_lt_of_le h1 with c | c
        · subst c; omega
        · exact ⟨j, by omega, h2, h3⟩
theorem boarderlaw12_Great_s (t : List Le) (ht : t.length ≤ maxLen) (k : Nat) (hk : t.length < k) : boarderlaw12_Great.f k t = some (greatB t) := by
  have e := boarderlaw12_Great_l t ht t.length 0 k (by omega) hk
  unfold boarderlaw12_Great.f greatB
  rw [show boarderlaw12_Great.l0 k t 0 = boarderlaw12_Great.l0 k t ((0 : Nat) : Int) from rfl, e]
  congr 2
  refine decide_eq_decide.2 ⟨?_, ?_⟩
  · rintro ⟨j, _, h2, h3⟩; exact ⟨_, atL_mem h2, h3⟩
  · rintro ⟨l, hl, h⟩
    obtain ⟨j, hj, rfl⟩ := mem_atL hl
    exact ⟨j, by omega, hj, h⟩
/-- What isn't: at most 200 leases, of keys of at most 1000 bytes. -/
theorem greatB_not {t : List Le} (h : greatB t = false) : t.length ≤ 200 ∧ ∀ l ∈ t, l.f3.size ≤ 1000 := by
  unfold greatB at h
  rw [Bool.or_eq_false_iff, decide_eq_false_iff_not, decide_eq_false_iff_not] at h
  exact ⟨by omega, fun l hl => by
    rcases Nat.lt_or_ge 1000 l.f3.size with c | c
    · exact absurd ⟨l, hl, c⟩ h.1
    · exact c⟩
/-- Few leases, of short keys. -/
def Small (t : List Le) : Prop := t.length ≤ 500 ∧ ∀ l ∈ t, l.f3.size ≤ maxLen
theorem small_of {t : List Le} (h : greatB t = false) : Small t := by
  obtain ⟨h1, h2⟩ := greatB_not h
  exact ⟨by omega, fun l hl => by have := h2 l hl; simp only [maxLen]; omega⟩

/-! ### addr.Right -/
theorem addr_Right_s (a : Int) : addr_Right.f a = some (decide (0 ≤ a ∧ a ≤ 4294967295)) := by
  unfold addr_Right.f
  by_cases h : a ≥ 0
  · rw [if_pos h]; congr 1; exact decide_eq_decide.2 ⟨fun h2 => ⟨h, h2⟩, fun h2 => h2.2⟩
  · rw [if_neg h, decide_eq_false (by omega)]

/-! ### key.Right -/
theorem key_Right_s (s : ByteArray) (hs : s.size ≤ maxLen) : key_Right.f s = some (keyB s) := by
  unfold key_Right.f keyB
  simp only [maxLen] at hs
  have hw : wrap64 ((s.size : Int) - 1) = (s.size : Int) - 1 := by unfold wrap64; omega
  rw [hw]
  clear hw
  by_cases h0 : (s.size : Int) = 0
  · rw [if_pos h0, decide_eq_false (show ¬ 3 ≤ s.size by omega)]; rfl
  · rw [if_neg h0, if_pos (by omega)]
    by_cases h1 : bt s 0 = 105
    · rw [if_pos h1]
      by_cases h2 : (s.size : Int) - 1 ≥ 2
      · rw [if_pos h2, decide_eq_true (show 3 ≤ s.size by omega), Bool.true_and]
        congr 1
        rw [Bool.eq_iff_iff, decide_eq_true_iff, Bool.or_eq_true, decide_eq_true_iff, decide_eq_true_iff]
        constructor
        · intro h; exact .inl ⟨h1, by omega⟩
        · rintro (⟨_, h⟩ | ⟨h, _⟩) <;> omega
      · rw [if_neg h2, decide_eq_false (show ¬ 3 ≤ s.size by omega)]; rfl
    · rw [if_neg h1]
      by_cases h3 : bt s 0 = 104
      · rw [if_pos h3]
        by_cases h2 : (s.size : Int) - 1 ≥ 2
        · rw [if_pos h2, decide_eq_true (show 3 ≤ s.size by omega), Bool.true_and]
          congr 1
          rw [Bool.eq_iff_iff, decide_eq_true_iff, Bool.or_eq_true, decide_eq_true_iff, decide_eq_true_iff]
          constructor
          · intro h; exact .inr ⟨h3, by omega⟩
          · rintro (⟨h, _⟩ | ⟨_, h⟩) <;> omega
        · rw [if_neg h2, decide_eq_false (show ¬ 3 ≤ s.size by omega)]; rfl
      · rw [if_neg h3, decide_eq_false (show ¬ (bt s 0 = 105 ∧ s.size ≤ 256) from fun h => h1 h.1), decide_eq_false (show ¬ (bt s 0 = 104 ∧ s.size ≤ 18) from fun h => h3 h.1), Bool.or_false, Bool.and_false]

/-! ### record.Right -/
theorem record_Right_s (l : Le) (hs : l.f3.size ≤ maxLen) : record_Right.f l.f0 l.f1 l.f2 l.f3 = some (leaseB l) := by
  unfold record_Right.f leaseB
  rw [addr_Right_s, key_Right_s l.f3 hs]
  simp only [Option.bind_some]
  by_cases h0 : 0 ≤ l.f0 ∧ l.f0 ≤ 4294967295
  · rw [decide_eq_true h0, if_pos rfl]
    by_cases h1 : l.f1 ≥ 1
    · rw [if_pos h1]
      by_cases h2 : l.f1 ≤ 3
      · rw [if_pos h2]
        by_cases h3 : l.f2 ≥ 0
        · rw [if_pos h3]
          by_cases h4 : l.f2 ≤ 1125899906842624
          · rw [if_pos h4, decide_eq_true ⟨h0.1, h0.2, h1, h2, h3, h4⟩, Bool.true_and]
          · rw [if_neg h4, decide_eq_false (fun h => h4 h.2.2.2.2.2)]; rfl
        · rw [if_neg h3, decide_eq_false (fun h => h3 h.2.2.2.2.1)]; rfl
      · rw [if_neg h2, decide_eq_false (fun h => h2 h.2.2.2.1)]; rfl
    · rw [if_neg h1, decide_eq_false (fun h => h1 h.2.2.1)]; rfl
  · rw [decide_eq_false h0, if_neg (by simp), decide_eq_false (fun h => h0 ⟨h.1, h.2.1⟩)]; rfl

/-! ### table.Right -/
open Classical in
theorem table_Right_l (t : List Le) (ht : t.length ≤ 500) (hk : ∀ l ∈ t, l.f3.size ≤ maxLen) (d : Nat) : ∀ (i : Nat) (k : Nat), i + d = t.length → d < k →
    table_Right.l0 k t t (t.length : Int) i = some (decide (t.length ≤ 64 ∧ ∀ j, i ≤ j → j < t.length → leaseB (atL t j) = true ∧ (0 < j → (atL t (j - 1)).f0 < (atL t j).f0))) := by
  induction d with
  | zero =>
    intro i k hi hk
    obtain ⟨k, rfl⟩ : ∃ m, k = m + 1 := ⟨k - 1, by omega⟩
    rw [table_Right.l0, if_neg (by omega)]
    congr 1; exact decide_eq_decide.2 ⟨fun h => ⟨by omega, fun j a b => by omega⟩, fun h => by omega⟩
  | succ d ih =>
    intro i k hi hkk
    obtain ⟨k, rfl⟩ : ∃ m, k = m + 1 := ⟨k - 1, by omega⟩
    have hw : wrap64 ((i : Int) + 1) = ((i + 1 : Nat) : Int) := by unfold wrap64; omega
    have ihh := ih (i + 1) k (by omega) (by omega)
    rw [table_Right.l0, if_pos (by omega), if_pos (by omega), if_pos (by omega), show rd_T43 t (i : Int) = atL t i from rfl, record_Right_s _ (hk _ (atL_mem (by omega)))]
    simp only [Option.bind_some]
    by_cases h : leaseB (atL t i) = true
    · rw [if_pos h]
      by_cases h0 : (i : Int) > 0
      · have hw2 : wrap64 ((i : Int) - 1) = ((i - 1 : Nat) : Int) := by unfold wrap64; omega
        rw [if_pos h0, hw2, if_pos (by omega), if_pos (by omega), show rd_T43 t ((i - 1 : Nat) : Int) = atL t (i - 1) from rfl]
        by_cases h1 : (atL t (i - 1)).f0 ≥ (atL t i).f0
        · rw [if_pos h1, decide_eq_false]
          rintro ⟨_, h2⟩
          have := (h2 i (by omega) (by omega)).2 (by omega)
          omega
        · rw [if_neg h1, hw, ihh]
          congr 1
          refine decide_eq_decide.2 ⟨fun h2 => ⟨h2.1, fun j a b => ?_⟩, fun h2 => ⟨h2.1, fun j a b => h2.2 j (by omega) b⟩⟩
          rcases Nat.eq_or_lt_of_le a with c | c
          · subst c; exact ⟨h, fun _ => by omega⟩
          · exact h2.2 j (by omega) b
      · rw [if_neg h0, hw, ihh]
        congr 1
        refine decide_eq_decide.2 ⟨fun h2 => ⟨h2.1, fun j a b => ?_⟩, fun h2 => ⟨h2.1, fun j a b => h2.2 j (by omega) b⟩⟩
        rcases Nat.eq_or_lt_of_le a with c | c
        · subst c; exact ⟨h, fun _ => by omega⟩
        · exact h2.2 j (by omega) b
    · rw [if_neg h, decide_eq_false]
      rintro ⟨_, h2⟩
      exact h (h2 i (by omega) (by omega)).1
theorem table_Right_s (t : List Le) (h : Small t) (k : Nat) (hk : t.length < k) : table_Right.f k t = some (decide (Tab t)) := by
  have e := table_Right_l t h.1 h.2 t.length 0 k (by omega) hk
  unfold table_Right.f
  rw [show table_Right.l0 k t t (t.length : Int) 0 = table_Right.l0 k t t (t.length : Int) ((0 : Nat) : Int) from rfl, e]
  congr 1
  refine decide_eq_decide.2 ?_
  rw [tab_iff]
  exact ⟨fun h => ⟨h.1, fun j b => h.2 j (by omega) b⟩, fun h => ⟨h.1, fun j _ b => h.2 j b⟩⟩

/-! ### table.good -/
theorem table_good_s (t : List Le) (h : Small t) (k : Nat) (hk : t.length < k) : table_good.f k t = some (goodL t) := by
  unfold table_good.f goodL
  have := h.1
  rw [table_Right_s t h k hk]
  simp only [Option.bind_some]
  by_cases c : Tab t
  · rw [decide_eq_true c, if_pos rfl, if_pos c, if_pos (by simp; omega)]; simp
  · rw [decide_eq_false c, if_neg (by simp), if_neg c]
theorem goodL_small {t : List Le} (h : Small t) : Small (goodL t) := by
  unfold goodL
  by_cases c : Tab t
  · rw [if_pos c]; exact h
  · rw [if_neg c]; exact ⟨by simp, fun l hl => by simp at hl⟩

/-! ### table.place -/
/-- What a place is: all addresses below it are less; and the one at it is that, or all from it on are greater. -/
def PlaceOf (t : List Le) (a : Int) (p : Nat) (b : Bool) : Prop :=
  p ≤ t.length ∧ (∀ j, j < p → (atL t j).f0 < a) ∧ (b = true → p < t.length ∧ (atL t p).f0 = a) ∧ (b = false → ∀ j, p ≤ j → j < t.length → a < (atL t j).f0)
theorem table_place_l (t : List Le) (ht : t.length ≤ 500) (hs : Asc t) (a : Int) (d : Nat) : ∀ (lo hi : Nat) (k : Nat), hi ≤ lo + d → lo ≤ hi → hi ≤ t.length → d < k → (∀ j, j < lo → (atL t j).f0 < a) → (∀ j, hi ≤ j → j < t.length → a < (atL t j).f0) →
    ∃ (p : Nat) (b : Bool), table_place.l0 k t a lo hi = some ((p : Int), b) ∧ PlaceOf t a p b := by
  induction d using Nat.strongRecOn with
  | _ d ih =>
    intro lo hi k hd hle hhi hk h1 h2
    obtain ⟨k, rfl⟩ : ∃ m, k = m + 1 := ⟨k - 1, by omega⟩
    rw [table_place.l0]
    by_cases c : (lo : Int) < hi
    · have hm : wrap64 (Int.tdiv (wrap64 ((lo : Int) + hi)) 2) = (((lo + hi) / 2 : Nat) : Int) := by
        rw [show wrap64 ((lo : Int) + hi) = (lo : Int) + hi from by unfold wrap64; omega, Int.tdiv_eq_ediv_of_nonneg (by omega)]; unfold wrap64; omega
      rw [if_pos c, hm, if_pos (by omega), if_pos (by omega), show rd_T43 t (((lo + hi) / 2 : Nat) : Int) = atL t ((lo + hi) / 2) from rfl]
      clear hm
      generalize hmid : (lo + hi) / 2 = m
      have hm1 : lo ≤ m := by omega
      have hm2 : m < hi := by omega
      clear hmid
      by_cases e : (atL t m).f0 = a
      · rw [if_pos e]
        refine ⟨m, true, by rw [beq_iff_eq.2 e], by omega, fun j hj => by rw [← e]; exact asc_at hs hj (by omega), fun _ => ⟨by omega, e⟩, fun h => (by cases h)⟩
      · rw [if_neg e]
        by_cases l : (atL t m).f0 < a
        · rw [if_pos l, show wrap64 ((m : Int) + 1) = ((m + 1 : Nat) : Int) from by unfold wrap64; omega]
          refine ih (hi - (m + 1)) (by omega) (m + 1) hi k (by omega) (by omega) hhi (by omega) (fun j hj => ?_) h2
          rcases Nat.lt_or_ge j m with c | c
          · exact Int.lt_trans (asc_at hs c (by omega)) l
          · obtain rfl : j = m := by omega
            exact l
        · rw [if_neg l]
          refine ih (m - lo) (by omega) lo m k (by omega) (by omega) (by omega) (by omega) h1 (fun j a1 b1 => ?_)
          rcases Nat.eq_or_lt_of_le a1 with c | c
          · subst c; omega
          · have := asc_at hs c b1; omega
    · obtain rfl : lo = hi := by omega
      rw [if_neg c]
      by_cases n : (lo : Int) < (t.length : Int)
      · rw [if_pos n, if_pos (by omega), show rd_T43 t (lo : Int) = atL t lo from rfl]
        have := h2 lo (by omega) (by omega)
        refine ⟨lo, false, by rw [beq_eq_false_iff_ne.2 (by omega)], by omega, h1, fun h => (by cases h), fun _ => h2⟩
      · rw [if_neg n]
        exact ⟨lo, false, rfl, by omega, h1, fun h => (by cases h), fun _ => h2⟩
theorem table_place_s (t : List Le) (ht : t.length ≤ 500) (hs : Asc t) (a : Int) (k : Nat) (hk : t.length < k) : ∃ (p : Nat) (b : Bool), table_place.f k t a = some ((p : Int), b) ∧ PlaceOf t a p b := by
  unfold table_place.f
  exact table_place_l t ht hs a t.length 0 t.length k (by omega) (by omega) (by omega) hk (fun j h => by omega) (fun j h1 h2 => by omega)

/-! ### table.Set -/
/-- What setting answers. -/
def setAns (t : List Le) (l : Le) : List Le × Int := if leaseB l = true then (if (setL (goodL t) l).length ≤ 64 then (setL (goodL t) l, 0) else ([], 3)) else ([], 1)
theorem table_Set_s (t : List Le) (h : Small t) (l : Le) (hl : l.f3.size ≤ maxLen) (k : Nat) (hk : t.length + 1 < k) : table_Set.f k t l.f0 l.f1 l.f2 l.f3 = some (setAns t l) := by
  unfold table_Set.f setAns
  have hg := goodL_tab t
  have hgs := goodL_small h
  have hgl : (goodL t).length ≤ t.length := by unfold goodL; split <;> simp
  rw [table_good_s t h k (by omega), record_Right_s l hl]
  simp only [Option.bind_some]
  generalize goodL t = g at *
  have hg64 := hg.1
  by_cases c : leaseB l = true
  · rw [if_pos c, if_pos c]
    obtain ⟨p, b, hp, hp1, hp2, hp3, hp4⟩ := table_place_s g (by omega) hg.2.2 l.f0 k (by omega)
    rw [hp]
    simp only [Option.bind_some]
    cases b with
    | true =>
      obtain ⟨q1, q2⟩ := hp3 rfl
      have e : setL g l = g.set p l := setL_old hg.2.2 q1 q2
      rw [if_pos rfl, if_pos (by omega), if_pos (by omega), e, List.length_set, if_pos hg64]
      rfl
    | false =>
      have e : setL g l = g.take p ++ l :: g.drop p := setL_new hp1 hp2 (hp4 rfl)
      have el : (setL g l).length = g.length + 1 := by rw [e]; simp; omega
      rw [if_neg (by simp)]
      by_cases f : (g.length : Int) = 64
      · rw [if_pos f, if_neg (by omega)]
      · have hd : (g.drop ((p : Int)).toNat).length ≤ 64 := by rw [List.length_drop]; omega
        have htk : (g.take ((p : Int)).toNat).length ≤ 64 := by rw [List.length_take]; omega
        rw [if_neg f, if_pos (by omega), if_pos (by omega), if_pos (by rw [List.length_nil]; omega), if_pos (by omega), if_pos (by rw [List.nil_append, List.length_append, List.length_cons, List.length_nil]; omega), if_pos (by omega), e]
        simp
  · rw [if_neg c, if_neg c]
theorem setAns_small {t : List Le} (h : Small t) {l : Le} (hl : l.f3.size ≤ maxLen) : Small (setAns t l).1 := by
  unfold setAns
  by_cases c : leaseB l = true
  · rw [if_pos c]
    by_cases f : (setL (goodL t) l).length ≤ 64
    · rw [if_pos f]
      refine ⟨by show (setL (goodL t) l).length ≤ 500; omega, fun x hx => ?_⟩
      rcases setL_mem.1 hx with rfl | ⟨hx, _⟩
      · exact hl
      · exact (goodL_small h).2 x hx
    · rw [if_neg f]; exact ⟨by simp, fun x hx => by simp at hx⟩
  · rw [if_neg c]; exact ⟨by simp, fun x hx => by simp at hx⟩
theorem setAns_tab (t : List Le) (l : Le) : Tab (setAns t l).1 := by
  unfold setAns
  by_cases c : leaseB l = true
  · rw [if_pos c]
    by_cases f : (setL (goodL t) l).length ≤ 64
    · rw [if_pos f]
      refine ⟨f, fun x hx => ?_, setL_asc (goodL_tab t).2.2 l⟩
      rcases setL_mem.1 hx with rfl | ⟨hx, _⟩
      · exact c
      · exact (goodL_tab t).2.1 x hx
    · rw [if_neg f]; exact tab_nil
  · rw [if_neg c]; exact tab_nil

/-! ### table.Holds -/
theorem table_Holds_s (l : Le) (now : Int) : table_Holds.f l.f0 l.f1 l.f2 l.f3 now = some (holdsB l now) := by
  unfold table_Holds.f holdsB
  by_cases c : l.f1 = 1
  · rw [if_pos c]; congr 1; exact decide_eq_decide.2 ⟨fun h => ⟨c, h⟩, fun h => h.2⟩
  · rw [if_neg c, decide_eq_false (fun h => c h.1)]

/-! ### table.Rests -/
theorem table_Rests_s (l : Le) (now : Int) : table_Rests.f l.f0 l.f1 l.f2 l.f3 now = some (restsB l now) := by
  unfold table_Rests.f restsB
  by_cases c : l.f1 = 3
  · rw [if_pos c]; congr 1; exact decide_eq_decide.2 ⟨fun h => ⟨c, h⟩, fun h => h.2⟩
  · rw [if_neg c, decide_eq_false (fun h => c h.1)]

/-! ### table.Get -/
theorem table_Get_s (t : List Le) (h : Small t) (a : Int) (k : Nat) (hk : t.length + 1 < k) : table_Get.f k t a = some (ans (getL (goodL t) a)) := by
  unfold table_Get.f
  have hg := goodL_tab t
  have hgl : (goodL t).length ≤ t.length := by unfold goodL; split <;> simp
  rw [table_good_s t h k (by omega)]
  simp only [Option.bind_some]
  generalize goodL t = g at *
  have hg64 := hg.1
  obtain ⟨p, b, hp, hp1, hp2, hp3, hp4⟩ := table_place_s g (by omega) hg.2.2 a k (by omega)
  rw [hp]
  simp only [Option.bind_some]
  cases b with
  | true =>
    obtain ⟨q1, q2⟩ := hp3 rfl
    rw [if_pos rfl, if_pos (by omega), if_pos (by omega), ← q2, getL_some hg.2.2 (atL_mem q1)]
    rfl
  | false =>
    rw [if_neg (by simp), getL_none]
    · rfl
    · intro l hl
      obtain ⟨j, hj, rfl⟩ := mem_atL hl
      rcases Nat.lt_or_ge j p with c | c
      · have := hp2 j c; omega
      · have := hp4 rfl j c hj; omega

/-! ### table.Free -/
theorem table_Free_s (t : List Le) (h : Small t) (a : Int) (key : ByteArray) (now : Int) (k : Nat) (hk : t.length + 1 < k) : table_Free.f k t a key now = some (freeB (goodL t) a key now) := by
  unfold table_Free.f freeB
  rw [table_Get_s t h a k hk]
  simp only [Option.bind_some]
  cases getL (goodL t) a with
  | none => rfl
  | some l =>
    simp only [ans]
    rw [if_pos trivial, table_Rests_s, table_Holds_s]
    simp only [Option.bind_some]
    cases restsB l now <;> cases holdsB l now <;> simp
    rw [Bool.eq_iff_iff]; simp

end Go.Proofs.Ytlabpabnddfllaa.PTable
