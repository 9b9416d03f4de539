/- The law LeaseTables holds of the printed functions; no condition beyond the law's own. -/
import Derived.Test.YtdajdpgnhjlbaaaDoorLeaseRLeaseTables
import Derived.Test.YtdajdpgnhjlbaaaDoorPLeasex11
import Derived.Test.YtdajdpgnhjlbaaaDoorPLeasex17
import Derived.Test.YtdajdpgnhjlbaaaDoorPLeasex6
import Derived.Test.YtdajdpgnhjlbaaaDoorPLeasex7
import Derived.Test.YtdajdpgnhjlbaaaDoorPLeasex8
import Derived.Test.YtdajdpgnhjlbaaaDoorLeaseTab
import Derived.Test.YtdajdpgnhjlbaaaDoorLeaseHex
import Derived.Test.YtdajdpgnhjlbaaaDoorLeaseLin
import Derived.Test.YtdajdpgnhjlbaaaDoorLeaseS1
set_option linter.unusedVariables false
set_option linter.unusedSimpArgs false
namespace Go.Proofs.YtdajdpgnhjlbaaaDoor.PLease
open Go.RowKit Go.Proofs.YtdajdpgnhjlbaaaDoorW.PrintWords Go.Proofs.YtdajdpgnhjlbaaaDoorW.PrintLast Go.Proofs.YtdajdpgnhjlbaaaDoorW.PrintMore

/-! ### boarderref01.Right -/
theorem boarderref01_Right_s (a : Int) : boarderref01_Right.f a = some (decide (0 ≤ a ∧ a ≤ 4294967295)) := by
  unfold boarderref01_Right.f
  by_cases h : a ≥ 0
  · rw [if_pos h]; congr 1; exact decide_eq_decide.2 ⟨fun h2 => ⟨h, by omega⟩, fun h2 => by omega⟩
  · rw [if_neg h, decide_eq_false (by omega)]

/-! ### boarderref07.Right -/
theorem boarderref07_Right_s (s : ByteArray) : boarderref07_Right.f s = some (keyB s) := by
  unfold boarderref07_Right.f keyB
  by_cases h0 : (s.size : Int) < 3
  · rw [if_pos h0, decide_eq_false (show ¬ 3 ≤ s.size by omega)]; rfl
  · rw [if_neg h0, if_pos (by omega), decide_eq_true (show 3 ≤ s.size by omega), Bool.true_and]
    by_cases h1 : bt s 0 = 105
    · rw [if_pos h1]
      by_cases h2 : (s.size : Int) ≤ 256
      · rw [if_pos h2, decide_eq_true (show bt s 0 = 105 ∧ s.size ≤ 256 from ⟨h1, by omega⟩)]; rfl
      · rw [if_neg h2, if_neg (by omega), decide_eq_false (by omega), decide_eq_false (by omega)]; rfl
    · rw [if_neg h1, decide_eq_false (show ¬ (bt s 0 = 105 ∧ s.size ≤ 256) from fun h => h1 h.1), Bool.false_or]
      by_cases h3 : bt s 0 = 104
      · rw [if_pos h3]
        congr 1
        exact decide_eq_decide.2 ⟨fun h => ⟨h3, by omega⟩, fun h => by omega⟩
      · rw [if_neg h3, decide_eq_false (fun h => h3 h.1)]

/-! ### boarderref09.Right -/
theorem boarderref09_Right_s (l : Le) : boarderref09_Right.f l.f0 l.f1 l.f2 l.f3 = some (leaseB l) := by
  unfold boarderref09_Right.f leaseB
  rw [boarderref01_Right_s, boarderref07_Right_s]
  simp only [Option.bind_some]
  by_cases h0 : 0 ≤ l.f0 ∧ l.f0 ≤ 4294967295
  · rw [decide_eq_true h0, if_pos rfl]
    cases hk : keyB l.f3 with
    | false => rw [if_neg (by simp), Bool.and_false]
    | true =>
      rw [if_pos rfl, Bool.and_true]
      have fin : (if l.f2 ≥ 0 then (some (decide (l.f2 ≤ 1125899906842624))) else (some false)) = some (decide (0 ≤ l.f2 ∧ l.f2 ≤ 1125899906842624)) := by
        by_cases h3 : l.f2 ≥ 0
        · rw [if_pos h3]; congr 1; exact decide_eq_decide.2 ⟨fun h => ⟨h3, h⟩, fun h => h.2⟩
        · rw [if_neg h3, decide_eq_false (fun h => h3 h.1)]
      rw [fin]
      by_cases c1 : l.f1 = 1
      · rw [if_pos c1]; congr 1; exact decide_eq_decide.2 ⟨fun h => ⟨h0.1, h0.2, by omega, by omega, h.1, h.2⟩, fun h => ⟨h.2.2.2.2.1, h.2.2.2.2.2⟩⟩
      · rw [if_neg c1]
        by_cases c2 : l.f1 = 2
        · rw [if_pos c2]; congr 1; exact decide_eq_decide.2 ⟨fun h => ⟨h0.1, h0.2, by omega, by omega, h.1, h.2⟩, fun h => ⟨h.2.2.2.2.1, h.2.2.2.2.2⟩⟩
        · rw [if_neg c2]
          by_cases c3 : l.f1 = 3
          · rw [if_pos c3]; congr 1; exact decide_eq_decide.2 ⟨fun h => ⟨h0.1, h0.2, by omega, by omega, h.1, h.2⟩, fun h => ⟨h.2.2.2.2.1, h.2.2.2.2.2⟩⟩
          · rw [if_neg c3, decide_eq_false (by omega)]
  · rw [decide_eq_false h0, if_neg (by simp), decide_eq_false (fun h => h0 ⟨h.1, h.2.1⟩)]; rfl

/-! ### boarderref01.decimal -/
theorem boarderref01_decimal_s (n : Nat) (hn : n ≤ 4611686018427387903) : ∀ k : Nat, n + 1 < k → boarderref01_decimal.f k n = some (strOfNums (Com.decI n)) := by
  induction n using Nat.strongRecOn with
  | _ n ih =>
    intro k hk
    obtain ⟨k, rfl⟩ : ∃ m, k = m + 1 := ⟨k - 1, by omega⟩
    have hlen := Com.decI_len n
    rw [boarderref01_decimal.f]
    by_cases h : n < 10
    · rw [Com.decI_small h, if_pos (by omega), show wrap64 (48 + (n : Int)) % 256 = 48 + n from by unfold wrap64; omega]
    · have e2 : wrap64 (Int.tdiv (n : Int) 10) = ((n / 10 : Nat) : Int) := by rw [Int.tdiv_eq_ediv_of_nonneg (by omega)]; unfold wrap64; omega
      have e3 : Int.tmod (n : Int) 10 = ((n % 10 : Nat) : Int) := by rw [Int.tmod_eq_emod_of_nonneg (by omega)]; omega
      rw [if_neg (by omega), e2, e3, ih (n / 10) (by omega) (by omega) k (by omega), ih (n % 10) (by omega) (by omega) k (by omega)]
      simp only [Option.bind_some]
      rw [Com.decI_big h] at hlen ⊢
      rw [List.length_append] at hlen
      rw [strOfNums_size, strOfNums_size, Com.decI_small (n := n % 10) (by omega), if_pos (by simp at hlen ⊢; omega)]
      congr 1
      exact (Com.strOfNums_append _ _).symm

/-! ### boarderref01.Text -/
theorem boarderref01_Text_s (a : Nat) (ha : a < 4294967296) (k : Nat) (hk : 300 ≤ k) : ∃ s, boarderref01_Text.f k a = some s ∧ s.toList = Com.textB a := by
  have g3 : Com.b3 a ≤ 255 := by unfold Com.b3; omega
  have g2 : Com.b2 a ≤ 255 := by unfold Com.b2; omega
  have g1 : Com.b1 a ≤ 255 := by unfold Com.b1; omega
  have g0 : Com.b0 a ≤ 255 := by unfold Com.b0; omega
  have l3 := Com.decI_len (Com.b3 a)
  have l2 := Com.decI_len (Com.b2 a)
  have l1 := Com.decI_len (Com.b1 a)
  have l0 := Com.decI_len (Com.b0 a)
  have e3 : wrap64 (Int.tdiv (a : Int) 16777216) = (Com.b3 a : Int) := by rw [Int.tdiv_eq_ediv_of_nonneg (by omega)]; unfold wrap64 Com.b3; omega
  have e2 : Int.tmod (wrap64 (Int.tdiv (a : Int) 65536)) 256 = (Com.b2 a : Int) := by
    rw [Int.tdiv_eq_ediv_of_nonneg (by omega), show wrap64 ((a : Int) / 65536) = (a : Int) / 65536 from by unfold wrap64; omega, Int.tmod_eq_emod_of_nonneg (by omega)]; unfold Com.b2; omega
  have e1 : Int.tmod (wrap64 (Int.tdiv (a : Int) 256)) 256 = (Com.b1 a : Int) := by
    rw [Int.tdiv_eq_ediv_of_nonneg (by omega), show wrap64 ((a : Int) / 256) = (a : Int) / 256 from by unfold wrap64; omega, Int.tmod_eq_emod_of_nonneg (by omega)]; unfold Com.b1; omega
  have e0 : Int.tmod (a : Int) 256 = (Com.b0 a : Int) := by rw [Int.tmod_eq_emod_of_nonneg (by omega)]; unfold Com.b0; omega
  unfold boarderref01_Text.f
  rw [e3, e2, e1, e0]
  clear e3 e2 e1 e0
  rw [boarderref01_decimal_s (Com.b3 a) (by omega) k (by omega), boarderref01_decimal_s (Com.b2 a) (by omega) k (by omega), boarderref01_decimal_s (Com.b1 a) (by omega) k (by omega), boarderref01_decimal_s (Com.b0 a) (by omega) k (by omega)]
  have z3 := strOfNums_size (Com.decI (Com.b3 a))
  have z2 := strOfNums_size (Com.decI (Com.b2 a))
  have z1 := strOfNums_size (Com.decI (Com.b1 a))
  have z0 := strOfNums_size (Com.decI (Com.b0 a))
  have t3 := Com.strOfNums_toList (Com.decI (Com.b3 a))
  have t2 := Com.strOfNums_toList (Com.decI (Com.b2 a))
  have t1 := Com.strOfNums_toList (Com.decI (Com.b1 a))
  have t0 := Com.strOfNums_toList (Com.decI (Com.b0 a))
  have hf : Com.textB a = Com.bys (Com.decI (Com.b3 a)) ++ 46 :: (Com.bys (Com.decI (Com.b2 a)) ++ 46 :: (Com.bys (Com.decI (Com.b1 a)) ++ 46 :: Com.bys (Com.decI (Com.b0 a)))) := by
    unfold Com.textB Com.textI
    simp [Com.bys_append, Com.bys_cons]
  rw [hf, ← t3, ← t2, ← t1, ← t0]
  clear hf t3 t2 t1 t0
  generalize strOfNums (Com.decI (Com.b3 a)) = s3 at *
  generalize strOfNums (Com.decI (Com.b2 a)) = s2 at *
  generalize strOfNums (Com.decI (Com.b1 a)) = s1 at *
  generalize strOfNums (Com.decI (Com.b0 a)) = s0 at *
  have hd : (⟨#[46]⟩ : ByteArray).size = 1 := rfl
  have hl : (⟨#[46]⟩ : ByteArray).toList = [46] := by rw [ByteArray.toList_eq]
  generalize (⟨#[46]⟩ : ByteArray) = dot at *
  have q1 : (s3 ++ dot).size = s3.size + 1 := by rw [ByteArray.size_append, hd]
  have q2 : (s3 ++ dot ++ s2).size = s3.size + 1 + s2.size := by rw [ByteArray.size_append, q1]
  have q3 : (s3 ++ dot ++ s2 ++ dot).size = s3.size + 1 + s2.size + 1 := by rw [ByteArray.size_append, q2, hd]
  have q4 : (s3 ++ dot ++ s2 ++ dot ++ s1).size = s3.size + 1 + s2.size + 1 + s1.size := by rw [ByteArray.size_append, q3]
  have q5 : (s3 ++ dot ++ s2 ++ dot ++ s1 ++ dot).size = s3.size + 1 + s2.size + 1 + s1.size + 1 := by rw [ByteArray.size_append, q4, hd]
  refine ⟨s3 ++ dot ++ s2 ++ dot ++ s1 ++ dot ++ s0, ?_, ?_⟩
  · simp only [Option.bind_some]
    rw [if_pos (by omega), if_pos (by omega), if_pos (by omega), if_pos (by omega), if_pos (by omega), if_pos (by omega)]
  · simp [Com.toList_append, hl]

/-! ### boarderref24.word -/
theorem boarderref24_word_s (st : Int) : boarderref24_word.f st = some (strOfNums (wordL st)) := by
  unfold boarderref24_word.f wordL
  split
  · rfl
  · split <;> rfl

/-! ### boarderref23.Num -/
theorem boarderref23_Num_s (n : Nat) (hn : n ≤ 4611686018427387903) : ∀ k : Nat, n + 1 < k → boarderref23_Num.f k n = some (strOfNums (Com.decI n)) := by
  induction n using Nat.strongRecOn with
  | _ n ih =>
    intro k hk
    obtain ⟨k, rfl⟩ : ∃ m, k = m + 1 := ⟨k - 1, by omega⟩
    have hlen := Com.decI_len n
    rw [boarderref23_Num.f]
    by_cases h : n < 10
    · rw [Com.decI_small h, if_pos (by omega), show wrap64 (48 + (n : Int)) % 256 = 48 + n from by unfold wrap64; omega]
    · have e2 : wrap64 (Int.tdiv (n : Int) 10) = ((n / 10 : Nat) : Int) := by rw [Int.tdiv_eq_ediv_of_nonneg (by omega)]; unfold wrap64; omega
      have e3 : Int.tmod (n : Int) 10 = ((n % 10 : Nat) : Int) := by rw [Int.tmod_eq_emod_of_nonneg (by omega)]; omega
      rw [if_neg (by omega), e2, e3, ih (n / 10) (by omega) (by omega) k (by omega), ih (n % 10) (by omega) (by omega) k (by omega)]
      simp only [Option.bind_some]
      rw [Com.decI_big h] at hlen ⊢
      rw [List.length_append] at hlen
      rw [strOfNums_size, strOfNums_size, Com.decI_small (n := n % 10) (by omega), if_pos (by simp at hlen ⊢; omega)]
      congr 1
      exact (Com.strOfNums_append _ _).symm

/-! ### boarderref07.hex -/
theorem boarderref07_hex_s (n : Int) (h0 : 0 ≤ n) (h1 : n < 16) : boarderref07_hex.f n = some (hx n) := by
  unfold boarderref07_hex.f hx
  by_cases c : n < 10
  · rw [if_pos c, if_pos c, show (48 + n) % 256 = 48 + n by omega]
  · rw [if_neg c, if_neg c, show (87 + n) % 256 = 87 + n by omega]

/-! ### boarderref07.Text -/
theorem hexdiv {b : Int} (hb : 0 ≤ b ∧ b ≤ 255) : Int.tdiv b 16 % 256 = b / 16 ∧ Int.tmod b 16 = b % 16 := ⟨by rw [Int.tdiv_eq_ediv_of_nonneg hb.1]; omega, Int.tmod_eq_emod_of_nonneg hb.1⟩
theorem boarderref07_Text_loop (s : ByteArray) (hs : s.size ≤ 100000) : ∀ (d i : Nat) (acc : List Int), i + d = s.size → acc.length + 2 * d ≤ 1000000 → Ev (fun k => boarderref07_Text.l0 k s acc (i : Int)) (strOfNums (acc ++ hexL ((bytesOf s).drop i))) := by
  have hL := bytesOf_length s
  intro d
  induction d with
  | zero =>
    intro i acc hi ha
    refine Ev.step (f := fun _ => some (strOfNums acc)) (fun k => ?_) (Ev.eqv Ev.some' ?_)
    · show boarderref07_Text.l0 (k + 1) _ _ _ = _
      rw [boarderref07_Text.l0, if_neg (by omega)]
    · rw [show (bytesOf s).drop i = [] from List.drop_eq_nil_of_le (by omega), hexL, List.append_nil]
  | succ d ih =>
    intro i acc hi ha
    have hb := bytesOf_by s _ (List.getElem_mem (show i < (bytesOf s).length by omega))
    have g1 : bt s (i : Int) = (bytesOf s)[i]'(by omega) := bt_get (by omega)
    have hd : (bytesOf s).drop i = (bytesOf s)[i]'(by omega) :: (bytesOf s).drop (i + 1) := List.drop_eq_getElem_cons (by omega)
    rw [hd, hexL]
    generalize (bytesOf s)[i]'(by omega) = b at *
    have w1 : wrap64 ((i : Int) + 1) = ((i + 1 : Nat) : Int) := wrap_next (n := s.size) (by omega) (by omega)
    refine Ev.step (f := fun k => boarderref07_Text.l0 k s (acc ++ [hx (b / 16), hx (b % 16)]) ((i + 1 : Nat) : Int)) (fun k => ?_) (Ev.eqv (ih (i + 1) (acc ++ [hx (b / 16), hx (b % 16)]) (by omega) (by simp only [List.length_append, List.length_cons, List.length_nil]; omega)) (by simp))
    show boarderref07_Text.l0 (k + 1) _ _ _ = _
    rw [boarderref07_Text.l0, if_pos (by omega), if_pos (by omega), g1, (hexdiv hb).1, (hexdiv hb).2, boarderref07_hex_s _ (by omega) (by omega), Option.bind_some, boarderref07_hex_s _ (by omega) (by omega), Option.bind_some, Option.bind_some, if_pos (show acc.length + ([hx (b / 16), hx (b % 16)] : List Int).length < 140737488355328 by simp only [List.length_cons, List.length_nil]; omega), w1]
theorem boarderref07_Text_s (s : ByteArray) (h0 : 0 < s.size) (hs : s.size ≤ 100000) : Ev (fun k => boarderref07_Text.f k s) (strOfNums (textL (bytesOf s))) := by
  have hL := bytesOf_length s
  have g0 : bt s 0 = (bytesOf s)[0]'(by omega) := bt_get (i := 0) (by omega)
  refine Ev.congr (f := fun k => boarderref07_Text.l0 k s [bt s 0, 45] ((1 : Nat) : Int)) (fun k => by unfold boarderref07_Text.f; rw [if_pos (by omega)]; rfl) (Ev.eqv (boarderref07_Text_loop s hs (s.size - 1) 1 [bt s 0, 45] (by omega) (by simp only [List.length_cons, List.length_nil]; omega)) ?_)
  clear g0
  rw [bt_head]
  generalize bytesOf s = L at hL ⊢
  cases L with
  | nil => simp at hL; omega
  | cons c l => rfl

/-! ### boarderref24.Line -/
theorem boarderref24_Line_s (l : Le) (hl : leaseB l = true) : Ev (fun k => boarderref24_Line.f k l.f0 l.f1 l.f2 l.f3) (strOfNums (lineL l)) := by
  obtain ⟨a1, a2, s1, s3, e1, e2, hk⟩ := leaseB_of hl
  have ha : l.f0 = ((l.f0.toNat : Nat) : Int) := by omega
  have he : l.f2 = ((l.f2.toNat : Nat) : Int) := by omega
  have hT := textI_len l.f0.toNat
  have hW := wordL_len l.f1
  have hD := decI_len16 l.f2.toNat (by omega)
  have hkl := bytesOf_length l.f3
  have hks : 3 ≤ l.f3.size ∧ l.f3.size ≤ 256 := by
    unfold keyB at hk
    simp only [Bool.and_eq_true, Bool.or_eq_true, decide_eq_true_iff] at hk
    omega
  have hkt := textL_len (L := bytesOf l.f3) (fun e => by rw [e] at hkl; simp at hkl; omega)
  unfold boarderref24_Line.f
  refine Ev.bind (a := strOfNums (Com.textI l.f0.toNat)) ⟨300, fun k hk => by
    obtain ⟨s, h1, h2⟩ := boarderref01_Text_s l.f0.toNat (by omega) k hk
    rw [← ha] at h1
    show boarderref01_Text.f k l.f0 = _
    rw [h1]
    congr 1
    have : s.toList = (strOfNums (Com.textI l.f0.toNat)).toList := by rw [h2, toList_str]; rfl
    rw [ByteArray.toList_eq, ByteArray.toList_eq] at this
    cases s
    simp only at this
    exact congrArg ByteArray.mk (Array.toList_inj.1 this)⟩ ?_
  simp only [boarderref24_word_s, Option.bind_some, sp_str, ← Com.strOfNums_append, str_size, List.length_append, List.length_singleton]
  refine Ev.pos (by omega) (Ev.pos (by omega) (Ev.pos (by omega) (Ev.bind (a := strOfNums (Com.decI l.f2.toNat)) ⟨l.f2.toNat + 2, fun k hk => by have h := boarderref23_Num_s l.f2.toNat (by omega) k (by omega); rw [← he] at h; exact h⟩ ?_)))
  simp only [← Com.strOfNums_append, str_size, List.length_append, List.length_singleton]
  refine Ev.pos (by omega) (Ev.pos (by omega) (Ev.bind (boarderref07_Text_s l.f3 (by omega) (by omega)) ?_))
  simp only [← Com.strOfNums_append, str_size, List.length_append, List.length_singleton]
  refine Ev.pos (by omega) (Ev.eqv Ev.some' ?_)
  congr 1
  unfold lineL
  simp [List.append_assoc]

/-! ### boarderref12.Right -/
open Classical in
theorem boarderref12_Right_l (t : List Le) (ht : t.length ≤ maxLen) (d : Nat) : ∀ (i : Nat) (k : Nat), i + d = t.length → d < k →
    boarderref12_Right.l0 k t i = some (decide (∀ j, i ≤ j → j < t.length → leaseB (atL t j) = true ∧ (j + 1 < t.length → (atL t j).f0 < (atL t (j + 1)).f0))) := by
  simp only [maxLen] at ht
  induction d with
  | zero =>
    intro i k hi hk
    obtain ⟨k, rfl⟩ : ∃ m, k = m + 1 := ⟨k - 1, by omega⟩
    rw [boarderref12_Right.l0, if_neg (by omega), decide_eq_true (fun j a b => by omega)]
  | succ d ih =>
    intro i k hi hkk
    obtain ⟨k, rfl⟩ : ∃ m, k = m + 1 := ⟨k - 1, by omega⟩
    have hw : wrap64 ((i : Int) + 1) = ((i + 1 : Nat) : Int) := by unfold wrap64; omega
    have ihh := ih (i + 1) k (by omega) (by omega)
    rw [boarderref12_Right.l0, if_pos (by omega), if_pos (by omega), show rd_T23 t (i : Int) = atL t i from rfl, boarderref09_Right_s, hw]
    simp only [Option.bind_some]
    by_cases h : leaseB (atL t i) = true
    · rw [if_pos h]
      by_cases h0 : ((i + 1 : Nat) : Int) < (t.length : Int)
      · rw [if_pos h0, if_pos (by omega), show rd_T23 t ((i + 1 : Nat) : Int) = atL t (i + 1) from rfl]
        by_cases h1 : (atL t (i + 1)).f0 ≤ (atL t i).f0
        · rw [if_pos h1, decide_eq_false]
          intro h2
          have := (h2 i (by omega) (by omega)).2 (by omega)
          omega
        · rw [if_neg h1, ihh]
          congr 1
          refine decide_eq_decide.2 ⟨fun h2 j a b => ?_, fun h2 j a b => h2 j (by omega) b⟩
          rcases Nat.eq_or_lt_of_le a with c | c
          · subst c; exact ⟨h, fun _ => by omega⟩
          · exact h2 j (by omega) b
      · rw [if_neg h0, ihh]
        congr 1
        refine decide_eq_decide.2 ⟨fun h2 j a b => ?_, fun h2 j a b => h2 j (by omega) b⟩
        rcases Nat.eq_or_lt_of_le a with c | c
        · subst c; exact ⟨h, fun _ => by omega⟩
        · exact h2 j (by omega) b
    · rw [if_neg h, decide_eq_false]
      intro h2
      exact h (h2 i (by omega) (by omega)).1
theorem boarderref12_Right_s (t : List Le) (ht : t.length ≤ maxLen) (k : Nat) (hk : t.length < k) : boarderref12_Right.f k t = some (decide (Tab t)) := by
  unfold boarderref12_Right.f
  by_cases c : (t.length : Int) > 64
  · rw [if_pos c, decide_eq_false (fun h => by have := h.1; omega)]
  · have e := boarderref12_Right_l t ht t.length 0 k (by omega) hk
    rw [if_neg c, show boarderref12_Right.l0 k t 0 = boarderref12_Right.l0 k t ((0 : Nat) : Int) from rfl, e]
    congr 1
    refine decide_eq_decide.2 ?_
    rw [tab_iff2]
    exact ⟨fun h => ⟨by omega, fun j b => h j (by omega) b⟩, fun h j _ b => h.2 j b⟩

/-! ### boarderref10.SameLeases -/
theorem boarderref10_SameLeases_l (t : List Le) (ht : t.length ≤ maxLen) (d : Nat) : ∀ (i : Nat) (k : Nat), i + d = t.length → d < k → boarderref10_SameLeases.l0 k t t i = some true := by
  simp only [maxLen] at ht
  induction d with
  | zero =>
    intro i k hi hk
    obtain ⟨k, rfl⟩ : ∃ m, k = m + 1 := ⟨k - 1, by omega⟩
    rw [boarderref10_SameLeases.l0, if_neg (by omega)]
  | succ d ih =>
    intro i k hi hkk
    obtain ⟨k, rfl⟩ : ∃ m, k = m + 1 := ⟨k - 1, by omega⟩
    have hw : wrap64 ((i : Int) + 1) = ((i + 1 : Nat) : Int) := by unfold wrap64; omega
    rw [boarderref10_SameLeases.l0, if_pos (by omega), if_pos (by omega), if_pos (by omega), if_neg (by simp), hw]
    exact ih (i + 1) k (by omega) (by omega)
theorem boarderref10_SameLeases_s (t : List Le) (ht : t.length ≤ maxLen) (k : Nat) (hk : t.length < k) : boarderref10_SameLeases.f k t t = some true := by
  unfold boarderref10_SameLeases.f
  rw [if_pos rfl]
  exact boarderref10_SameLeases_l t ht t.length 0 k (by omega) hk

/-! ### boarderlaw12.Great -/
/-- Is a table more than is looked at? -/
def greatB (t : List Le) : Bool := decide (∃ l ∈ t, 1000 < l.f3.size) || decide (200 < t.length)
open Classical in
theorem boarderlaw12_Great_l (t : List Le) (ht : t.length ≤ maxLen) (d : Nat) : ∀ (i : Nat) (k : Nat), i + d = t.length → d < k →
    boarderlaw12_Great.l0 k t i = some (decide (∃ j, i ≤ j ∧ j < t.length ∧ 1000 < (atL t j).f3.size) || decide (200 < t.length)) := by
  simp only [maxLen] at ht
  induction d with
  | zero =>
    intro i k hi hk
    obtain ⟨k, rfl⟩ : ∃ m, k = m + 1 := ⟨k - 1, by omega⟩
    rw [boarderlaw12_Great.l0, if_neg (by omega), decide_eq_false (p := ∃ j, i ≤ j ∧ j < t.length ∧ 1000 < (atL t j).f3.size) (by rintro ⟨j, h1, h2, _⟩; omega), Bool.false_or]
    congr 1; exact decide_eq_decide.2 ⟨fun h => by omega, fun h => by omega⟩
  | succ d ih =>
    intro i k hi hk
    obtain ⟨k, rfl⟩ : ∃ m, k = m + 1 := ⟨k - 1, by omega⟩
    rw [boarderlaw12_Great.l0, if_pos (by omega), if_pos (by omega), show rd_T23 t (i : Int) = atL t i from rfl]
    by_cases h : ((atL t i).f3.size : Int) > 1000
    · rw [if_pos h, decide_eq_true (p := ∃ j, i ≤ j ∧ j < t.length ∧ 1000 < (atL t j).f3.size) ⟨i, by omega, by omega, by omega⟩, Bool.true_or]
    · rw [if_neg h, show wrap64 ((i : Int) + 1) = ((i + 1 : Nat) : Int) from by unfold wrap64; omega, ih (i + 1) k (by omega) (by omega)]
      congr 2
      refine decide_eq_decide.2 ⟨?_, ?_⟩
      · rintro ⟨j, h1, h2, h3⟩; exact ⟨j, by omega, h2, h3⟩
      · rintro ⟨j, h1, h2, h3⟩
        rcases Nat.eq_or_lt_of_le h1 with c | c
        · subst c; omega
        · exact ⟨j, by omega, h2, h3⟩
theorem boarderlaw12_Great_s (t : List Le) (ht : t.length ≤ maxLen) (k : Nat) (hk : t.length < k) : boarderlaw12_Great.f k t = some (greatB t) := by
  have e := boarderlaw12_Great_l t ht t.length 0 k (by omega) hk
  unfold boarderlaw12_Great.f greatB
  rw [show boarderlaw12_Great.l0 k t 0 = boarderlaw12_Great.l0 k t ((0 : Nat) : Int) from rfl, e]
  congr 2
  refine decide_eq_decide.2 ⟨?_, ?_⟩
  · rintro ⟨j, _, h2, h3⟩; exact ⟨_, atL_mem h2, h3⟩
  · rintro ⟨l, hl, h⟩
    obtain ⟨j, hj, rfl⟩ := mem_atL hl
    exact ⟨j, by omega, hj, h⟩
/-- What isn't: at most 200 leases, of keys of at most 1000 bytes. -/
theorem greatB_not {t : List Le} (h : greatB t = false) : t.length ≤ 200 ∧ ∀ l ∈ t, l.f3.size ≤ 1000 := by
  unfold greatB at h
  rw [Bool.or_eq_false_iff, decide_eq_false_iff_not, decide_eq_false_iff_not] at h
  exact ⟨by omega, fun l hl => by
    rcases Nat.lt_or_ge 1000 l.f3.size with c | c
    · exact absurd ⟨l, hl, c⟩ h.1
    · exact c⟩
theorem small_of {t : List Le} (h : greatB t = false) : Small t := by
  obtain ⟨h1, h2⟩ := greatB_not h
  exact ⟨by omega, fun l hl => by have := h2 l hl; simp only [maxLen]; omega⟩
theorem goodL_len (t : List Le) : (goodL t).length ≤ t.length := by unfold goodL; split <;> simp

/-! ### boarderref24.Print -/
theorem boarderref24_Print_l (t : List Le) (h : Tab t) : ∀ (d i : Nat), i + d = t.length → Ev (fun k => boarderref24_Print.l0 k t (strOfNums (printL (t.take i))) (i : Int)) (strOfNums (printL t)) := by
  have h64 := h.1
  intro d
  induction d with
  | zero =>
    intro i hi
    obtain rfl : i = t.length := by omega
    refine Ev.step (f := fun _ => some (strOfNums (printL t))) (fun k => ?_) Ev.some'
    show boarderref24_Print.l0 (k + 1) _ _ _ = _
    rw [boarderref24_Print.l0, if_neg (by omega), List.take_length]
  | succ d ih =>
    intro i hi
    have hw : wrap64 ((i : Int) + 1) = ((i + 1 : Nat) : Int) := by unfold wrap64; omega
    have hb : leaseB (atL t i) = true := h.2.1 _ (atL_mem (by omega))
    have hl := line_len hb
    have hp := printL_len (t.take i) (fun l hl => h.2.1 l (List.mem_of_mem_take hl))
    rw [List.length_take] at hp
    refine Ev.step (f := fun k => (boarderref24_Line.f k (atL t i).f0 (atL t i).f1 (atL t i).f2 (atL t i).f3).bind fun t378 => (if (strOfNums (printL (t.take i))).size + t378.size ≤ 9223372036854775807 then (if (strOfNums (printL (t.take i)) ++ t378).size + 1 ≤ 9223372036854775807 then (boarderref24_Print.l0 k t ((strOfNums (printL (t.take i)) ++ t378) ++ (⟨#[10]⟩ : ByteArray)) ((i + 1 : Nat) : Int)) else (none)) else (none))) (fun k => ?_) (Ev.bind (boarderref24_Line_s (atL t i) hb) ?_)
    · show boarderref24_Print.l0 (k + 1) _ _ _ = _
      rw [boarderref24_Print.l0, if_pos (by omega), if_pos (by omega), hw]
      rfl
    · clear hw
      simp only [nl_str, ← Com.strOfNums_append, str_size, List.length_append]
      refine Ev.pos (by omega) (Ev.pos (by omega) ?_)
      have e := ih (i + 1) (by omega)
      rw [take_at t (by omega), printL_snoc, ← List.append_assoc] at e
      exact e
theorem boarderref24_Print_s (t : List Le) (h : Tab t) : Ev (fun k => boarderref24_Print.f k t) (strOfNums (printL t)) := boarderref24_Print_l t h t.length 0 (by omega)

end Go.Proofs.YtdajdpgnhjlbaaaDoor.PLease

namespace Go.Proofs.YtdajdpgnhjlbaaaDoor.Pure
open Go.RowKit Go.Proofs.YtdajdpgnhjlbaaaDoorW.PrintWords Go.Proofs.YtdajdpgnhjlbaaaDoorW.PrintLast Go.Proofs.YtdajdpgnhjlbaaaDoorW.PrintMore Go.Proofs.YtdajdpgnhjlbaaaDoor.PLease

theorem LeaseTables : boarderlaw24_LeaseTables.Pure := by
  intro t ht
  refine Ev.rounds ?_
  have hk : Ev (fun k => (boarderlaw24_knows.f k).bind fun t => some t) true := Ev.bind boarderlaw24_knows_s Ev.some'
  unfold boarderlaw24_LeaseTables.f
  refine Ev.bind (a := greatB t) ⟨t.length + 1, fun k hk => boarderlaw12_Great_s t ht.1 k (by omega)⟩ ?_
  by_cases h : greatB t = true
  · exact Ev.pos h hk
  · have hs := small_of (by simpa using h)
    refine Ev.neg h (Ev.bind (ltext_Print_s t hs) (Ev.bind (a := decide (Tab t)) ⟨t.length + 1, fun k hk => boarderref12_Right_s t ht.1 k (by omega)⟩ ?_))
    by_cases hT : Tab t
    · rw [if_pos hT]
      have h64 := hT.1
      have hn := printL_len t hT.2.1
      refine Ev.pos (decide_eq_true hT) (Ev.bind (a := (t, 0, 0)) (Ev.eqv (ltext_Parse_s (strOfNums (printL t)) (by rw [str_size]; omega)) ?_) (Ev.bind (boarderref24_Print_s t hT) (Ev.pos (by rfl) (Ev.pos (by rfl) (Ev.bind (a := true) ⟨t.length + 1, fun k hk => boarderref10_SameLeases_s t ht.1 k (by omega)⟩ (Ev.pos (by rfl) (Ev.pos (by rfl) (Ev.pos (by rfl) hk))))))))
      rw [bytes_str _ (printL_by t hT.2.1), split_print t hT.2.1, parL_print t [] 0 (by rw [List.nil_append]; exact hT), List.nil_append]
    · rw [if_neg hT]
      exact Ev.neg (by simpa using hT) (Ev.pos (by rw [ByteArray.toList_eq]) (Ev.pos (by rfl) hk))

end Go.Proofs.YtdajdpgnhjlbaaaDoor.Pure
