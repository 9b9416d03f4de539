/- The law LeaseParses holds of the printed functions; no condition beyond the law's own. -/
import Derived.Test.YtdajdpgnhjlbaaaDoorLeaseRLeaseParses
import Derived.Test.YtdajdpgnhjlbaaaDoorPLeasex10
import Derived.Test.YtdajdpgnhjlbaaaDoorPLeasex14
import Derived.Test.YtdajdpgnhjlbaaaDoorPLeasex6
import Derived.Test.YtdajdpgnhjlbaaaDoorPLeasex7
import Derived.Test.YtdajdpgnhjlbaaaDoorPLeasex8
import Derived.Test.YtdajdpgnhjlbaaaDoorPLeasex9
import Derived.Test.YtdajdpgnhjlbaaaDoorLeaseTab
import Derived.Test.YtdajdpgnhjlbaaaDoorLeaseHex
import Derived.Test.YtdajdpgnhjlbaaaDoorLeaseLin
import Derived.Test.YtdajdpgnhjlbaaaDoorLeaseS1
set_option linter.unusedVariables false
set_option linter.unusedSimpArgs false
namespace Go.Proofs.YtdajdpgnhjlbaaaDoor.PLease
open Go.RowKit Go.Proofs.YtdajdpgnhjlbaaaDoorW.PrintWords Go.Proofs.YtdajdpgnhjlbaaaDoorW.PrintLast Go.Proofs.YtdajdpgnhjlbaaaDoorW.PrintMore

/-! ### boarderref01.Right -/
theorem boarderref01_Right_s (a : Int) : boarderref01_Right.f a = some (decide (0 ≤ a ∧ a ≤ 4294967295)) := by
  unfold boarderref01_Right.f
  by_cases h : a ≥ 0
  · rw [if_pos h]; congr 1; exact decide_eq_decide.2 ⟨fun h2 => ⟨h, by omega⟩, fun h2 => by omega⟩
  · rw [if_neg h, decide_eq_false (by omega)]

/-! ### boarderref07.Right -/
theorem boarderref07_Right_s (s : ByteArray) : boarderref07_Right.f s = some (keyB s) := by
  unfold boarderref07_Right.f keyB
  by_cases h0 : (s.size : Int) < 3
  · rw [if_pos h0, decide_eq_false (show ¬ 3 ≤ s.size by omega)]; rfl
  · rw [if_neg h0, if_pos (by omega), decide_eq_true (show 3 ≤ s.size by omega), Bool.true_and]
    by_cases h1 : bt s 0 = 105
    · rw [if_pos h1]
      by_cases h2 : (s.size : Int) ≤ 256
      · rw [if_pos h2, decide_eq_true (show bt s 0 = 105 ∧ s.size ≤ 256 from ⟨h1, by omega⟩)]; rfl
      · rw [if_neg h2, if_neg (by omega), decide_eq_false (by omega), decide_eq_false (by omega)]; rfl
    · rw [if_neg h1, decide_eq_false (show ¬ (bt s 0 = 105 ∧ s.size ≤ 256) from fun h => h1 h.1), Bool.false_or]
      by_cases h3 : bt s 0 = 104
      · rw [if_pos h3]
        congr 1
        exact decide_eq_decide.2 ⟨fun h => ⟨h3, by omega⟩, fun h => by omega⟩
      · rw [if_neg h3, decide_eq_false (fun h => h3 h.1)]

/-! ### boarderref09.Right -/
theorem boarderref09_Right_s (l : Le) : boarderref09_Right.f l.f0 l.f1 l.f2 l.f3 = some (leaseB l) := by
  unfold boarderref09_Right.f leaseB
  rw [boarderref01_Right_s, boarderref07_Right_s]
  simp only [Option.bind_some]
  by_cases h0 : 0 ≤ l.f0 ∧ l.f0 ≤ 4294967295
  · rw [decide_eq_true h0, if_pos rfl]
    cases hk : keyB l.f3 with
    | false => rw [if_neg (by simp), Bool.and_false]
    | true =>
      rw [if_pos rfl, Bool.and_true]
      have fin : (if l.f2 ≥ 0 then (some (decide (l.f2 ≤ 1125899906842624))) else (some false)) = some (decide (0 ≤ l.f2 ∧ l.f2 ≤ 1125899906842624)) := by
        by_cases h3 : l.f2 ≥ 0
        · rw [if_pos h3]; congr 1; exact decide_eq_decide.2 ⟨fun h => ⟨h3, h⟩, fun h => h.2⟩
        · rw [if_neg h3, decide_eq_false (fun h => h3 h.1)]
      rw [fin]
      by_cases c1 : l.f1 = 1
      · rw [if_pos c1]; congr 1; exact decide_eq_decide.2 ⟨fun h => ⟨h0.1, h0.2, by omega, by omega, h.1, h.2⟩, fun h => ⟨h.2.2.2.2.1, h.2.2.2.2.2⟩⟩
      · rw [if_neg c1]
        by_cases c2 : l.f1 = 2
        · rw [if_pos c2]; congr 1; exact decide_eq_decide.2 ⟨fun h => ⟨h0.1, h0.2, by omega, by omega, h.1, h.2⟩, fun h => ⟨h.2.2.2.2.1, h.2.2.2.2.2⟩⟩
        · rw [if_neg c2]
          by_cases c3 : l.f1 = 3
          · rw [if_pos c3]; congr 1; exact decide_eq_decide.2 ⟨fun h => ⟨h0.1, h0.2, by omega, by omega, h.1, h.2⟩, fun h => ⟨h.2.2.2.2.1, h.2.2.2.2.2⟩⟩
          · rw [if_neg c3, decide_eq_false (by omega)]
  · rw [decide_eq_false h0, if_neg (by simp), decide_eq_false (fun h => h0 ⟨h.1, h.2.1⟩)]; rfl

/-! ### boarderref01.decimal -/
theorem boarderref01_decimal_s (n : Nat) (hn : n ≤ 4611686018427387903) : ∀ k : Nat, n + 1 < k → boarderref01_decimal.f k n = some (strOfNums (Com.decI n)) := by
  induction n using Nat.strongRecOn with
  | _ n ih =>
    intro k hk
    obtain ⟨k, rfl⟩ : ∃ m, k = m + 1 := ⟨k - 1, by omega⟩
    have hlen := Com.decI_len n
    rw [boarderref01_decimal.f]
    by_cases h : n < 10
    · rw [Com.decI_small h, if_pos (by omega), show wrap64 (48 + (n : Int)) % 256 = 48 + n from by unfold wrap64; omega]
    · have e2 : wrap64 (Int.tdiv (n : Int) 10) = ((n / 10 : Nat) : Int) := by rw [Int.tdiv_eq_ediv_of_nonneg (by omega)]; unfold wrap64; omega
      have e3 : Int.tmod (n : Int) 10 = ((n % 10 : Nat) : Int) := by rw [Int.tmod_eq_emod_of_nonneg (by omega)]; omega
      rw [if_neg (by omega), e2, e3, ih (n / 10) (by omega) (by omega) k (by omega), ih (n % 10) (by omega) (by omega) k (by omega)]
      simp only [Option.bind_some]
      rw [Com.decI_big h] at hlen ⊢
      rw [List.length_append] at hlen
      rw [strOfNums_size, strOfNums_size, Com.decI_small (n := n % 10) (by omega), if_pos (by simp at hlen ⊢; omega)]
      congr 1
      exact (Com.strOfNums_append _ _).symm

/-! ### boarderref01.Text -/
theorem boarderref01_Text_s (a : Nat) (ha : a < 4294967296) (k : Nat) (hk : 300 ≤ k) : ∃ s, boarderref01_Text.f k a = some s ∧ s.toList = Com.textB a := by
  have g3 : Com.b3 a ≤ 255 := by unfold Com.b3; omega
  have g2 : Com.b2 a ≤ 255 := by unfold Com.b2; omega
  have g1 : Com.b1 a ≤ 255 := by unfold Com.b1; omega
  have g0 : Com.b0 a ≤ 255 := by unfold Com.b0; omega
  have l3 := Com.decI_len (Com.b3 a)
  have l2 := Com.decI_len (Com.b2 a)
  have l1 := Com.decI_len (Com.b1 a)
  have l0 := Com.decI_len (Com.b0 a)
  have e3 : wrap64 (Int.tdiv (a : Int) 16777216) = (Com.b3 a : Int) := by rw [Int.tdiv_eq_ediv_of_nonneg (by omega)]; unfold wrap64 Com.b3; omega
  have e2 : Int.tmod (wrap64 (Int.tdiv (a : Int) 65536)) 256 = (Com.b2 a : Int) := by
    rw [Int.tdiv_eq_ediv_of_nonneg (by omega), show wrap64 ((a : Int) / 65536) = (a : Int) / 65536 from by unfold wrap64; omega, Int.tmod_eq_emod_of_nonneg (by omega)]; unfold Com.b2; omega
  have e1 : Int.tmod (wrap64 (Int.tdiv (a : Int) 256)) 256 = (Com.b1 a : Int) := by
    rw [Int.tdiv_eq_ediv_of_nonneg (by omega), show wrap64 ((a : Int) / 256) = (a : Int) / 256 from by unfold wrap64; omega, Int.tmod_eq_emod_of_nonneg (by omega)]; unfold Com.b1; omega
  have e0 : Int.tmod (a : Int) 256 = (Com.b0 a : Int) := by rw [Int.tmod_eq_emod_of_nonneg (by omega)]; unfold Com.b0; omega
  unfold boarderref01_Text.f
  rw [e3, e2, e1, e0]
  clear e3 e2 e1 e0
  rw [boarderref01_decimal_s (Com.b3 a) (by omega) k (by omega), boarderref01_decimal_s (Com.b2 a) (by omega) k (by omega), boarderref01_decimal_s (Com.b1 a) (by omega) k (by omega), boarderref01_decimal_s (Com.b0 a) (by omega) k (by omega)]
  have z3 := strOfNums_size (Com.decI (Com.b3 a))
  have z2 := strOfNums_size (Com.decI (Com.b2 a))
  have z1 := strOfNums_size (Com.decI (Com.b1 a))
  have z0 := strOfNums_size (Com.decI (Com.b0 a))
  have t3 := Com.strOfNums_toList (Com.decI (Com.b3 a))
  have t2 := Com.strOfNums_toList (Com.decI (Com.b2 a))
  have t1 := Com.strOfNums_toList (Com.decI (Com.b1 a))
  have t0 := Com.strOfNums_toList (Com.decI (Com.b0 a))
  have hf : Com.textB a = Com.bys (Com.decI (Com.b3 a)) ++ 46 :: (Com.bys (Com.decI (Com.b2 a)) ++ 46 :: (Com.bys (Com.decI (Com.b1 a)) ++ 46 :: Com.bys (Com.decI (Com.b0 a)))) := by
    unfold Com.textB Com.textI
    simp [Com.bys_append, Com.bys_cons]
  rw [hf, ← t3, ← t2, ← t1, ← t0]
  clear hf t3 t2 t1 t0
  generalize strOfNums (Com.decI (Com.b3 a)) = s3 at *
  generalize strOfNums (Com.decI (Com.b2 a)) = s2 at *
  generalize strOfNums (Com.decI (Com.b1 a)) = s1 at *
  generalize strOfNums (Com.decI (Com.b0 a)) = s0 at *
  have hd : (⟨#[46]⟩ : ByteArray).size = 1 := rfl
  have hl : (⟨#[46]⟩ : ByteArray).toList = [46] := by rw [ByteArray.toList_eq]
  generalize (⟨#[46]⟩ : ByteArray) = dot at *
  have q1 : (s3 ++ dot).size = s3.size + 1 := by rw [ByteArray.size_append, hd]
  have q2 : (s3 ++ dot ++ s2).size = s3.size + 1 + s2.size := by rw [ByteArray.size_append, q1]
  have q3 : (s3 ++ dot ++ s2 ++ dot).size = s3.size + 1 + s2.size + 1 := by rw [ByteArray.size_append, q2, hd]
  have q4 : (s3 ++ dot ++ s2 ++ dot ++ s1).size = s3.size + 1 + s2.size + 1 + s1.size := by rw [ByteArray.size_append, q3]
  have q5 : (s3 ++ dot ++ s2 ++ dot ++ s1 ++ dot).size = s3.size + 1 + s2.size + 1 + s1.size + 1 := by rw [ByteArray.size_append, q4, hd]
  refine ⟨s3 ++ dot ++ s2 ++ dot ++ s1 ++ dot ++ s0, ?_, ?_⟩
  · simp only [Option.bind_some]
    rw [if_pos (by omega), if_pos (by omega), if_pos (by omega), if_pos (by omega), if_pos (by omega), if_pos (by omega)]
  · simp [Com.toList_append, hl]

/-! ### boarderref24.word -/
theorem boarderref24_word_s (st : Int) : boarderref24_word.f st = some (strOfNums (wordL st)) := by
  unfold boarderref24_word.f wordL
  split
  · rfl
  · split <;> rfl

/-! ### boarderref23.Num -/
theorem boarderref23_Num_s (n : Nat) (hn : n ≤ 4611686018427387903) : ∀ k : Nat, n + 1 < k → boarderref23_Num.f k n = some (strOfNums (Com.decI n)) := by
  induction n using Nat.strongRecOn with
  | _ n ih =>
    intro k hk
    obtain ⟨k, rfl⟩ : ∃ m, k = m + 1 := ⟨k - 1, by omega⟩
    have hlen := Com.decI_len n
    rw [boarderref23_Num.f]
    by_cases h : n < 10
    · rw [Com.decI_small h, if_pos (by omega), show wrap64 (48 + (n : Int)) % 256 = 48 + n from by unfold wrap64; omega]
    · have e2 : wrap64 (Int.tdiv (n : Int) 10) = ((n / 10 : Nat) : Int) := by rw [Int.tdiv_eq_ediv_of_nonneg (by omega)]; unfold wrap64; omega
      have e3 : Int.tmod (n : Int) 10 = ((n % 10 : Nat) : Int) := by rw [Int.tmod_eq_emod_of_nonneg (by omega)]; omega
      rw [if_neg (by omega), e2, e3, ih (n / 10) (by omega) (by omega) k (by omega), ih (n % 10) (by omega) (by omega) k (by omega)]
      simp only [Option.bind_some]
      rw [Com.decI_big h] at hlen ⊢
      rw [List.length_append] at hlen
      rw [strOfNums_size, strOfNums_size, Com.decI_small (n := n % 10) (by omega), if_pos (by simp at hlen ⊢; omega)]
      congr 1
      exact (Com.strOfNums_append _ _).symm

/-! ### boarderref07.hex -/
theorem boarderref07_hex_s (n : Int) (h0 : 0 ≤ n) (h1 : n < 16) : boarderref07_hex.f n = some (hx n) := by
  unfold boarderref07_hex.f hx
  by_cases c : n < 10
  · rw [if_pos c, if_pos c, show (48 + n) % 256 = 48 + n by omega]
  · rw [if_neg c, if_neg c, show (87 + n) % 256 = 87 + n by omega]

/-! ### boarderref07.Text -/
theorem hexdiv {b : Int} (hb : 0 ≤ b ∧ b ≤ 255) : Int.tdiv b 16 % 256 = b / 16 ∧ Int.tmod b 16 = b % 16 := ⟨by rw [Int.tdiv_eq_ediv_of_nonneg hb.1]; omega, Int.tmod_eq_emod_of_nonneg hb.1⟩
theorem boarderref07_Text_loop (s : ByteArray) (hs : s.size ≤ 100000) : ∀ (d i : Nat) (acc : List Int), i + d = s.size → acc.length + 2 * d ≤ 1000000 → Ev (fun k => boarderref07_Text.l0 k s acc (i : Int)) (strOfNums (acc ++ hexL ((bytesOf s).drop i))) := by
  have hL := bytesOf_length s
  intro d
  induction d with
  | zero =>
    intro i acc hi ha
    refine Ev.step (f := fun _ => some (strOfNums acc)) (fun k => ?_) (Ev.eqv Ev.some' ?_)
    · show boarderref07_Text.l0 (k + 1) _ _ _ = _
      rw [boarderref07_Text.l0, if_neg (by omega)]
    · rw [show (bytesOf s).drop i = [] from List.drop_eq_nil_of_le (by omega), hexL, List.append_nil]
  | succ d ih =>
    intro i acc hi ha
    have hb := bytesOf_by s _ (List.getElem_mem (show i < (bytesOf s).length by omega))
    have g1 : bt s (i : Int) = (bytesOf s)[i]'(by omega) := bt_get (by omega)
    have hd : (bytesOf s).drop i = (bytesOf s)[i]'(by omega) :: (bytesOf s).drop (i + 1) := List.drop_eq_getElem_cons (by omega)
    rw [hd, hexL]
    generalize (bytesOf s)[i]'(by omega) = b at *
    have w1 : wrap64 ((i : Int) + 1) = ((i + 1 : Nat) : Int) := wrap_next (n := s.size) (by omega) (by omega)
    refine Ev.step (f := fun k => boarderref07_Text.l0 k s (acc ++ [hx (b / 16), hx (b % 16)]) ((i + 1 : Nat) : Int)) (fun k => ?_) (Ev.eqv (ih (i + 1) (acc ++ [hx (b / 16), hx (b % 16)]) (by omega) (by simp only [List.length_append, List.length_cons, List.length_nil]; omega)) (by simp))
    show boarderref07_Text.l0 (k + 1) _ _ _ = _
    rw [boarderref07_Text.l0, if_pos (by omega), if_pos (by omega), g1, (hexdiv hb).1, (hexdiv hb).2, boarderref07_hex_s _ (by omega) (by omega), Option.bind_some, boarderref07_hex_s _ (by omega) (by omega), Option.bind_some, Option.bind_some, if_pos (show acc.length + ([hx (b / 16), hx (b % 16)] : List Int).length < 140737488355328 by simp only [List.length_cons, List.length_nil]; omega), w1]
theorem boarderref07_Text_s (s : ByteArray) (h0 : 0 < s.size) (hs : s.size ≤ 100000) : Ev (fun k => boarderref07_Text.f k s) (strOfNums (textL (bytesOf s))) := by
  have hL := bytesOf_length s
  have g0 : bt s 0 = (bytesOf s)[0]'(by omega) := bt_get (i := 0) (by omega)
  refine Ev.congr (f := fun k => boarderref07_Text.l0 k s [bt s 0, 45] ((1 : Nat) : Int)) (fun k => by unfold boarderref07_Text.f; rw [if_pos (by omega)]; rfl) (Ev.eqv (boarderref07_Text_loop s hs (s.size - 1) 1 [bt s 0, 45] (by omega) (by simp only [List.length_cons, List.length_nil]; omega)) ?_)
  clear g0
  rw [bt_head]
  generalize bytesOf s = L at hL ⊢
  cases L with
  | nil => simp at hL; omega
  | cons c l => rfl

/-! ### boarderref24.Line -/
theorem boarderref24_Line_s (l : Le) (hl : leaseB l = true) : Ev (fun k => boarderref24_Line.f k l.f0 l.f1 l.f2 l.f3) (strOfNums (lineL l)) := by
  obtain ⟨a1, a2, s1, s3, e1, e2, hk⟩ := leaseB_of hl
  have ha : l.f0 = ((l.f0.toNat : Nat) : Int) := by omega
  have he : l.f2 = ((l.f2.toNat : Nat) : Int) := by omega
  have hT := textI_len l.f0.toNat
  have hW := wordL_len l.f1
  have hD := decI_len16 l.f2.toNat (by omega)
  have hkl := bytesOf_length l.f3
  have hks : 3 ≤ l.f3.size ∧ l.f3.size ≤ 256 := by
    unfold keyB at hk
    simp only [Bool.and_eq_true, Bool.or_eq_true, decide_eq_true_iff] at hk
    omega
  have hkt := textL_len (L := bytesOf l.f3) (fun e => by rw [e] at hkl; simp at hkl; omega)
  unfold boarderref24_Line.f
  refine Ev.bind (a := strOfNums (Com.textI l.f0.toNat)) ⟨300, fun k hk => by
    obtain ⟨s, h1, h2⟩ := boarderref01_Text_s l.f0.toNat (by omega) k hk
    rw [← ha] at h1
    show boarderref01_Text.f k l.f0 = _
    rw [h1]
    congr 1
    have : s.toList = (strOfNums (Com.textI l.f0.toNat)).toList := by rw [h2, toList_str]; rfl
    rw [ByteArray.toList_eq, ByteArray.toList_eq] at this
    cases s
    simp only at this
    exact congrArg ByteArray.mk (Array.toList_inj.1 this)⟩ ?_
  simp only [boarderref24_word_s, Option.bind_some, sp_str, ← Com.strOfNums_append, str_size, List.length_append, List.length_singleton]
  refine Ev.pos (by omega) (Ev.pos (by omega) (Ev.pos (by omega) (Ev.bind (a := strOfNums (Com.decI l.f2.toNat)) ⟨l.f2.toNat + 2, fun k hk => by have h := boarderref23_Num_s l.f2.toNat (by omega) k (by omega); rw [← he] at h; exact h⟩ ?_)))
  simp only [← Com.strOfNums_append, str_size, List.length_append, List.length_singleton]
  refine Ev.pos (by omega) (Ev.pos (by omega) (Ev.bind (boarderref07_Text_s l.f3 (by omega) (by omega)) ?_))
  simp only [← Com.strOfNums_append, str_size, List.length_append, List.length_singleton]
  refine Ev.pos (by omega) (Ev.eqv Ev.some' ?_)
  congr 1
  unfold lineL
  simp [List.append_assoc]

/-! ### boarderref12.Right -/
open Classical in
theorem boarderref12_Right_l (t : List Le) (ht : t.length ≤ maxLen) (d : Nat) : ∀ (i : Nat) (k : Nat), i + d = t.length → d < k →
    boarderref12_Right.l0 k t i = some (decide (∀ j, i ≤ j → j < t.length → leaseB (atL t j) = true ∧ (j + 1 < t.length → (atL t j).f0 < (atL t (j + 1)).f0))) := by
  simp only [maxLen] at ht
  induction d with
  | zero =>
    intro i k hi hk
    obtain ⟨k, rfl⟩ : ∃ m, k = m + 1 := ⟨k - 1, by omega⟩
    rw [boarderref12_Right.l0, if_neg (by omega), decide_eq_true (fun j a b => by omega)]
  | succ d ih =>
    intro i k hi hkk
    obtain ⟨k, rfl⟩ : ∃ m, k = m + 1 := ⟨k - 1, by omega⟩
    have hw : wrap64 ((i : Int) + 1) = ((i + 1 : Nat) : Int) := by unfold wrap64; omega
    have ihh := ih (i + 1) k (by omega) (by omega)
    rw [boarderref12_Right.l0, if_pos (by omega), if_pos (by omega), show rd_T23 t (i : Int) = atL t i from rfl, boarderref09_Right_s, hw]
    simp only [Option.bind_some]
    by_cases h : leaseB (atL t i) = true
    · rw [if_pos h]
      by_cases h0 : ((i + 1 : Nat) : Int) < (t.length : Int)
      · rw [if_pos h0, if_pos (by omega), show rd_T23 t ((i + 1 : Nat) : Int) = atL t (i + 1) from rfl]
        by_cases h1 : (atL t (i + 1)).f0 ≤ (atL t i).f0
        · rw [if_pos h1, decide_eq_false]
          intro h2
          have := (h2 i (by omega) (by omega)).2 (by omega)
          omega
        · rw [if_neg h1, ihh]
          congr 1
          refine decide_eq_decide.2 ⟨fun h2 j a b => ?_, fun h2 j a b => h2 j (by omega) b⟩
          rcases Nat.eq_or_lt_of_le a with c | c
          · subst c; exact ⟨h, fun _ => by omega⟩
          · exact h2 j (by omega) b
      · rw [if_neg h0, ihh]
        congr 1
        refine decide_eq_decide.2 ⟨fun h2 j a b => ?_, fun h2 j a b => h2 j (by omega) b⟩
        rcases Nat.eq_or_lt_of_le a with c | c
        · subst c; exact ⟨h, fun _ => by omega⟩
        · exact h2 j (by omega) b
    · rw [if_neg h, decide_eq_false]
      intro h2
      exact h (h2 i (by omega) (by omega)).1
theorem boarderref12_Right_s (t : List Le) (ht : t.length ≤ maxLen) (k : Nat) (hk : t.length < k) : boarderref12_Right.f k t = some (decide (Tab t)) := by
  unfold boarderref12_Right.f
  by_cases c : (t.length : Int) > 64
  · rw [if_pos c, decide_eq_false (fun h => by have := h.1; omega)]
  · have e := boarderref12_Right_l t ht t.length 0 k (by omega) hk
    rw [if_neg c, show boarderref12_Right.l0 k t 0 = boarderref12_Right.l0 k t ((0 : Nat) : Int) from rfl, e]
    congr 1
    refine decide_eq_decide.2 ?_
    rw [tab_iff2]
    exact ⟨fun h => ⟨by omega, fun j b => h j (by omega) b⟩, fun h j _ b => h.2 j b⟩

/-! ### boarderref10.SameLeases -/
theorem boarderref10_SameLeases_l (t : List Le) (ht : t.length ≤ maxLen) (d : Nat) : ∀ (i : Nat) (k : Nat), i + d = t.length → d < k → boarderref10_SameLeases.l0 k t t i = some true := by
  simp only [maxLen] at ht
  induction d with
  | zero =>
    intro i k hi hk
    obtain ⟨k, rfl⟩ : ∃ m, k = m + 1 := ⟨k - 1, by omega⟩
    rw [boarderref10_SameLeases.l0, if_neg (by omega)]
  | succ d ih =>
    intro i k hi hkk
    obtain ⟨k, rfl⟩ : ∃ m, k = m + 1 := ⟨k - 1, by omega⟩
    have hw : wrap64 ((i : Int) + 1) = ((i + 1 : Nat) : Int) := by unfold wrap64; omega
    rw [boarderref10_SameLeases.l0, if_pos (by omega), if_pos (by omega), if_pos (by omega), if_neg (by simp), hw]
    exact ih (i + 1) k (by omega) (by omega)
theorem boarderref10_SameLeases_s (t : List Le) (ht : t.length ≤ maxLen) (k : Nat) (hk : t.length < k) : boarderref10_SameLeases.f k t t = some true := by
  unfold boarderref10_SameLeases.f
  rw [if_pos rfl]
  exact boarderref10_SameLeases_l t ht t.length 0 k (by omega) hk

/-! ### boarderref23.Words -/
theorem boarderref23_Words_l (s : ByteArray) (hs : s.size ≤ 100000000) : ∀ (d i f : Nat) (acc : List ByteArray), i + d = s.size → f ≤ i → (32 : Int) ∉ ((bytesOf s).take i).drop f → acc.length ≤ i → Ev (fun k => boarderref23_Words.l0 k s acc (f : Int) (i : Int)) (acc ++ (splitL 32 ((bytesOf s).drop f)).map strOfNums) := by
  have hL := bytesOf_length s
  have hc : ∀ f i : Nat, s.extract f i = strOfNums (((bytesOf s).take i).drop f) := fun f i => by rw [← bytes_cut2, str_bytes]
  intro d
  induction d with
  | zero =>
    intro i f acc hi hf hn ha
    obtain rfl : i = s.size := by omega
    have hw : wrap64 ((s.size : Int) + 1) = ((s.size + 1 : Nat) : Int) := by unfold wrap64; omega
    rw [← hL, seg_end] at hn
    refine Ev.step (f := fun k => boarderref23_Words.l0 k s (acc ++ [s.extract f s.size]) ((s.size + 1 : Nat) : Int) ((s.size + 1 : Nat) : Int)) (fun k => ?_) (Ev.step (f := fun _ => some (acc ++ [s.extract f s.size])) (fun k => ?_) ?_)
    · show boarderref23_Words.l0 (k + 1) _ _ _ _ = _
      rw [boarderref23_Words.l0, if_pos (by omega), if_pos (by omega), if_pos (by omega), if_pos (by omega), if_pos (by omega), hw]
      rfl
    · show boarderref23_Words.l0 (k + 1) _ _ _ _ = _
      rw [boarderref23_Words.l0, if_neg (by omega)]
    · rw [split_word hn, hc, ← hL, seg_end]
      exact Ev.some'
  | succ d ih =>
    intro i f acc hi hf hn ha
    have hw : wrap64 ((i : Int) + 1) = ((i + 1 : Nat) : Int) := by unfold wrap64; omega
    have hg : bt s (i : Int) = (bytesOf s)[i]'(by omega) := bt_get (by omega)
    refine Ev.step (f := fun k => if (bytesOf s)[i]'(by omega) = 32 then boarderref23_Words.l0 k s (acc ++ [s.extract f i]) ((i + 1 : Nat) : Int) ((i + 1 : Nat) : Int) else boarderref23_Words.l0 k s acc (f : Int) ((i + 1 : Nat) : Int)) (fun k => ?_) ?_
    · show boarderref23_Words.l0 (k + 1) _ _ _ _ = _
      rw [boarderref23_Words.l0, if_pos (by omega), if_neg (by omega), if_pos (by omega), if_pos (by omega), hg, hw]
      by_cases h : (bytesOf s)[i]'(by omega) = 32
      · rw [if_pos h, if_pos h, if_pos (by omega), if_pos (by omega), if_pos (by omega)]
        rfl
      · rw [if_neg h, if_neg h]
    · by_cases h : (bytesOf s)[i]'(by omega) = 32
      · refine Ev.pos h (Ev.eqv (ih (i + 1) (i + 1) (acc ++ [s.extract f i]) (by omega) (Nat.le_refl _) (by rw [List.drop_eq_nil_of_le (by rw [List.length_take]; omega)]; simp) (by rw [List.length_append]; simp; omega)) ?_)
        rw [seg_drop (L := bytesOf s) hf (by omega), h, split_cons _ hn, List.append_assoc, hc]
        rfl
      · refine Ev.neg h (ih (i + 1) f acc (by omega) (by omega) ?_ (by omega))
        rw [seg_step (L := bytesOf s) hf (by omega)]
        intro m
        rcases List.mem_append.1 m with m | m
        · exact hn m
        · exact h (List.mem_singleton.1 m).symm
theorem boarderref23_Words_s (s : ByteArray) (hs : s.size ≤ 100000000) : Ev (fun k => boarderref23_Words.f k s) ((splitL 32 (bytesOf s)).map strOfNums) := by
  have e := boarderref23_Words_l s hs s.size 0 0 [] (by omega) (Nat.le_refl _) (by simp) (by simp)
  rw [List.nil_append, List.drop_zero] at e
  exact e

/-! ### boarderref01.Parse -/
/-- What the document's reading does, over what is left: the address, the part. -/
def rp : List UInt8 → Int → Int → Option Int
  | [], a, p => some (a * 256 + p)
  | c :: cs, a, p =>
    if (c.toNat : Int) = 46 then (if a * 256 + p > 16777215 then none else rp cs (a * 256 + p) 0)
    else if (c.toNat : Int) < 48 ∨ 57 < (c.toNat : Int) then none
    else if p * 10 + c.toNat - 48 > 255 then none
    else if a > 16777215 then none else rp cs a (p * 10 + c.toNat - 48)
theorem rp_bound : ∀ (s : List UInt8) (a p r : Int), 0 ≤ a → a ≤ 16777215 → 0 ≤ p → p ≤ 255 → rp s a p = some r → 0 ≤ r ∧ r ≤ 4294967295 := by
  intro s
  induction s with
  | nil => intro a p r h0 h1 h2 h3 h; rw [rp] at h; have := Option.some.inj h; omega
  | cons c cs ih =>
    intro a p r h0 h1 h2 h3 h
    rw [rp] at h
    by_cases c1 : (c.toNat : Int) = 46
    · rw [if_pos c1] at h
      by_cases c2 : a * 256 + p > 16777215
      · rw [if_pos c2] at h; exact absurd h (by simp)
      · rw [if_neg c2] at h; exact ih _ _ r (by omega) (by omega) (by omega) (by omega) h
    · rw [if_neg c1] at h
      by_cases c2 : (c.toNat : Int) < 48 ∨ 57 < (c.toNat : Int)
      · rw [if_pos c2] at h; exact absurd h (by simp)
      · rw [if_neg c2] at h
        by_cases c3 : p * 10 + c.toNat - 48 > 255
        · rw [if_pos c3] at h; exact absurd h (by simp)
        · rw [if_neg c3, if_neg (by omega)] at h
          exact ih _ _ r (by omega) (by omega) (by omega) (by omega) h
/-- What the program reads is what the document's reading comes to. -/
theorem rp_of_go : ∀ (s : List UInt8) (a p m q r : Int), 0 ≤ a → a ≤ 16777215 → 0 ≤ p → p ≤ 255 → Com.AInv a p m q → Com.addrGo s a p m q = (r, 0) → rp s a p = some r := by
  intro s
  induction s with
  | nil =>
    intro a p m q r h0 h1 h2 h3 hi h
    rw [Com.addrGo_nil] at h
    by_cases c : q = 3 ∧ 0 < m
    · rw [if_pos c] at h; rw [rp]; simp at h; rw [h]
    · rw [if_neg c] at h; simp at h
  | cons c cs ih =>
    intro a p m q r h0 h1 h2 h3 hi h
    have hi' := hi
    unfold Com.AInv at hi
    rw [Com.addrGo_cons] at h
    rw [rp]
    by_cases c1 : (c.toNat : Int) = 46 ∧ 0 < m ∧ q < 3
    · rw [if_pos c1] at h
      rw [if_pos c1.1, if_neg (by omega)]
      exact ih _ _ _ _ r (by omega) (by omega) (by omega) (by omega) (by unfold Com.AInv; omega) h
    · rw [if_neg c1] at h
      by_cases c2 : 48 ≤ (c.toNat : Int) ∧ (c.toNat : Int) ≤ 57 ∧ (m = 0 ∨ 0 < p) ∧ p * 10 + ((c.toNat : Int) - 48) ≤ 255
      · rw [if_pos c2] at h
        rw [if_neg (by omega), if_neg (by omega), if_neg (by omega), if_neg (by omega), show p * 10 + (c.toNat : Int) - 48 = p * 10 + ((c.toNat : Int) - 48) from by omega]
        exact ih _ _ _ _ r (by omega) (by omega) (by omega) (by omega) (by unfold Com.AInv; omega) h
      · rw [if_neg c2] at h; simp at h
/-- What the document's reading answers. -/
def rpAns (s : List UInt8) (o : Option Int) : Int × Bool := match o with | none => (0, false) | some r => if Com.textB r.toNat = s then (r, true) else (0, false)
theorem boarderref01_Parse_l (s : ByteArray) (hs : s.size ≤ 140737488351232) (d : Nat) : ∀ (pos : Nat) (a p : Int) (k : Nat), pos + d = s.size → 0 ≤ a → a ≤ 16777215 → 0 ≤ p → p ≤ 255 → 2 * d + 301 ≤ k →
    boarderref01_Parse.l0 k s a p pos = some (rpAns s.toList (rp (s.toList.drop pos) a p)) := by
  induction d with
  | zero =>
    intro pos a p k hp h0 h1 h2 h3 hk
    obtain ⟨k, rfl⟩ : ∃ m, k = m + 1 := ⟨k - 1, by omega⟩
    rw [boarderref01_Parse.l0, if_neg (by omega), show wrap64 (wrap64 (a * 256) + p) = a * 256 + p from by unfold wrap64; omega, List.drop_eq_nil_of_le (by rw [ByteArray.toList_eq]; have : s.data.toList.length = s.size := rfl; omega), rp]
    obtain ⟨x, hx⟩ := Int.eq_ofNat_of_zero_le (show 0 ≤ a * 256 + p by omega)
    rw [hx]
    obtain ⟨t, ht, ht2⟩ := boarderref01_Text_s x (by omega) k (by omega)
    rw [ht, Option.bind_some, ht2]
    unfold rpAns
    simp only [Int.toNat_natCast]
    split <;> rfl
  | succ d ih =>
    intro pos a p k hp h0 h1 h2 h3 hk
    obtain ⟨k, rfl⟩ : ∃ m, k = m + 1 + 1 := ⟨k - 2, by omega⟩
    have hlt : pos < s.size := by omega
    have hc : bt s pos = ((s[pos]'hlt).toNat : Int) := (bt_at s pos (by simpa using hlt)).symm
    have hd : s.toList.drop pos = (s[pos]'hlt) :: s.toList.drop (pos + 1) := by
      rw [ByteArray.toList_eq, List.drop_eq_getElem_cons (by simpa using hlt)]; rfl
    rw [boarderref01_Parse.l0, if_pos (by omega), if_pos (by omega), hd, rp, hc]
    have hw : wrap64 ((pos : Int) + 1) = ((pos + 1 : Nat) : Int) := by unfold wrap64; omega
    have hcc := (s[pos]'hlt).toNat_lt
    generalize (s[pos]'hlt) = c at *
    have j1 : ∀ k x, boarderref01_Parse.j1 (k + 1) s a p pos x = if x = true then (some (0, false)) else (if 0 ≤ (pos : Int) then (if (pos : Int) < (s.size : Int) then (if (wrap64 ((wrap64 ((wrap64 (p * 10)) + (wrap64 (bt s pos)))) - 48)) > 255 then (some (0, false)) else (if a > 16777215 then (some (0, false)) else (boarderref01_Parse.l0 k s a (wrap64 ((wrap64 ((wrap64 (p * 10)) + (wrap64 (bt s pos)))) - 48)) (wrap64 (pos + 1))))) else (none)) else (none)) := fun k x => by rw [boarderref01_Parse.j1]
    by_cases c1 : (c.toNat : Int) = 46
    · rw [if_pos c1, if_pos c1, if_neg (by omega), show wrap64 (wrap64 (a * 256) + p) = a * 256 + p from by unfold wrap64; omega]
      by_cases c2 : a * 256 + p > 16777215
      · rw [if_pos c2, if_pos c2]; rfl
      · rw [if_neg c2, if_neg c2, hw]
        exact ih (pos + 1) _ 0 (k + 1) (by omega) (by omega) (by omega) (by omega) (by omega) (by omega)
    · rw [if_neg c1, if_neg c1]
      by_cases c2 : (c.toNat : Int) < 48 ∨ 57 < (c.toNat : Int)
      · rw [if_pos c2]
        by_cases c3 : (c.toNat : Int) < 48
        · rw [if_pos c3, j1, if_pos rfl]; rfl
        · rw [if_neg c3, j1, if_pos (decide_eq_true (by omega))]; rfl
      · rw [if_neg (by omega), if_neg c2, j1, if_neg (by simp; omega), if_pos (by omega), if_pos (by omega), hc,
          show wrap64 (wrap64 (wrap64 (p * 10) + wrap64 (c.toNat : Int)) - 48) = p * 10 + c.toNat - 48 from by unfold wrap64; omega]
        by_cases c3 : p * 10 + c.toNat - 48 > 255
        · rw [if_pos c3, if_pos c3]; rfl
        · rw [if_neg c3, if_neg c3, if_neg (by omega), if_neg (by omega), hw]
          exact ih (pos + 1) _ _ k (by omega) (by omega) (by omega) (by omega) (by omega) (by omega)
/-- The document's reading: an address just of its text. -/
theorem boarderref01_Parse_s (s : ByteArray) (hs : s.size ≤ 140737488351232) (k : Nat) (hk : 2 * s.size + 301 ≤ k) :
    boarderref01_Parse.f k s = some (if (Com.addrGo s.toList 0 0 0 0).2 = 0 then ((Com.addrGo s.toList 0 0 0 0).1, true) else (0, false)) := by
  unfold boarderref01_Parse.f
  have e := boarderref01_Parse_l s hs s.size 0 0 0 k (by omega) (by omega) (by omega) (by omega) (by omega) hk
  rw [show boarderref01_Parse.l0 k s 0 0 0 = boarderref01_Parse.l0 k s 0 0 ((0 : Nat) : Int) from rfl, e]
  simp only [List.drop_zero]
  congr 1
  rcases Com.addrGo_start s.toList with ⟨h, hn⟩ | ⟨r, hr, h, ht⟩
  · rw [h, if_neg (by simp)]
    unfold rpAns
    cases e : rp s.toList 0 0 with
    | none => rfl
    | some r =>
      have hb := rp_bound s.toList 0 0 r (by omega) (by omega) (by omega) (by omega) e
      show (if Com.textB r.toNat = s.toList then (r, true) else (0, false)) = _
      rw [if_neg (hn r.toNat (by omega))]
  · rw [h, if_pos rfl, rp_of_go s.toList 0 0 0 0 r (by omega) (by omega) (by omega) (by omega) (by unfold Com.AInv; omega) h]
    show (if Com.textB ((r : Int)).toNat = s.toList then ((r : Int), true) else (0, false)) = _
    rw [Int.toNat_natCast, if_pos ht.symm]

/-! ### boarderref07.value -/
theorem boarderref07_value_s (c : Int) : boarderref07_value.f c = some (vl c) := by
  unfold boarderref07_value.f vl
  split <;> rfl

/-! ### boarderref07.Parse -/
def parseQ (o : Option (List Int)) : ByteArray × Bool := match o with | some x => (strOfNums x, true) | none => ((⟨#[]⟩ : ByteArray), false)
theorem wrap_two {i : Nat} (h : i ≤ 1000000) : wrap64 ((i : Int) + 2) = ((i + 2 : Nat) : Int) := by unfold wrap64; omega
theorem mod_by (x : Int) : 0 ≤ x % 256 ∧ x % 256 ≤ 255 := by omega
theorem boarderref07_Parse_loop (s : ByteArray) (hs : s.size ≤ 100000) : ∀ (d i : Nat) (acc : List Int), i + 2 * d = s.size → By acc → acc.length + d ≤ 100000 → Ev (fun k => boarderref07_Parse.l0 k s acc (i : Int)) (parseQ (if keyL (acc ++ pairs ((bytesOf s).drop i)) = true ∧ textL (acc ++ pairs ((bytesOf s).drop i)) = bytesOf s then some (acc ++ pairs ((bytesOf s).drop i)) else none)) := by
  have hL := bytesOf_length s
  intro d
  induction d with
  | zero =>
    intro i acc hi hb ha
    rw [show (bytesOf s).drop i = [] from List.drop_eq_nil_of_le (by omega), show pairs ([] : List Int) = [] from rfl, List.append_nil]
    refine Ev.step (f := fun k => if keyL acc = true then ((boarderref07_Text.f k (strOfNums acc)).bind fun t251 => (if t251.toList = s.toList then (some (strOfNums acc, true)) else (some ((⟨#[]⟩ : ByteArray), false)))) else (some ((⟨#[]⟩ : ByteArray), false))) (fun k => ?_) ?_
    · show boarderref07_Parse.l0 (k + 1) _ _ _ = _
      rw [boarderref07_Parse.l0, if_neg (by omega), boarderref07_Right_s, keyB_str hb, Option.bind_some]
    · by_cases h : keyL acc = true
      · have hl := keyL_len h
        refine Ev.pos h (Ev.bind (boarderref07_Text_s (strOfNums acc) (by rw [str_size]; omega) (by rw [str_size]; omega)) (f := fun _ t => if t.toList = s.toList then (some (strOfNums acc, true)) else (some ((⟨#[]⟩ : ByteArray), false))) ?_)
        rw [bytes_str acc hb, toList_str, ← bys_bytesOf s]
        by_cases c : textL acc = bytesOf s
        · exact Ev.eqv (Ev.pos (by rw [c]) Ev.some') (by rw [if_pos ⟨h, c⟩]; rfl)
        · exact Ev.eqv (Ev.neg (fun h2 => c (bys_inj (textL_by _ hb) (bytesOf_by s) h2)) Ev.some') (by rw [if_neg (fun h2 => c h2.2)]; rfl)
      · exact Ev.eqv (Ev.neg h Ev.some') (by rw [if_neg (fun h2 => h h2.1)]; rfl)
  | succ d ih =>
    intro i acc hi hb ha
    have g1 : bt s (i : Int) = (bytesOf s)[i]'(by omega) := bt_get (by omega)
    have g2 : bt s ((i + 1 : Nat) : Int) = (bytesOf s)[i + 1]'(by omega) := bt_get (by omega)
    have w1 : wrap64 ((i : Int) + 1) = ((i + 1 : Nat) : Int) := wrap_next (n := s.size) (by omega) (by omega)
    have w2 : wrap64 ((i : Int) + 2) = ((i + 2 : Nat) : Int) := wrap_two (by omega)
    have hd : (bytesOf s).drop i = (bytesOf s)[i]'(by omega) :: (bytesOf s)[i + 1]'(by omega) :: (bytesOf s).drop (i + 2) := by
      rw [List.drop_eq_getElem_cons (by omega), List.drop_eq_getElem_cons (by omega)]
    rw [hd, pairs]
    generalize (bytesOf s)[i]'(by omega) = a at *
    generalize (bytesOf s)[i + 1]'(by omega) = b at *
    refine Ev.step (f := fun k => boarderref07_Parse.l0 k s (acc ++ [((vl a * 16) % 256 + vl b) % 256]) ((i + 2 : Nat) : Int)) (fun k => ?_) (Ev.eqv (ih (i + 2) (acc ++ [((vl a * 16) % 256 + vl b) % 256]) (by omega) (By.app.2 ⟨hb, By.cons.2 ⟨mod_by _, By.nil⟩⟩) (by simp only [List.length_append, List.length_cons, List.length_nil]; omega)) (by simp))
    show boarderref07_Parse.l0 (k + 1) _ _ _ = _
    rw [boarderref07_Parse.l0, if_pos (by omega), if_pos (by omega), g1, boarderref07_value_s, Option.bind_some, w1, if_pos (by omega), if_pos (by omega), g2, boarderref07_value_s, Option.bind_some, if_pos (show acc.length < 140737488355328 by omega), w2]
theorem boarderref07_Parse_s (s : ByteArray) (hs : s.size ≤ 100000) : Ev (fun k => boarderref07_Parse.f k s) (parseQ (parseL (bytesOf s))) := by
  have hL := bytesOf_length s
  have hj : Ev (fun k => boarderref07_Parse.j0 k s true) (parseQ none) := Ev.step (f := fun _ => some ((⟨#[]⟩ : ByteArray), false)) (fun k => by show boarderref07_Parse.j0 (k + 1) _ _ = _; rw [boarderref07_Parse.j0, if_pos rfl]) Ev.some'
  by_cases hg : 1000 < s.size
  · have hp : parseL (bytesOf s) = none := by
      cases e : parseL (bytesOf s) with
      | none => rfl
      | some x =>
        obtain ⟨h1, h2, h3⟩ := text_parse (bytesOf_by s) e
        have h4 := keyL_len h2
        have h5 := textL_len (L := x) (by intro e; subst e; simp at h4)
        rw [h1] at h5
        omega
    rw [hp]
    exact Ev.congr (fun k => by unfold boarderref07_Parse.f; rw [if_neg (by omega), if_pos (by omega)]) hj
  rw [parse_ref (bytesOf_by s) (by omega), hL]
  by_cases h : s.size < 4
  · rw [if_pos (.inl h)]
    exact Ev.congr (fun k => by unfold boarderref07_Parse.f; rw [if_pos (by omega)]) hj
  · by_cases p : s.size % 2 = 1
    · rw [if_pos (.inr p)]
      exact Ev.congr (fun k => by unfold boarderref07_Parse.f; rw [if_neg (by omega), if_neg (by omega), show ((s.size : Int) % 2 == 1) = true from by rw [beq_iff_eq]; omega]) hj
    · rw [if_neg (fun h2 => h2.elim h p)]
      refine Ev.congr (f := fun k => boarderref07_Parse.j0 k s false) (fun k => by unfold boarderref07_Parse.f; rw [if_neg (by omega), if_neg (by omega), show ((s.size : Int) % 2 == 1) = false from by rw [beq_eq_false_iff_ne]; omega]) ?_
      have g0 : bt s 0 = (bytesOf s)[0]'(by omega) := bt_get (i := 0) (by omega)
      have hr : refL (bytesOf s) = [bt s 0] ++ pairs ((bytesOf s).drop 2) := by
        clear g0
        rw [bt_head]
        generalize bytesOf s = L at hL ⊢
        cases L with
        | nil => simp at hL; omega
        | cons c l => cases l with
          | nil => simp at hL; omega
          | cons b l => rfl
      rw [hr]
      refine Ev.step (f := fun k => boarderref07_Parse.l0 k s [bt s 0] ((2 : Nat) : Int)) (fun k => ?_) (boarderref07_Parse_loop s hs ((s.size - 2) / 2) 2 [bt s 0] (by omega) (By.cons.2 ⟨bt_range s 0, By.nil⟩) (by simp only [List.length_cons, List.length_nil]; omega))
      show boarderref07_Parse.j0 (k + 1) _ _ = _
      rw [boarderref07_Parse.j0, if_neg (by decide), if_pos (by omega)]
      rfl

/-! ### boarderref23.Number -/
/-- The value of digits. -/
def valL : List Int → Int → Option Int
  | [], n => some n
  | c :: l, n => if c < 48 ∨ c > 57 then none else valL l (n * 10 + (c - 48))
theorem valL_dec (n : Nat) : ∀ rest : List Int, valL (Com.decI n ++ rest) 0 = valL rest n := by
  induction n using Nat.strongRecOn with
  | _ n ih =>
    intro rest
    by_cases h : n < 10
    · rw [Com.decI_small h, List.singleton_append, valL, if_neg (by omega)]
      congr 1
      omega
    · rw [Com.decI_big h, List.append_assoc, ih (n / 10) (by omega), List.singleton_append, valL, if_neg (by omega)]
      congr 1
      omega
def numR (L : List Int) : Int := if L.length = 0 ∨ 16 < L.length then -1 else match valL L 0 with | none => -1 | some v => if v > 1125899906842624 then -1 else if Com.decI v.toNat = L then v else -1
theorem numR_is (L : List Int) : IsNum L (numR L) := by
  unfold numR
  refine ⟨fun h => ?_, fun n hn e => ?_⟩
  · by_cases h1 : L.length = 0 ∨ 16 < L.length
    · rw [if_pos h1] at h; omega
    rw [if_neg h1] at h ⊢
    cases hv : valL L 0 with
    | none => rw [hv] at h; simp at h
    | some v =>
      rw [hv] at h
      simp only at h ⊢
      by_cases h2 : v > 1125899906842624
      · rw [if_pos h2] at h; omega
      rw [if_neg h2] at h ⊢
      by_cases h3 : Com.decI v.toNat = L
      · rw [if_pos h3]; exact h3.symm
      · rw [if_neg h3] at h; omega
  · have hl := decI_len16 n hn
    have hl1 := Com.decI_len n
    have hv : valL L 0 = some (n : Int) := by
      have := valL_dec n []
      rw [List.append_nil] at this
      rw [e, this]
      rfl
    rw [if_neg (by rw [e]; omega), hv]
    simp only
    rw [if_neg (by omega), Int.toNat_natCast, if_pos e.symm]
theorem num_step {n c : Int} (h0 : 0 ≤ n) (hn : n ≤ 1000000000000000) (h1 : 48 ≤ c) (h2 : c ≤ 57) : wrap64 ((wrap64 ((wrap64 (n * 10)) + (wrap64 c))) - 48) = n * 10 + (c - 48) := by
  have a : wrap64 (n * 10) = n * 10 := by unfold wrap64; omega
  have b : wrap64 c = c := by unfold wrap64; omega
  rw [a, b]
  clear a b
  have d : wrap64 (n * 10 + c) = n * 10 + c := by unfold wrap64; omega
  rw [d]
  clear d
  unfold wrap64
  omega
theorem boarderref23_Number_l (s : ByteArray) (hs : s.size ≤ 16) : ∀ (d i : Nat) (n : Nat), i + d = s.size → n < 10 ^ i → Ev (fun k => boarderref23_Number.l0 k s (n : Int) (i : Int)) (match valL ((bytesOf s).drop i) n with | none => -1 | some v => if v > 1125899906842624 then -1 else if Com.decI v.toNat = bytesOf s then v else -1) := by
  have hL := bytesOf_length s
  intro d
  induction d with
  | zero =>
    intro i n hi hn
    obtain rfl : i = s.size := by omega
    rw [show (bytesOf s).drop s.size = [] from List.drop_eq_nil_of_le (by omega), valL]
    simp only [Int.toNat_natCast]
    refine Ev.step (f := fun k => if (n : Int) > 1125899906842624 then some (-1) else ((boarderref23_Num.f k (n : Int)).bind fun t321 => (if t321.toList = s.toList then (some (n : Int)) else (some (-1))))) (fun k => ?_) ?_
    · show boarderref23_Number.l0 (k + 1) _ _ _ = _
      rw [boarderref23_Number.l0, if_neg (by omega)]
    · by_cases h : (n : Int) > 1125899906842624
      · exact Ev.eqv (Ev.pos h Ev.some') (if_pos h).symm
      · refine Ev.eqv (Ev.neg h (Ev.bind (a := strOfNums (Com.decI n)) ⟨n + 2, fun k hk => boarderref23_Num_s n (by omega) k (by omega)⟩ (r := if Com.decI n = bytesOf s then (n : Int) else -1) ?_)) (if_neg h).symm
        by_cases h2 : Com.decI n = bytesOf s
        · exact Ev.eqv (Ev.pos (by rw [h2, str_bytes]) Ev.some') (if_pos h2).symm
        · refine Ev.eqv (Ev.neg (fun e => h2 ?_) Ev.some') (if_neg h2).symm
          rw [toList_str, ← bys_bytesOf] at e
          exact bys_inj (fun x hx => by have := Com.decI_byte n x hx; omega) (bytesOf_by s) e
  | succ d ih =>
    intro i n hi hn
    have hw : wrap64 ((i : Int) + 1) = ((i + 1 : Nat) : Int) := by unfold wrap64; omega
    have hg : bt s (i : Int) = (bytesOf s)[i]'(by omega) := bt_get (by omega)
    have hcb := bytesOf_by s ((bytesOf s)[i]'(by omega)) (List.getElem_mem _)
    rw [List.drop_eq_getElem_cons (l := bytesOf s) (i := i) (by omega), valL]
    generalize (bytesOf s)[i]'(by omega) = c at *
    have hp : 10 ^ i ≤ 1000000000000000 := by
      have := Nat.pow_le_pow_right (n := 10) (by omega) (show i ≤ 15 by omega)
      exact this
    have hnb : (n : Int) ≤ 1000000000000000 := by omega
    have hnx : ∀ j : Nat, j ≤ 9 → n * 10 + j < 10 ^ (i + 1) := fun j hj => by rw [Nat.pow_succ]; omega
    clear hp hn
    refine Ev.step (f := fun k => if c < 48 ∨ c > 57 then some (-1) else boarderref23_Number.l0 k s (wrap64 ((wrap64 ((wrap64 ((n : Int) * 10)) + (wrap64 c))) - 48)) ((i + 1 : Nat) : Int)) (fun k => ?_) ?_
    · show boarderref23_Number.l0 (k + 1) _ _ _ = _
      rw [boarderref23_Number.l0, if_pos (by omega), if_pos (by omega), hg, hw]
      by_cases h1 : c < 48
      · rw [if_pos h1, if_pos (.inl h1)]
      by_cases h2 : c > 57
      · rw [if_neg h1, if_pos h2, if_pos (.inr h2)]
      rw [if_neg h1, if_neg h2, if_neg (show ¬ (c < 48 ∨ c > 57) from fun h => h.elim h1 h2)]
    · clear hw hg
      by_cases h1 : c < 48 ∨ c > 57
      · rw [if_pos h1]; exact Ev.pos h1 Ev.some'
      · rw [if_neg h1]
        have e2 : (n : Int) * 10 + (c - 48) = ((n * 10 + (c - 48).toNat : Nat) : Int) := by omega
        rw [num_step (by omega) hnb (by omega) (by omega), e2]
        exact Ev.neg h1 (ih (i + 1) (n * 10 + (c - 48).toNat) (by omega) (hnx _ (by omega)))
theorem boarderref23_Number_s (s : ByteArray) : Ev (fun k => boarderref23_Number.f k s) (numR (bytesOf s)) := by
  have hL := bytesOf_length s
  unfold boarderref23_Number.f numR
  have hj : ∀ b : Bool, b = true → Ev (fun k => boarderref23_Number.j0 k s b) (-1) := fun b hb => Ev.step (f := fun _ => some (-1)) (fun k => by show boarderref23_Number.j0 (k + 1) _ _ = _; rw [boarderref23_Number.j0, if_pos hb]) Ev.some'
  by_cases h0 : (s.size : Int) = 0
  · rw [if_pos (by omega)]
    exact Ev.pos h0 (hj _ rfl)
  · by_cases h1 : (s.size : Int) > 16
    · rw [if_pos (by omega)]
      exact Ev.neg h0 (hj _ (decide_eq_true h1))
    · rw [if_neg (by omega)]
      refine Ev.neg h0 (Ev.step (f := fun k => boarderref23_Number.l0 k s 0 0) (fun k => ?_) ?_)
      · show boarderref23_Number.j0 (k + 1) _ _ = _
        rw [boarderref23_Number.j0, if_neg (by simpa using h1)]
      · have h := boarderref23_Number_l s (by omega) s.size 0 0 (by omega) (by omega)
        rw [List.drop_zero] at h
        exact h

/-! ### boarderref24.Lease -/
def ansT (o : Option Le) : Int × Int × Int × ByteArray × Bool := match o with | some l => (l.f0, l.f1, l.f2, l.f3, true) | none => (0, 0, 0, (⟨#[]⟩ : ByteArray), false)
theorem boarderref24_Lease_step (s : ByteArray) (W : List ByteArray) (a r : Int) (ok is : Bool) (key w2 : ByteArray) (hW : 2 < W.length) (hw : rdOf ByteArray.empty W 2 = w2) (hr : numR (bytesOf w2) = r) (j : Nat) (hj : j ≤ 3) {R : Int × Int × Int × ByteArray × Bool}
    (h1 : ok = true → is = true → leaseB (⟨a, j, r, key⟩ : Le) = true → lineL (⟨a, j, r, key⟩ : Le) = bytesOf s → R = (a, (j : Int), r, key, true))
    (h2 : ¬ (ok = true ∧ is = true ∧ leaseB (⟨a, j, r, key⟩ : Le) = true ∧ lineL (⟨a, j, r, key⟩ : Le) = bytesOf s) → Ev (fun k => boarderref24_Lease.l0 k s W a ok key is ((j + 1 : Nat) : Int)) R) :
    Ev (fun k => boarderref24_Lease.l0 k s W a ok key is (j : Int)) R := by
  have hwr : wrap64 ((j : Int) + 1) = ((j + 1 : Nat) : Int) := by unfold wrap64; omega
  refine Ev.step (f := fun k => (boarderref23_Number.f k w2).bind fun t333 => (if ok = true then (if is = true then ((boarderref09_Right.f a j t333 key).bind fun t335 => (if t335 = true then ((boarderref24_Line.f k a j t333 key).bind fun t336 => (if t336.toList = s.toList then (some (a, (j : Int), t333, key, true)) else (boarderref24_Lease.l0 k s W a ok key is ((j + 1 : Nat) : Int)))) else (boarderref24_Lease.l0 k s W a ok key is ((j + 1 : Nat) : Int)))) else (boarderref24_Lease.l0 k s W a ok key is ((j + 1 : Nat) : Int))) else (boarderref24_Lease.l0 k s W a ok key is ((j + 1 : Nat) : Int)))) (fun k => ?_) ?_
  · show boarderref24_Lease.l0 (k + 1) _ _ _ _ _ _ _ = _
    rw [boarderref24_Lease.l0, if_pos (by omega), if_pos (by omega), hw, hwr]
  · clear hwr
    refine Ev.bind (Ev.eqv (boarderref23_Number_s w2) hr) ?_
    by_cases c1 : ok = true
    · by_cases c2 : is = true
      · have hR := boarderref09_Right_s (⟨a, j, r, key⟩ : Le)
        simp only at hR
        refine Ev.pos c1 (Ev.pos c2 ?_)
        simp only [hR, Option.bind_some]
        by_cases c3 : leaseB (⟨a, j, r, key⟩ : Le) = true
        · have hLn := boarderref24_Line_s (⟨a, j, r, key⟩ : Le) c3
          simp only at hLn
          refine Ev.pos c3 (Ev.bind hLn ?_)
          have hby : By (lineL (⟨a, j, r, key⟩ : Le)) := line_by c3
          by_cases c4 : lineL (⟨a, j, r, key⟩ : Le) = bytesOf s
          · rw [h1 c1 c2 c3 c4]
            exact Ev.pos (by rw [c4, str_bytes]) Ev.some'
          · refine Ev.neg (fun e => c4 ?_) (h2 (fun h => c4 h.2.2.2))
            rw [toList_str, ← bys_bytesOf] at e
            exact bys_inj hby (bytesOf_by s) e
        · exact Ev.neg c3 (h2 (fun h => c3 h.2.2.1))
      · exact Ev.pos c1 (Ev.neg c2 (h2 (fun h => c2 h.2.1)))
    · exact Ev.neg c1 (h2 (fun h => c1 h.1))
theorem boarderref24_Lease_end (s : ByteArray) (W : List ByteArray) (a : Int) (ok is : Bool) (key : ByteArray) : Ev (fun k => boarderref24_Lease.l0 k s W a ok key is ((4 : Nat) : Int)) (ansT none) := by
  refine Ev.step (f := fun _ => some (0, 0, 0, (⟨#[]⟩ : ByteArray), false)) (fun k => ?_) Ev.some'
  show boarderref24_Lease.l0 (k + 1) _ _ _ _ _ _ _ = _
  rw [boarderref24_Lease.l0, if_neg (by omega)]
theorem boarderref24_Lease_s (s : ByteArray) (hs : s.size ≤ 100000) : Ev (fun k => boarderref24_Lease.f k s) (ansT (leaseP (bytesOf s))) := by
  have hL := bytesOf_length s
  have hB := bytesOf_by s
  have hby := split_by 32 hB
  unfold boarderref24_Lease.f
  refine Ev.bind (boarderref23_Words_s s (by omega)) ?_
  by_cases h4 : (splitL 32 (bytesOf s)).length = 4
  · have hlen : ∀ w ∈ splitL 32 (bytesOf s), w.length ≤ 100000 := fun w hw => by
      have := split_le 32 (bytesOf s) w hw
      omega
    generalize hW : splitL 32 (bytesOf s) = W at *
    obtain ⟨w0, w1, w2, w3, rfl⟩ : ∃ w0 w1 w2 w3, W = [w0, w1, w2, w3] := by
      match W, h4 with
      | [a, b, c, d], _ => exact ⟨a, b, c, d, rfl⟩
    have b0 := hby w0 (by simp)
    have b2 := hby w2 (by simp)
    have b3 := hby w3 (by simp)
    have g0 := hlen w0 (by simp)
    have g3 := hlen w3 (by simp)
    have hno : ∀ l : Le, leaseB l = true → lineL l = bytesOf s → w0 = Com.textI l.f0.toNat ∧ w1 = wordL l.f1 ∧ w2 = Com.decI l.f2.toNat ∧ w3 = textL (bytesOf l.f3) := by
      intro l h1 h2
      have e := split_line h1
      rw [h2, hW] at e
      simp only [List.cons.injEq, and_true] at e
      exact e
    refine Ev.pos (by rfl) (Ev.pos (by simp) (Ev.bind (a := if (Com.addrGo (Com.bys w0) 0 0 0 0).2 = 0 then ((Com.addrGo (Com.bys w0) 0 0 0 0).1, true) else (0, false)) ⟨2 * w0.length + 301, fun k hk => by
      have := boarderref01_Parse_s (strOfNums w0) (by rw [str_size]; omega) k (by rw [str_size]; exact hk)
      rw [toList_str] at this
      exact this⟩ (Ev.pos (by simp) (Ev.bind (a := parseQ (parseL w3)) (Ev.eqv (boarderref07_Parse_s (strOfNums w3) (by rw [str_size]; omega)) (by rw [bytes_str _ b3])) ?_))))
    have key : ∃ (a : Int) (ok : Bool), (if (Com.addrGo (Com.bys w0) 0 0 0 0).2 = 0 then ((Com.addrGo (Com.bys w0) 0 0 0 0).1, true) else (0, false)) = (a, ok) ∧ ∀ l : Le, leaseB l = true → lineL l = bytesOf s → ok = true ∧ a = l.f0 := by
      rcases Com.addrGo_start (Com.bys w0) with ⟨ha, hn⟩ | ⟨n, hn, ha, ht⟩
      · refine ⟨_, _, rfl, fun l h1 h2 => ?_⟩
        have hl := leaseB_of h1
        exact absurd (by rw [(hno l h1 h2).1]; rfl) (hn l.f0.toNat (by omega))
      · have e0 : w0 = Com.textI n := bys_inj b0 (textI_by n) ht
        rw [ha, if_pos rfl]
        refine ⟨_, _, rfl, fun l h1 h2 => ⟨rfl, ?_⟩⟩
        have hl := leaseB_of h1
        have := textI_inj hn (by omega) (e0.symm.trans (hno l h1 h2).1)
        omega
    obtain ⟨a, ok, ea, ha⟩ := key
    have hk : ∃ (x : ByteArray) (is : Bool), parseQ (parseL w3) = (x, is) ∧ ∀ l : Le, leaseB l = true → lineL l = bytesOf s → is = true ∧ x = l.f3 := by
      cases hp : parseL w3 with
      | none =>
        refine ⟨_, _, rfl, fun l h1 h2 => ?_⟩
        have hk : keyL (bytesOf l.f3) = true := by rw [← keyB_L]; exact (leaseB_of h1).2.2.2.2.2.2
        rw [(hno l h1 h2).2.2.2, parse_text (bytesOf_by _) hk] at hp
        cases hp
      | some x =>
        refine ⟨_, _, rfl, fun l h1 h2 => ⟨rfl, ?_⟩⟩
        have hk : keyL (bytesOf l.f3) = true := by rw [← keyB_L]; exact (leaseB_of h1).2.2.2.2.2.2
        rw [(hno l h1 h2).2.2.2, parse_text (bytesOf_by _) hk] at hp
        rw [← Option.some.inj hp, str_bytes]
    obtain ⟨x, is, ex, hx⟩ := hk
    rw [ea, ex]
    have hr : ∀ l : Le, leaseB l = true → lineL l = bytesOf s → numR w2 = l.f2 := fun l h1 h2 => by
      have hl := leaseB_of h1
      have := (numR_is w2).2 l.f2.toNat (by omega) (hno l h1 h2).2.2.1
      omega
    have st := boarderref24_Lease_step s (List.map strOfNums [w0, w1, w2, w3]) a (numR w2) ok is x (strOfNums w2) (by simp) rfl (by rw [bytes_str _ b2])
    have h1 : ∀ j : Nat, ok = true → is = true → leaseB (⟨a, j, numR w2, x⟩ : Le) = true → lineL (⟨a, j, numR w2, x⟩ : Le) = bytesOf s → ansT (leaseP (bytesOf s)) = (a, (j : Int), numR w2, x, true) := fun j _ _ q1 q2 => by
      rw [← q2, leaseP_line q1]
      rfl
    refine st 1 (by omega) (h1 1) (fun n1 => st 2 (by omega) (h1 2) (fun n2 => st 3 (by omega) (h1 3) (fun n3 => ?_)))
    rw [leaseP_none]
    · exact boarderref24_Lease_end _ _ _ _ _ _
    · intro l q1 q2
      obtain ⟨o1, o2⟩ := ha l q1 q2
      obtain ⟨o3, o4⟩ := hx l q1 q2
      have o5 := hr l q1 q2
      have hl := leaseB_of q1
      have hc : ∀ j : Nat, l.f1 = j → (ok = true ∧ is = true ∧ leaseB (⟨a, j, numR w2, x⟩ : Le) = true ∧ lineL (⟨a, j, numR w2, x⟩ : Le) = bytesOf s) := fun j hj => by
        have e : (⟨a, j, numR w2, x⟩ : Le) = l := by rw [o2, o4, o5, ← hj]
        rw [e]
        exact ⟨o1, o3, q1, q2⟩
      obtain h | h | h : l.f1 = 1 ∨ l.f1 = 2 ∨ l.f1 = 3 := by omega
      · exact n1 (hc 1 h)
      · exact n2 (hc 2 h)
      · exact n3 (hc 3 h)
  · refine Ev.neg (by rw [List.length_map]; omega) (Ev.eqv Ev.some' ?_)
    rw [leaseP_none]
    · rfl
    · intro l h1 h2
      rw [← h2, split_line h1] at h4
      exact h4 rfl

/-! ### boarderref23.Line -/
theorem split_two {c : Int} {L h v : List Int} {q : List (List Int)} (e : splitL c L = h :: v :: q) : L.take h.length = h ∧ splitL c (L.drop (h.length + 1)) = v :: q ∧ h.length + 1 ≤ L.length := by
  have hj := join_split c L
  rw [e, joinL] at hj
  have hf : c ∉ h := split_free c L h (by rw [e]; exact List.mem_cons_self)
  have e2 := e
  rw [← hj, split_cons _ hf] at e2
  have e3 := (List.cons.inj e2).2
  refine ⟨?_, ?_, ?_⟩
  · rw [← hj, List.take_left]
  · rw [← hj, ← List.drop_drop, List.drop_left, List.drop_succ_cons, List.drop_zero]
    exact e3
  · rw [← hj, List.length_append, List.length_cons]; omega
theorem split_one {c : Int} {L h : List Int} (e : splitL c L = [h]) : h = L := by
  have hj := join_split c L
  rw [e] at hj
  exact hj
/-- The line that begins at a place. -/
def lineA (s : ByteArray) (a i : Nat) : List (List Int) → ByteArray × Int × Bool
  | h :: _ :: _ => (s.extract a (i + h.length), ((i + h.length + 1 : Nat) : Int), true)
  | _ => (s.extract a s.size, (s.size : Int), false)
theorem boarderref23_Line_l (s : ByteArray) (hs : s.size ≤ 1000000) (a : Nat) : ∀ (d i : Nat), i + d = s.size → a ≤ i → Ev (fun k => boarderref23_Line.l0 k s (a : Int) (i : Int)) (lineA s a i (splitL 10 ((bytesOf s).drop i))) := by
  have hL := bytesOf_length s
  intro d
  induction d with
  | zero =>
    intro i hi ha
    obtain rfl : i = s.size := by omega
    rw [show (bytesOf s).drop s.size = [] from List.drop_eq_nil_of_le (by omega)]
    refine Ev.step (f := fun _ => some (s.extract a s.size, (s.size : Int), false)) (fun k => ?_) Ev.some'
    show boarderref23_Line.l0 (k + 1) _ _ _ = _
    rw [boarderref23_Line.l0, if_neg (by omega), if_pos (by omega), if_pos (by omega)]
    rfl
  | succ d ih =>
    intro i hi ha
    have hw : wrap64 ((i : Int) + 1) = ((i + 1 : Nat) : Int) := by unfold wrap64; omega
    have hg : bt s (i : Int) = (bytesOf s)[i]'(by omega) := bt_get (by omega)
    have ihh := ih (i + 1) (by omega) (by omega)
    rw [List.drop_eq_getElem_cons (l := bytesOf s) (i := i) (by omega), splitL]
    generalize (bytesOf s)[i]'(by omega) = c at *
    obtain ⟨v, q, e⟩ := splitL_ex 10 ((bytesOf s).drop (i + 1))
    rw [e] at ihh ⊢
    refine Ev.step (f := fun k => if c = 10 then some (s.extract a i, ((i + 1 : Nat) : Int), true) else boarderref23_Line.l0 k s (a : Int) ((i + 1 : Nat) : Int)) (fun k => ?_) ?_
    · show boarderref23_Line.l0 (k + 1) _ _ _ = _
      rw [boarderref23_Line.l0, if_pos (by omega), if_pos (by omega), hg, hw]
      by_cases h : c = 10
      · rw [if_pos h, if_pos h, if_pos (by omega), if_pos (by omega), if_pos (by omega)]
        rfl
      · rw [if_neg h, if_neg h]
    · by_cases h : c = 10
      · rw [if_pos h]
        exact Ev.pos h Ev.some'
      · rw [if_neg h]
        refine Ev.neg h (Ev.eqv ihh ?_)
        cases q with
        | nil => rfl
        | cons w q =>
          simp only [lineA, List.length_cons]
          rw [show i + 1 + v.length = i + (v.length + 1) by omega]
theorem boarderref23_Line_s (s : ByteArray) (hs : s.size ≤ 1000000) (a : Nat) (ha : a ≤ s.size) : Ev (fun k => boarderref23_Line.f k s (a : Int)) (lineA s a a (splitL 10 ((bytesOf s).drop a))) := boarderref23_Line_l s hs a (s.size - a) a (by omega) (Nat.le_refl _)

/-! ### boarderref24.Parse -/
theorem boarderref24_Parse_bad (s : ByteArray) (out : List Le) (n a2 : Int) (l : Int × Int × Int × ByteArray × Bool) : Ev (fun k => boarderref24_Parse.j1 k s out n a2 true l.1 l.2.1 l.2.2.1 l.2.2.2.1) (([] : List Le), n, 2) := by
  refine Ev.step (f := fun _ => some (([] : List Le), n, 2)) (fun k => ?_) Ev.some'
  show boarderref24_Parse.j1 (k + 1) _ _ _ _ _ _ _ _ _ = _
  rw [boarderref24_Parse.j1, if_pos rfl]
theorem boarderref24_Parse_l (s : ByteArray) (hs : s.size ≤ 100000) : ∀ (d a n : Nat) (out : List Le), s.size - a ≤ d → a ≤ s.size → n ≤ a → Tab out → Ev (fun k => boarderref24_Parse.l0 k s out (a : Int) (n : Int)) (parL (splitL 10 ((bytesOf s).drop a)) out n) := by
  have hL := bytesOf_length s
  intro d
  induction d with
  | zero =>
    intro a n out hd ha hn ht
    obtain rfl : a = s.size := by omega
    rw [show (bytesOf s).drop s.size = [] from List.drop_eq_nil_of_le (by omega)]
    refine Ev.step (f := fun _ => some (out, 0, 0)) (fun k => ?_) (Ev.eqv Ev.some' ?_)
    · show boarderref24_Parse.l0 (k + 1) _ _ _ _ = _
      rw [boarderref24_Parse.l0, if_neg (by omega)]
    · exact ((parL_end _ _ _).trans (if_pos rfl)).symm
  | succ d ih =>
    intro a n out hd ha hn ht
    by_cases hlt : a < s.size
    · have hw : wrap64 ((n : Int) + 1) = ((n + 1 : Nat) : Int) := by unfold wrap64; omega
      have hLn := boarderref23_Line_s s (by omega) a ha
      refine Ev.step (f := fun k => (boarderref23_Line.f k s (a : Int)).bind fun bt395 => ((boarderref24_Lease.f k bt395.1).bind fun bt398 => (if bt398.2.2.2.2 = true then (boarderref24_Parse.j1 k s out ((n + 1 : Nat) : Int) bt395.2.1 (!bt395.2.2) bt398.1 bt398.2.1 bt398.2.2.1 bt398.2.2.2.1) else (boarderref24_Parse.j1 k s out ((n + 1 : Nat) : Int) bt395.2.1 true bt398.1 bt398.2.1 bt398.2.2.1 bt398.2.2.2.1)))) (fun k => ?_) (Ev.bind hLn ?_)
      · show boarderref24_Parse.l0 (k + 1) _ _ _ _ = _
        rw [boarderref24_Parse.l0, if_pos (by omega), hw]
      · clear hw hLn
        obtain ⟨h, t, e⟩ := splitL_ex 10 ((bytesOf s).drop a)
        rw [e]
        cases t with
        | nil =>
          have hne : h ≠ [] := fun e2 => by
            have e3 := split_one e
            rw [e2] at e3
            have := congrArg List.length e3
            rw [List.length_drop] at this
            simp at this; omega
          rw [parL_end, if_neg hne]
          simp only [lineA]
          refine Ev.bind (boarderref24_Lease_s (s.extract a s.size) (by rw [ByteArray.size_extract]; omega)) ?_
          by_cases c : (ansT (leaseP (bytesOf (s.extract a s.size)))).2.2.2.2 = true
          · exact Ev.pos c (boarderref24_Parse_bad s out _ _ (ansT (leaseP (bytesOf (s.extract a s.size)))))
          · exact Ev.neg c (boarderref24_Parse_bad s out _ _ (ansT (leaseP (bytesOf (s.extract a s.size)))))
        | cons v q =>
          obtain ⟨s1, s2, s3⟩ := split_two e
          rw [List.length_drop] at s3
          have hb : bytesOf (s.extract a (a + h.length)) = h := by
            rw [bytes_cut2, List.drop_take, show a + h.length - a = h.length by omega]
            exact s1
          rw [parL_step]
          simp only [lineA]
          refine Ev.bind (Ev.eqv (boarderref24_Lease_s (s.extract a (a + h.length)) (by rw [ByteArray.size_extract]; omega)) (by rw [hb])) ?_
          cases hp : leaseP h with
          | none => exact Ev.neg (by decide) (boarderref24_Parse_bad s out _ _ (ansT none))
          | some l =>
            have hlb := (leaseP_some hp).1
            have h64 := ht.1
            refine Ev.pos (by rfl) (Ev.step (f := fun k => (boarderref12_Right.f k (out ++ [l])).bind fun t407 => (if t407 = true then (boarderref24_Parse.l0 k s (out ++ [l]) ((a + h.length + 1 : Nat) : Int) ((n + 1 : Nat) : Int)) else (some (([] : List Le), ((n + 1 : Nat) : Int), 2)))) (fun k => ?_) (Ev.bind (a := decide (Tab (out ++ [l]))) ⟨out.length + 2, fun k hk => boarderref12_Right_s (out ++ [l]) (by rw [List.length_append, List.length_singleton]; simp only [maxLen]; omega) k (by rw [List.length_append, List.length_singleton]; omega)⟩ ?_))
            · show boarderref24_Parse.j1 (k + 1) _ _ _ _ (!true) _ _ _ _ = _
              rw [boarderref24_Parse.j1, if_neg (by decide), if_pos (by omega)]
              rfl
            · simp only
              by_cases hT : Tab (out ++ [l])
              · rw [if_pos hT]
                refine Ev.pos (decide_eq_true hT) (Ev.eqv (ih (a + h.length + 1) (n + 1) (out ++ [l]) (by omega) (by omega) (by omega) hT) ?_)
                rw [← s2, List.drop_drop, Nat.add_assoc]
              · rw [if_neg hT]
                exact Ev.neg (by simpa using hT) Ev.some'
    · obtain rfl : a = s.size := by omega
      exact ih _ _ _ (by omega) ha hn ht
theorem boarderref24_Parse_s (s : ByteArray) (hs : s.size ≤ 100000) : Ev (fun k => boarderref24_Parse.f k s) (parL (splitL 10 (bytesOf s)) [] 0) := by
  have e := boarderref24_Parse_l s hs s.size 0 0 [] (by omega) (by omega) (by omega) tab_nil
  rw [List.drop_zero] at e
  exact e

end Go.Proofs.YtdajdpgnhjlbaaaDoor.PLease

namespace Go.Proofs.YtdajdpgnhjlbaaaDoor.Pure
open Go.RowKit Go.Proofs.YtdajdpgnhjlbaaaDoorW.PrintWords Go.Proofs.YtdajdpgnhjlbaaaDoorW.PrintLast Go.Proofs.YtdajdpgnhjlbaaaDoorW.PrintMore Go.Proofs.YtdajdpgnhjlbaaaDoor.PLease

theorem LeaseParses : boarderlaw24_LeaseParses.Pure := by
  intro s hs
  refine Ev.rounds ?_
  have hk : Ev (fun k => (boarderlaw24_knows.f k).bind fun t => some t) true := Ev.bind boarderlaw24_knows_s Ev.some'
  unfold boarderlaw24_LeaseParses.f
  by_cases h : (s.size : Int) > 20000
  · exact Ev.pos h hk
  · have hP := ltext_Parse_s s (by omega)
    have hQ := boarderref24_Parse_s s (by omega)
    rcases parL_back (splitL 10 (bytesOf s)) [] 0 (split_get 10 _) tab_nil with ⟨r, e, hT, hW⟩ | ⟨m, e⟩
    · rw [List.nil_append] at e hT
      rw [e] at hP hQ
      have h64 := hT.1
      have hm : r.length ≤ maxLen := by simp only [maxLen]; omega
      have hPr := ltext_Print_s r (tab_small hT)
      rw [if_pos hT] at hPr
      have hb : printL r = bytesOf s := by rw [← join_print, ← hW, join_split]
      refine Ev.neg h (Ev.bind hP (Ev.bind hQ (Ev.bind (a := true) ⟨r.length + 1, fun k hk => boarderref10_SameLeases_s r hm k (by omega)⟩ (Ev.pos (by rfl) (Ev.pos (by rfl) (Ev.step (fun k => by show boarderlaw24_LeaseParses.j0 (k + 1) _ _ _ _ = _; rw [boarderlaw24_LeaseParses.j0]) (Ev.neg (by simp) ?_)))))))
      refine Ev.pos (by rfl) (Ev.bind hPr ?_)
      simp only [hb, str_bytes]
      exact Ev.pos (by trivial) (Ev.pos (by trivial) hk)
    · rw [e] at hP hQ
      exact Ev.neg h (Ev.bind hP (Ev.bind hQ (Ev.bind (a := true) ⟨1, fun k hk => boarderref10_SameLeases_s [] (by simp) k (by simp; omega)⟩ (Ev.pos (by rfl) (Ev.pos (by rfl) (Ev.step (fun k => by show boarderlaw24_LeaseParses.j0 (k + 1) _ _ _ _ = _; rw [boarderlaw24_LeaseParses.j0]) (Ev.neg (by simp) (Ev.neg (by simp) hk))))))))

end Go.Proofs.YtdajdpgnhjlbaaaDoor.Pure
