/- What the printed functions of this group come to, in plain words; each under its theorem's own conditions. -/
import Derived.Test.YtlabpabnddfllaaPAddrx1
import Derived.Test.YtlabpabnddfllaaPAddrx2
import Derived.Test.YtlabpabnddfllaaAdr
set_option linter.unusedVariables false
set_option linter.unusedSimpArgs false
namespace Go.Proofs.Ytlabpabnddfllaa.PAddr
open Go.RowKit Go.Proofs.YtlabpabnddfllaaW.PrintWords Go.Proofs.YtlabpabnddfllaaW.PrintLast Go.Proofs.YtlabpabnddfllaaW.PrintMore

/-! ### addr.Right -/
theorem addr_Right_s (a : Int) : addr_Right.f a = some (decide (0 ≤ a ∧ a ≤ 4294967295)) := by
  unfold addr_Right.f
  by_cases h : a ≥ 0
  · rw [if_pos h]; congr 1; exact decide_eq_decide.2 ⟨fun h2 => ⟨h, h2⟩, fun h2 => h2.2⟩
  · rw [if_neg h, decide_eq_false (by omega)]

/-! ### addr.digits -/
theorem addr_digits_s (n : Nat) (hn : n ≤ 4611686018427387903) : ∀ (k : Nat) (l : List Int), n < k → l.length + (Com.decI n).length ≤ 140737488355328 → addr_digits.f k l n = some (l ++ Com.decI n) := by
  induction n using Nat.strongRecOn with
  | _ n ih =>
    intro k l hk hl
    obtain ⟨k, rfl⟩ : ∃ m, k = m + 1 := ⟨k - 1, by omega⟩
    have hlen := Com.decI_len n
    simp only [addr_digits.f]
    have e1 : wrap64 (48 + Int.tmod (n : Int) 10) % 256 = 48 + ((n % 10 : Nat) : Int) := by
      rw [Int.tmod_eq_emod_of_nonneg (by omega)]; unfold wrap64; omega
    by_cases h : n < 10
    · rw [Com.decI_small h] at hl ⊢
      rw [if_neg (by omega), if_pos (by simp at hl; omega), e1, show n % 10 = n from by omega]
    · rw [Com.decI_big h] at hl ⊢
      simp only [List.length_append, List.length_cons, List.length_nil] at hl
      have e2 : wrap64 (Int.tdiv (n : Int) 10) = ((n / 10 : Nat) : Int) := by
        rw [Int.tdiv_eq_ediv_of_nonneg (by omega)]; unfold wrap64; omega
      rw [if_pos (by omega), e2, ih (n / 10) (by omega) (by omega) k l (by omega) (by omega)]
      simp only [Option.bind_some]
      rw [if_pos (by simp; omega), e1, List.append_assoc]

/-! ### addr.Text -/
theorem addr_Text_byte (a : Nat) (ha : a < 4294967296) (s : Nat) (hs : s ≤ 24) : Go.bits .and .i64 (shr .i64 (a : Int) (s : Int)) 255 = ((a / 2 ^ s % 256 : Nat) : Int) := by
  have e : shr .i64 (a : Int) (s : Int) = ((a / 2 ^ s : Nat) : Int) := by
    unfold shr
    rw [show min (s : Int).toNat (IntKind.bits .i64) = s from by simp [IntKind.bits]; omega]
    push_cast; rfl
  have h2 : a / 2 ^ s ≤ a := Nat.div_le_self _ _
  rw [e]
  exact Com.i64_and_low (a / 2 ^ s) 8 (by omega) (by omega)
theorem addr_Text_s (a : Nat) (ha : a < 4294967296) (k : Nat) (hk : 300 ≤ k) : addr_Text.f k a = some (strOfNums (Com.textI a), 0) := by
  obtain ⟨k, rfl⟩ : ∃ m, k = m + 5 := ⟨k - 5, by omega⟩
  have g3 : Com.b3 a ≤ 255 := by unfold Com.b3; omega
  have g2 : Com.b2 a ≤ 255 := by unfold Com.b2; omega
  have g1 : Com.b1 a ≤ 255 := by unfold Com.b1; omega
  have g0 : Com.b0 a ≤ 255 := by unfold Com.b0; omega
  have l3 := Com.decI_len (Com.b3 a)
  have l2 := Com.decI_len (Com.b2 a)
  have l1 := Com.decI_len (Com.b1 a)
  have l0 := Com.decI_len (Com.b0 a)
  have e3 : Go.bits .and .i64 (shr .i64 (a : Int) 24) 255 = (Com.b3 a : Int) := addr_Text_byte a ha 24 (by omega)
  have e2 : Go.bits .and .i64 (shr .i64 (a : Int) 16) 255 = (Com.b2 a : Int) := addr_Text_byte a ha 16 (by omega)
  have e1 : Go.bits .and .i64 (shr .i64 (a : Int) 8) 255 = (Com.b1 a : Int) := addr_Text_byte a ha 8 (by omega)
  have e0 : Go.bits .and .i64 (shr .i64 (a : Int) 0) 255 = (Com.b0 a : Int) := by
    have := addr_Text_byte a ha 0 (by omega)
    rw [show a / 2 ^ 0 % 256 = Com.b0 a from by unfold Com.b0; simp] at this
    exact this
  have w3 : wrap64 (24 - 8) = 16 := by unfold wrap64; omega
  have w2 : wrap64 (16 - 8) = 8 := by unfold wrap64; omega
  have w1 : wrap64 (8 - 8) = 0 := by unfold wrap64; omega
  have w0 : wrap64 (0 - 8) = -8 := by unfold wrap64; omega
  unfold addr_Text.f
  rw [addr_Right_s, decide_eq_true (by omega)]
  simp only [Option.bind_some, if_true]
  -- the four rounds
  have step : ∀ (k : Nat) (x : List Int) (b s : Int) (n : Nat), 256 ≤ k → n ≤ 255 → 0 ≤ s → 0 < x.length → x.length ≤ 1000 → Go.bits .and .i64 (shr .i64 b s) 255 = (n : Int) → addr_Text.l0 (k + 1) b x s = addr_Text.l0 k b (x ++ [46] ++ Com.decI n) (wrap64 (s - 8)) := by
    intro k x b s n hk hn hs hx hx2 hb
    have ln := Com.decI_len n
    rw [addr_Text.l0, if_pos hs, if_pos (by omega), if_pos (by omega), if_pos hs, hb, addr_digits_s n (by omega) k (x ++ [46]) (by omega) (by simp; omega)]
    rfl
  rw [addr_Text.l0, if_pos (by omega), if_neg (by simp), if_pos (by omega), e3, addr_digits_s (Com.b3 a) (by omega) (k + 4) [] (by omega) (by simp; omega)]
  simp only [Option.bind_some, List.nil_append]
  rw [w3, step (k + 3) _ a 16 (Com.b2 a) (by omega) g2 (by omega) (by omega) (by omega) e2, w2, step (k + 2) _ a 8 (Com.b1 a) (by omega) g1 (by omega) (by simp; omega) (by simp; omega) e1, w1,
    step (k + 1) _ a 0 (Com.b0 a) (by omega) g0 (by omega) (by simp; omega) (by simp; omega) e0, w0, addr_Text.l0, if_neg (by omega)]
  unfold Com.textI
  simp
theorem addr_Text_no (a : Int) (h : ¬ (0 ≤ a ∧ a ≤ 4294967295)) (k : Nat) : addr_Text.f k a = some (⟨#[]⟩, 1) := by
  unfold addr_Text.f
  rw [addr_Right_s, decide_eq_false h]
  rfl

/-! ### boarderref01.Right -/
theorem boarderref01_Right_s (a : Int) : boarderref01_Right.f a = some (decide (0 ≤ a ∧ a ≤ 4294967295)) := by
  unfold boarderref01_Right.f
  by_cases h : a ≥ 0
  · rw [if_pos h]; congr 1; exact decide_eq_decide.2 ⟨fun h2 => ⟨h, by omega⟩, fun h2 => by omega⟩
  · rw [if_neg h, decide_eq_false (by omega)]

/-! ### addr.Parse -/
theorem addr_Parse_s (s : ByteArray) : addr_Parse.f s = some (Com.addrGo s.toList 0 0 0 0) := by rw [ByteArray.toList_eq]; rfl

/-! ### addr.mask -/
theorem addr_mask_all : ∀ i : Fin 33, addr_mask.f (i.val : Int) = some (4294967296 - (Com.sz (i.val : Int) : Int)) := by decide +kernel
theorem addr_mask_s (n : Int) (h0 : 0 ≤ n) (h1 : n ≤ 32) : addr_mask.f n = some (4294967296 - (Com.sz n : Int)) := by
  have := addr_mask_all ⟨n.toNat, by omega⟩
  rw [show ((⟨n.toNat, by omega⟩ : Fin 33).val : Int) = n from by simp; omega] at this
  exact this
theorem addr_mask_n (n : Int) : 4294967296 - (Com.sz n : Int) = ((4294967296 - 2 ^ (32 - n.toNat) : Nat) : Int) := by
  have := Com.sz_le n
  unfold Com.sz at *
  omega

/-! ### addr.Fair -/
theorem addr_Fair_s (b n : Int) : addr_Fair.f b n = some (Com.fairB b n) := by
  unfold addr_Fair.f Com.fairB
  by_cases h0 : n ≥ 0
  · rw [if_pos h0]
    by_cases h1 : n ≤ 32
    · rw [if_pos h1, addr_Right_s]
      simp only [Option.bind_some]
      by_cases h2 : 0 ≤ b ∧ b ≤ 4294967295
      · rw [decide_eq_true h2, if_pos rfl, addr_mask_s n h0 h1, Option.bind_some]
        obtain ⟨x, rfl⟩ := Int.eq_ofNat_of_zero_le h2.1
        rw [addr_mask_n, Com.i64_andNot_mask x (32 - n.toNat) (by omega) (by omega)]
        congr 1
        have e : ((x % 2 ^ (32 - n.toNat) : Nat) : Int) = (x : Int) % (Com.sz n : Int) := by unfold Com.sz; push_cast; rfl
        rw [e, Bool.eq_iff_iff, beq_iff_eq, decide_eq_true_iff]
        exact ⟨fun h => ⟨h0, h1, h2.1, h2.2, h⟩, fun h => h.2.2.2.2⟩
      · rw [decide_eq_false h2, if_neg (by simp), decide_eq_false (fun h => h2 ⟨h.2.2.1, h.2.2.2.1⟩)]
    · rw [if_neg h1, decide_eq_false (fun h => h1 h.2.1)]
  · rw [if_neg h0, decide_eq_false (fun h => h0 h.1)]

/-! ### addr.Mask -/
theorem addr_Mask_s (n : Int) : addr_Mask.f n = some (if 0 ≤ n ∧ n ≤ 32 then (4294967296 - (Com.sz n : Int), 0) else (0, 1)) := by
  unfold addr_Mask.f
  by_cases h0 : n < 0
  · rw [if_pos h0, if_neg (by omega)]
  · rw [if_neg h0]
    by_cases h1 : n > 32
    · rw [if_pos h1, if_neg (by omega)]
    · rw [if_neg h1, if_pos (by omega), addr_mask_s n (by omega) (by omega)]; rfl

/-! ### addr.Last -/
theorem addr_Last_all : ∀ i : Fin 33, Go.bits .andNot .i64 4294967295 (4294967296 - (Com.sz (i.val : Int) : Int)) = (Com.sz (i.val : Int) : Int) - 1 := by decide +kernel
theorem addr_Last_s (b n : Int) : addr_Last.f b n = some (if Com.fairB b n = true then (b + (Com.sz n : Int) - 1, 0) else (0, 1)) := by
  unfold addr_Last.f
  rw [addr_Fair_s, Option.bind_some]
  by_cases h : Com.fairB b n = true
  · obtain ⟨h0, h1, h2, h3, h4⟩ := (Com.fairB_iff b n).1 h
    have he := Com.fair_end b n h
    rw [if_pos h, if_pos h, addr_mask_s n h0 h1, Option.bind_some]
    have ha := addr_Last_all ⟨n.toNat, by omega⟩
    rw [show ((⟨n.toNat, by omega⟩ : Fin 33).val : Int) = n from by simp; omega] at ha
    rw [ha]
    obtain ⟨q, hq⟩ := Int.dvd_of_emod_eq_zero h4
    have hp := Com.sz_pos n
    have hq0 : 0 ≤ q := by
      refine Int.le_of_not_gt fun hlt => ?_
      have : (Com.sz n : Int) * q ≤ (Com.sz n : Int) * (-1) := Int.mul_le_mul_of_nonneg_left (by omega) (by omega)
      omega
    obtain ⟨x, rfl⟩ := Int.eq_ofNat_of_zero_le hq0
    have hb : b = ((x * 2 ^ (32 - n.toNat) : Nat) : Int) := by rw [hq]; unfold Com.sz; push_cast; rw [Int.mul_comm]
    have hz : (Com.sz n : Int) - 1 = ((2 ^ (32 - n.toNat) - 1 : Nat) : Int) := by unfold Com.sz at *; omega
    have hszz : Com.sz n = 2 ^ (32 - n.toNat) := rfl
    rw [hz, hb, Com.i64_or_add x (2 ^ (32 - n.toNat) - 1) (32 - n.toNat) (by omega) (by omega)]
    congr 2
    omega
  · rw [if_neg h, if_neg h]

/-! ### addr.Has -/
theorem addr_Has_s (b n a : Int) : addr_Has.f b n a = some (Com.hasB b n a) := by
  unfold addr_Has.f Com.hasB
  rw [addr_Fair_s, Option.bind_some]
  by_cases h : Com.fairB b n = true
  · obtain ⟨h0, h1, h2, h3, h4⟩ := (Com.fairB_iff b n).1 h
    have he := Com.fair_end b n h
    have hp := Com.sz_pos n
    rw [if_pos h, h, Bool.true_and, addr_Right_s, Option.bind_some]
    by_cases ha : 0 ≤ a ∧ a ≤ 4294967295
    · rw [decide_eq_true ha, if_pos rfl, addr_mask_s n h0 h1, Option.bind_some]
      obtain ⟨x, rfl⟩ := Int.eq_ofNat_of_zero_le ha.1
      rw [addr_mask_n, Com.i64_and_nat x _ (by omega) (Nat.lt_of_le_of_lt (Nat.sub_le _ _) (by omega)), Com.and_mask x _ (by omega) (by omega)]
      congr 1
      rw [Bool.eq_iff_iff, beq_iff_eq, decide_eq_true_iff]
      obtain ⟨q, hq⟩ := Int.dvd_of_emod_eq_zero h4
      have hszz : (2 ^ (32 - n.toNat) : Nat) = Com.sz n := rfl
      rw [hszz]
      push_cast
      rw [hq]
      have hs : (0 : Int) < Com.sz n := by omega
      generalize (Com.sz n : Int) = s at *
      have hd := Int.mul_ediv_add_emod (x : Int) s
      have hm0 := Int.emod_nonneg (x : Int) (by omega : s ≠ 0)
      have hm1 := Int.emod_lt_of_pos (x : Int) hs
      constructor
      · intro e
        rw [Int.mul_comm] at e
        omega
      · intro ⟨e1, e2⟩
        have hx : (x : Int) / s = q := by
          have t1 : q ≤ (x : Int) / s := (Int.le_ediv_iff_mul_le hs).2 (by rw [Int.mul_comm]; omega)
          have t2 : (x : Int) / s < q + 1 := (Int.ediv_lt_iff_lt_mul hs).2 (by rw [Int.add_mul, Int.mul_comm q]; omega)
          omega
        rw [hx, Int.mul_comm]
    · rw [decide_eq_false ha, if_neg (by simp), decide_eq_false (by omega)]
  · rw [if_neg h, Bool.eq_false_iff.2 h, Bool.false_and]

/-! ### boarderlaw01.knows -/
theorem boarderlaw01_knows_s (k : Nat) (hk : 300 ≤ k) : boarderlaw01_knows.f k = some true := by
  have t1 : addr_Text.f k 3232235777 = some (strOfNums (Com.textI 3232235777), 0) := addr_Text_s 3232235777 (by omega) k hk
  have d1 : Com.decI 192 = [49, 57, 50] := by rw [Com.decI_big (by omega), Com.decI_big (by omega), Com.decI_small (by omega)]; rfl
  have d2 : Com.decI 168 = [49, 54, 56] := by rw [Com.decI_big (by omega), Com.decI_big (by omega), Com.decI_small (by omega)]; rfl
  have d3 : Com.decI 1 = [49] := by rw [Com.decI_small (by omega)]; rfl
  have t2 : (strOfNums (Com.textI 3232235777)).toList = [49, 57, 50, 46, 49, 54, 56, 46, 49, 46, 49] := by
    rw [Com.strOfNums_toList, Com.textI, show Com.b3 3232235777 = 192 from rfl, show Com.b2 3232235777 = 168 from rfl, show Com.b1 3232235777 = 1 from rfl, show Com.b0 3232235777 = 1 from rfl, d1, d2, d3]; rfl
  have p1 : addr_Parse.f (⟨#[49, 48, 46, 48, 46, 48, 46, 55]⟩ : ByteArray) = some (167772167, 0) := by
    rw [addr_Parse_s, show (⟨#[49, 48, 46, 48, 46, 48, 46, 55]⟩ : ByteArray).toList = [49, 48, 46, 48, 46, 48, 46, 55] from ByteArray.toList_mk _]; decide +kernel
  have p2 : addr_Parse.f (⟨#[49, 48, 46, 48, 46, 48, 46, 48, 55]⟩ : ByteArray) = some (0, 2) := by
    rw [addr_Parse_s, show (⟨#[49, 48, 46, 48, 46, 48, 46, 48, 55]⟩ : ByteArray).toList = [49, 48, 46, 48, 46, 48, 46, 48, 55] from ByteArray.toList_mk _]; decide +kernel
  have m1 : addr_Mask.f 24 = some (4294967040, 0) := by decide +kernel
  have l1 : addr_Last.f 167772160 24 = some (167772415, 0) := by decide +kernel
  have h1 : addr_Has.f 167772160 24 167772167 = some true := by decide +kernel
  have f1 : addr_Fair.f 0 0 = some true := by decide +kernel
  have r1 : addr_Right.f 167772167 = some true := by decide +kernel
  unfold boarderlaw01_knows.f
  rw [t1, p1, p2, m1, l1]
  simp only [Option.bind_some]
  rw [if_pos t2, h1, f1, r1]
  rfl

/-! ### boarderref01.decimal -/
theorem boarderref01_decimal_s (n : Nat) (hn : n ≤ 4611686018427387903) : ∀ k : Nat, n + 1 < k → boarderref01_decimal.f k n = some (strOfNums (Com.decI n)) := by
  induction n using Nat.strongRecOn with
  | _ n ih =>
    intro k hk
    obtain ⟨k, rfl⟩ : ∃ m, k = m + 1 := ⟨k - 1, by omega⟩
    have hlen := Com.decI_len n
    rw [boarderref01_decimal.f]
    by_cases h : n < 10
    · rw [Com.decI_small h, if_pos (by omega), show wrap64 (48 + (n : Int)) % 256 = 48 + n from by unfold wrap64; omega]
    · have e2 : wrap64 (Int.tdiv (n : Int) 10) = ((n / 10 : Nat) : Int) := by rw [Int.tdiv_eq_ediv_of_nonneg (by omega)]; unfold wrap64; omega
      have e3 : Int.tmod (n : Int) 10 = ((n % 10 : Nat) : Int) := by rw [Int.tmod_eq_emod_of_nonneg (by omega)]; omega
      rw [if_neg (by omega), e2, e3, ih (n / 10) (by omega) (by omega) k (by omega), ih (n % 10) (by omega) (by omega) k (by omega)]
      simp only [Option.bind_some]
      rw [Com.decI_big h] at hlen ⊢
      rw [List.length_append] at hlen
      rw [strOfNums_size, strOfNums_size, Com.decI_small (n := n % 10) (by omega), if_pos (by simp at hlen ⊢; omega)]
      congr 1
      exact (Com.strOfNums_append _ _).symm

end Go.Proofs.Ytlabpabnddfllaa.PAddr
