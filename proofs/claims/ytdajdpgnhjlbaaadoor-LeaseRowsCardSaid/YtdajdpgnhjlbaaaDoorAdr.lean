/- Plain facts on addresses, their texts and prefixes, with no program in sight; each under its theorem's own conditions. -/
import Derived.Test.YtdajdpgnhjlbaaaDoorCom
set_option linter.unusedVariables false
set_option linter.unusedSimpArgs false
namespace Go.Proofs.YtdajdpgnhjlbaaaDoor.Com
open Go.RowKit Go.Proofs.YtdajdpgnhjlbaaaDoorW.PrintWords Go.Proofs.YtdajdpgnhjlbaaaDoorW.PrintLast Go.Proofs.YtdajdpgnhjlbaaaDoorW.PrintMore

/-! ### decimal digits -/
/-- A number's decimal digits, as bytes' numbers. -/
def decI (n : Nat) : List Int := if h : n < 10 then [(48 + n : Int)] else decI (n / 10) ++ [(48 + (n % 10 : Nat) : Int)]
termination_by n
decreasing_by omega
theorem decI_small {n : Nat} (h : n < 10) : decI n = [(48 + n : Int)] := by rw [decI, dif_pos h]
theorem decI_big {n : Nat} (h : ¬ n < 10) : decI n = decI (n / 10) ++ [(48 + (n % 10 : Nat) : Int)] := by rw [decI, dif_neg h]
theorem decI_len (n : Nat) : 1 ≤ (decI n).length ∧ (decI n).length ≤ n + 1 := by
  induction n using Nat.strongRecOn with
  | _ n ih =>
    by_cases h : n < 10
    · rw [decI_small h]; simp
    · rw [decI_big h]
      have := ih (n / 10) (by omega)
      simp; omega
theorem decI_byte (n : Nat) : ∀ x ∈ decI n, 48 ≤ x ∧ x ≤ 57 := by
  induction n using Nat.strongRecOn with
  | _ n ih =>
    by_cases h : n < 10
    · rw [decI_small h]; intro x hx; simp at hx; omega
    · rw [decI_big h]
      intro x hx
      rw [List.mem_append] at hx
      rcases hx with hx | hx
      · exact ih (n / 10) (by omega) x hx
      · simp at hx; omega
/-- Bytes of numbers. -/
def bys (l : List Int) : List UInt8 := l.map fun n => UInt8.ofNat n.toNat
theorem bys_append (a b : List Int) : bys (a ++ b) = bys a ++ bys b := by simp [bys]
theorem bys_cons (a : Int) (b : List Int) : bys (a :: b) = UInt8.ofNat a.toNat :: bys b := rfl
theorem bys_nil : bys [] = [] := rfl
theorem strOfNums_toList (l : List Int) : (strOfNums l).toList = bys l := by rw [ByteArray.toList_eq]; rfl
theorem toList_append (a b : ByteArray) : (a ++ b).toList = a.toList ++ b.toList := by
  rw [ByteArray.toList_eq, ByteArray.toList_eq, ByteArray.toList_eq, ByteArray.data_append, Array.toList_append]
theorem strOfNums_append (a b : List Int) : strOfNums (a ++ b) = strOfNums a ++ strOfNums b := by
  apply ByteArray.ext
  rw [ByteArray.data_append]
  unfold strOfNums
  simp
theorem toNat_ofNat8 (n : Int) (h0 : 0 ≤ n) (h1 : n ≤ 255) : ((UInt8.ofNat n.toNat).toNat : Int) = n := by
  rw [UInt8.toNat_ofNat']; omega

/-! ### an address's text -/
def b3 (a : Nat) : Nat := a / 16777216 % 256
def b2 (a : Nat) : Nat := a / 65536 % 256
def b1 (a : Nat) : Nat := a / 256 % 256
def b0 (a : Nat) : Nat := a % 256
def textI (a : Nat) : List Int := decI (b3 a) ++ 46 :: (decI (b2 a) ++ 46 :: (decI (b1 a) ++ 46 :: decI (b0 a)))
def textB (a : Nat) : List UInt8 := bys (textI a)

/-! ### reading it -/
/-- What is left of a text, as its bytes; the address and the part so far, the part's digits, the points. -/
def addrGo : List UInt8 → Int → Int → Int → Int → Int × Int
  | [], a, p, m, q => if q = 3 ∧ 0 < m then (a * 256 + p, 0) else (0, 2)
  | c :: cs, a, p, m, q =>
    if (c.toNat : Int) = 46 ∧ 0 < m ∧ q < 3 then addrGo cs (a * 256 + p) 0 0 (q + 1)
    else if 48 ≤ (c.toNat : Int) ∧ (c.toNat : Int) ≤ 57 ∧ (m = 0 ∨ 0 < p) ∧ p * 10 + ((c.toNat : Int) - 48) ≤ 255 then addrGo cs a (p * 10 + ((c.toNat : Int) - 48)) (m + 1) q
    else (0, 2)
theorem addrGo_cons (c : UInt8) (cs : List UInt8) (a p m q : Int) : addrGo (c :: cs) a p m q =
    if (c.toNat : Int) = 46 ∧ 0 < m ∧ q < 3 then addrGo cs (a * 256 + p) 0 0 (q + 1)
    else if 48 ≤ (c.toNat : Int) ∧ (c.toNat : Int) ≤ 57 ∧ (m = 0 ∨ 0 < p) ∧ p * 10 + ((c.toNat : Int) - 48) ≤ 255 then addrGo cs a (p * 10 + ((c.toNat : Int) - 48)) (m + 1) q
    else (0, 2) := rfl
theorem addrGo_nil (a p m q : Int) : addrGo [] a p m q = if q = 3 ∧ 0 < m then (a * 256 + p, 0) else (0, 2) := rfl
/-- The digits of a part are read. -/
theorem addrGo_dec (n : Nat) (hn : n ≤ 255) : ∀ (rest : List UInt8) (a q : Int), ∃ m, 0 < m ∧ addrGo (bys (decI n) ++ rest) a 0 0 q = addrGo rest a n m q ∧ (n = 0 → m = 1) := by
  induction n using Nat.strongRecOn with
  | _ n ih =>
    intro rest a q
    by_cases h : n < 10
    · refine ⟨1, by omega, ?_, fun _ => rfl⟩
      rw [decI_small h, bys_cons, bys_nil, List.singleton_append]
      have e : ((UInt8.ofNat (48 + (n : Int)).toNat).toNat : Int) = 48 + n := toNat_ofNat8 _ (by omega) (by omega)
      rw [addrGo_cons, if_neg (by omega), if_pos (by omega), e]
      rw [show (0 : Int) * 10 + (48 + (n : Int) - 48) = n from by omega]; rfl
    · obtain ⟨m, hm, hr, _⟩ := ih (n / 10) (by omega) (by omega) (UInt8.ofNat (48 + ((n % 10 : Nat) : Int)).toNat :: rest) a q
      refine ⟨m + 1, by omega, ?_, fun h0 => by omega⟩
      rw [decI_big h, bys_append, bys_cons, bys_nil, List.append_assoc, List.singleton_append, hr]
      have e : ((UInt8.ofNat (48 + ((n % 10 : Nat) : Int)).toNat).toNat : Int) = 48 + (n % 10 : Nat) := toNat_ofNat8 _ (by omega) (by omega)
      rw [addrGo_cons, if_neg (by omega), if_pos (by omega), e]
      rw [show ((n / 10 : Nat) : Int) * 10 + (48 + ((n % 10 : Nat) : Int) - 48) = n from by omega]
theorem addrGo_dot (n m : Int) (hm : 0 < m) (rest : List UInt8) (a q : Int) (hq : q < 3) : addrGo (UInt8.ofNat (46 : Int).toNat :: rest) a n m q = addrGo rest (a * 256 + n) 0 0 (q + 1) := by
  have e : ((UInt8.ofNat (46 : Int).toNat).toNat : Int) = 46 := by decide
  rw [addrGo_cons, if_pos ⟨e, hm, hq⟩]
/-- An address's text is read as it. -/
theorem addrGo_text (a : Nat) (ha : a < 4294967296) : addrGo (textB a) 0 0 0 0 = ((a : Int), 0) := by
  have h3 : b3 a ≤ 255 := by unfold b3; omega
  have h2 : b2 a ≤ 255 := by unfold b2; omega
  have h1 : b1 a ≤ 255 := by unfold b1; omega
  have h0 : b0 a ≤ 255 := by unfold b0; omega
  unfold textB textI
  simp only [bys_append, bys_cons]
  obtain ⟨m3, p3, e3, _⟩ := addrGo_dec (b3 a) h3 (UInt8.ofNat (46 : Int).toNat :: (bys (decI (b2 a)) ++ UInt8.ofNat (46 : Int).toNat :: (bys (decI (b1 a)) ++ UInt8.ofNat (46 : Int).toNat :: bys (decI (b0 a))))) 0 0
  rw [e3, addrGo_dot _ _ p3 _ _ _ (by omega)]
  obtain ⟨m2, p2, e2, _⟩ := addrGo_dec (b2 a) h2 (UInt8.ofNat (46 : Int).toNat :: (bys (decI (b1 a)) ++ UInt8.ofNat (46 : Int).toNat :: bys (decI (b0 a)))) (0 * 256 + b3 a) (0 + 1)
  rw [e2, addrGo_dot _ _ p2 _ _ _ (by omega)]
  obtain ⟨m1, p1, e1, _⟩ := addrGo_dec (b1 a) h1 (UInt8.ofNat (46 : Int).toNat :: bys (decI (b0 a))) ((0 * 256 + b3 a) * 256 + b2 a) (0 + 1 + 1)
  rw [e1, addrGo_dot _ _ p1 _ _ _ (by omega)]
  obtain ⟨m0, p0, e0, _⟩ := addrGo_dec (b0 a) h0 [] (((0 * 256 + b3 a) * 256 + b2 a) * 256 + b1 a) (0 + 1 + 1 + 1)
  rw [List.append_nil] at e0
  rw [e0]
  rw [addrGo_nil, if_pos ⟨by omega, p0⟩]
  congr 1
  unfold b3 b2 b1 b0
  omega
/-- The text of what was read so far: the points' parts, and the part that is begun. -/
def soFar (a p m q : Int) : List UInt8 :=
  (if q ≤ 0 then [] else if q ≤ 1 then bys (decI a.toNat ++ [46]) else if q ≤ 2 then bys (decI (a.toNat / 256) ++ 46 :: (decI (a.toNat % 256) ++ [46])) else bys (decI (a.toNat / 65536) ++ 46 :: (decI (a.toNat / 256 % 256) ++ 46 :: (decI (a.toNat % 256) ++ [46]))))
   ++ (if m ≤ 0 then [] else bys (decI p.toNat))
/-- What holds of the numbers. -/
def AInv (a p m q : Int) : Prop := 0 ≤ p ∧ p ≤ 255 ∧ 0 ≤ m ∧ (m ≤ 0 → p ≤ 0) ∧ 0 ≤ q ∧ q ≤ 3 ∧ 0 ≤ a ∧ (q ≤ 0 → a ≤ 0) ∧ (q ≤ 1 → a ≤ 255) ∧ (q ≤ 2 → a ≤ 65535) ∧ a ≤ 16777215
theorem ofNat_toNat8 (c : UInt8) : UInt8.ofNat ((c.toNat : Int)).toNat = c := by simp
/-- What is read is an address, and the text is its text; else there is the error. -/
theorem addrGo_only : ∀ (s : List UInt8) (a p m q : Int), AInv a p m q →
    (addrGo s a p m q = (0, 2)) ∨ (∃ r : Nat, r < 4294967296 ∧ addrGo s a p m q = ((r : Int), 0) ∧ soFar a p m q ++ s = textB r) := by
  intro s
  induction s with
  | nil =>
    intro a p m q h
    unfold AInv at h
    rw [addrGo_nil]
    by_cases h3 : q = 3 ∧ 0 < m
    · rw [if_pos h3]
      refine .inr ⟨(a * 256 + p).toNat, by omega, by rw [Int.toNat_of_nonneg (by omega)], ?_⟩
      unfold soFar textB textI
      rw [if_neg (by omega), if_neg (by omega), if_neg (by omega), if_neg (by omega), List.append_nil]
      have e3 : b3 (a * 256 + p).toNat = a.toNat / 65536 := by unfold b3; omega
      have e2 : b2 (a * 256 + p).toNat = a.toNat / 256 % 256 := by unfold b2; omega
      have e1 : b1 (a * 256 + p).toNat = a.toNat % 256 := by unfold b1; omega
      have e0 : b0 (a * 256 + p).toNat = p.toNat := by unfold b0; omega
      rw [e3, e2, e1, e0]
      simp [bys_append, bys_cons, bys_nil]
    · rw [if_neg h3]; exact .inl rfl
  | cons c cs ih =>
    intro a p m q h
    have h' := h
    unfold AInv at h
    have hc := c.toNat_lt
    rw [addrGo_cons]
    by_cases h1 : (c.toNat : Int) = 46 ∧ 0 < m ∧ q < 3
    · rw [if_pos h1]
      rcases ih (a * 256 + p) 0 0 (q + 1) (by unfold AInv; omega) with e | ⟨r, hr, e, et⟩
      · exact .inl e
      · refine .inr ⟨r, hr, e, ?_⟩
        rw [← et]
        have hcc : c = UInt8.ofNat (46 : Int).toNat := by rw [← h1.1]; exact (ofNat_toNat8 c).symm
        have key : soFar a p m q ++ [c] = soFar (a * 256 + p) 0 0 (q + 1) := by
          unfold soFar
          rw [if_neg (show ¬ m ≤ 0 by omega), if_neg (show ¬ q + 1 ≤ 0 by omega), if_pos (show (0 : Int) ≤ 0 by omega), List.append_nil]
          by_cases q0 : q ≤ 0
          · rw [if_pos q0, if_pos (by omega), show (a * 256 + p).toNat = p.toNat from by omega, hcc]
            simp [bys_append, bys_cons, bys_nil]
          · rw [if_neg q0]
            by_cases q1 : q ≤ 1
            · rw [if_pos q1, if_neg (by omega), if_pos (by omega), show (a * 256 + p).toNat / 256 = a.toNat from by omega, show (a * 256 + p).toNat % 256 = p.toNat from by omega, hcc]
              simp [bys_append, bys_cons, bys_nil]
            · rw [if_neg q1, if_pos (show q ≤ 2 by omega), if_neg (by omega), if_neg (by omega), show (a * 256 + p).toNat / 65536 = a.toNat / 256 from by omega, show (a * 256 + p).toNat / 256 % 256 = a.toNat % 256 from by omega, show (a * 256 + p).toNat % 256 = p.toNat from by omega, hcc]
              simp [bys_append, bys_cons, bys_nil]
        rw [← key, List.append_assoc, List.singleton_append]
    · rw [if_neg h1]
      by_cases h2 : 48 ≤ (c.toNat : Int) ∧ (c.toNat : Int) ≤ 57 ∧ (m = 0 ∨ 0 < p) ∧ p * 10 + ((c.toNat : Int) - 48) ≤ 255
      · rw [if_pos h2]
        rcases ih a (p * 10 + ((c.toNat : Int) - 48)) (m + 1) q (by unfold AInv; omega) with e | ⟨r, hr, e, et⟩
        · exact .inl e
        · refine .inr ⟨r, hr, e, ?_⟩
          rw [← et]
          have key : soFar a p m q ++ [c] = soFar a (p * 10 + ((c.toNat : Int) - 48)) (m + 1) q := by
            unfold soFar
            rw [if_neg (show ¬ m + 1 ≤ 0 by omega), List.append_assoc]
            congr 1
            by_cases m0 : m ≤ 0
            · rw [if_pos m0, decI_small (by omega), List.nil_append, bys_cons, bys_nil, show (48 + ((p * 10 + ((c.toNat : Int) - 48)).toNat : Int)) = c.toNat from by omega, ofNat_toNat8]
            · rw [if_neg m0, decI_big (n := (p * 10 + ((c.toNat : Int) - 48)).toNat) (by omega), show (p * 10 + ((c.toNat : Int) - 48)).toNat / 10 = p.toNat from by omega, bys_append, bys_cons, bys_nil,
                show (48 + (((p * 10 + ((c.toNat : Int) - 48)).toNat % 10 : Nat) : Int)) = c.toNat from by omega, ofNat_toNat8]
          rw [← key, List.append_assoc, List.singleton_append]
      · rw [if_neg h2]; exact .inl rfl
theorem addrGo_start (s : List UInt8) : addrGo s 0 0 0 0 = (0, 2) ∧ (∀ r : Nat, r < 4294967296 → textB r ≠ s) ∨ ∃ r : Nat, r < 4294967296 ∧ addrGo s 0 0 0 0 = ((r : Int), 0) ∧ s = textB r := by
  rcases addrGo_only s 0 0 0 0 (by unfold AInv; omega) with h | ⟨r, hr, h, ht⟩
  · refine .inl ⟨h, fun r hr e => ?_⟩
    rw [← e, addrGo_text r hr] at h
    simp at h
  · exact .inr ⟨r, hr, h, by simpa [soFar] using ht⟩
theorem textB_inj (a b : Nat) (ha : a < 4294967296) (hb : b < 4294967296) (h : textB a = textB b) : a = b := by
  have e := addrGo_text a ha
  rw [h, addrGo_text b hb] at e
  simp at e
  omega

/-! ### prefixes -/
/-- How many addresses a prefix of so many bits has. -/
def sz (n : Int) : Nat := 2 ^ (32 - n.toNat)
theorem sz_pos (n : Int) : 0 < sz n := Nat.two_pow_pos _
theorem sz_le (n : Int) : sz n ≤ 4294967296 := by
  have : sz n ≤ 2 ^ 32 := Nat.pow_le_pow_right (by omega) (by omega)
  omega
theorem sz_dvd (n m : Int) (h : n ≤ m) (hm : m ≤ 32) : sz n = sz m * 2 ^ ((32 - n.toNat) - (32 - m.toNat)) := by
  unfold sz
  rw [← Nat.pow_add]
  congr 1
  omega
theorem sz_all (n : Int) (h0 : 0 ≤ n) (h1 : n ≤ 32) : 4294967296 = sz n * 2 ^ n.toNat := by
  unfold sz
  rw [← Nat.pow_add, show 32 - n.toNat + n.toNat = 32 from by omega]
/-- A mask of the highest of 32 bits. -/
theorem mask_eq (j : Nat) (hj : j ≤ 32) : 4294967296 - 2 ^ j = (2 ^ (32 - j) - 1) * 2 ^ j := by
  rw [Nat.sub_mul, ← Nat.pow_add, show 32 - j + j = 32 from by omega, Nat.one_mul]
theorem mask_bit (j i : Nat) (hj : j ≤ 32) : (4294967296 - 2 ^ j).testBit i = (decide (j ≤ i) && decide (i < 32)) := by
  rw [mask_eq j hj, Nat.testBit_mul_two_pow, Nat.testBit_two_pow_sub_one]
  by_cases h : j ≤ i
  · by_cases h2 : i < 32
    · simp [h, h2, show i - j < 32 - j from by omega]
    · simp [h, h2, show ¬ i - j < 32 - j from by omega]
  · simp [h]
theorem high_bit (b i : Nat) (hb : b < 4294967296) (hi : 32 ≤ i) : b.testBit i = false :=
  Nat.testBit_lt_two_pow (Nat.lt_of_lt_of_le (show b < 2 ^ 32 from hb) (Nat.pow_le_pow_right (by omega) hi))
theorem and_mask (b j : Nat) (hb : b < 4294967296) (hj : j ≤ 32) : b &&& (4294967296 - 2 ^ j) = b / 2 ^ j * 2 ^ j := by
  apply Nat.eq_of_testBit_eq
  intro i
  rw [Nat.testBit_and, mask_bit j i hj, Nat.testBit_mul_two_pow, Nat.testBit_div_two_pow]
  by_cases h : j ≤ i
  · rw [show i - j + j = i from by omega]
    by_cases h2 : i < 32
    · simp [h, h2]
    · simp [h, h2, high_bit b i hb (by omega)]
  · simp [h]
theorem i64_andNot_mask (b j : Nat) (hb : b < 4294967296) (hj : j ≤ 32) : Go.bits .andNot .i64 (b : Int) ((4294967296 - 2 ^ j : Nat) : Int) = ((b % 2 ^ j : Nat) : Int) := by
  have hm : 4294967296 - 2 ^ j < 9223372036854775808 := Nat.lt_of_le_of_lt (Nat.sub_le _ _) (by omega)
  show IntKind.i64.wrap ((BitVec.ofInt 64 (b : Int) &&& ~~~ BitVec.ofInt 64 ((4294967296 - 2 ^ j : Nat) : Int)).toNat : Int) = _
  have key : (BitVec.ofInt 64 (b : Int) &&& ~~~ BitVec.ofInt 64 ((4294967296 - 2 ^ j : Nat) : Int)).toNat = b % 2 ^ j := by
    apply Nat.eq_of_testBit_eq
    intro i
    rw [BitVec.testBit_toNat, BitVec.getLsbD_and, BitVec.getLsbD_not, ← BitVec.testBit_toNat, ← BitVec.testBit_toNat, toNat_ofInt_nat b (by omega), toNat_ofInt_nat _ hm, mask_bit j i hj, Nat.testBit_mod_two_pow]
    by_cases h2 : i < 32
    · by_cases h : j ≤ i
      · simp [h, h2, show ¬ i < j from by omega]
      · simp [h, h2, show i < j from by omega, show i < 64 from by omega]
    · simp [high_bit b i hb (by omega)]
  rw [key, IntKind.wrap_i64]
  have : b % 2 ^ j ≤ b := Nat.mod_le _ _
  omega
/-- Is a prefix right? -/
def fairB (b n : Int) : Bool := decide (0 ≤ n ∧ n ≤ 32 ∧ 0 ≤ b ∧ b ≤ 4294967295 ∧ b % (sz n : Int) = 0)
theorem fairB_iff (b n : Int) : fairB b n = true ↔ 0 ≤ n ∧ n ≤ 32 ∧ 0 ≤ b ∧ b ≤ 4294967295 ∧ b % (sz n : Int) = 0 := by unfold fairB; exact decide_eq_true_iff
/-- Has it an address? -/
def hasB (b n a : Int) : Bool := fairB b n && decide (b ≤ a ∧ a < b + sz n)
/-- A prefix that is right ends within all addresses. -/
theorem fair_end (b n : Int) (h : fairB b n = true) : b + sz n ≤ 4294967296 := by
  obtain ⟨h0, h1, h2, h3, h4⟩ := (fairB_iff b n).1 h
  have e := sz_all n h0 h1
  have hp := sz_pos n
  obtain ⟨q, hq⟩ := Int.dvd_of_emod_eq_zero h4
  have hlt : q < ((2 ^ n.toNat : Nat) : Int) := by
    refine Int.lt_of_not_ge fun hge => ?_
    have : (sz n : Int) * ((2 ^ n.toNat : Nat) : Int) ≤ sz n * q := Int.mul_le_mul_of_nonneg_left hge (by omega)
    rw [← Int.natCast_mul, ← e] at this
    omega
  have : (sz n : Int) * (q + 1) ≤ sz n * ((2 ^ n.toNat : Nat) : Int) := Int.mul_le_mul_of_nonneg_left (by omega) (by omega)
  rw [← Int.natCast_mul, ← e, Int.mul_add, ← hq] at this
  omega
/-- Of two prefixes that are right, the one with fewer bits has all of the other one, or nothing of it. -/
theorem fair_two (b n c m : Int) (h : fairB b n = true) (k : fairB c m = true) (hnm : n ≤ m) : c + sz m ≤ b ∨ b + sz n ≤ c ∨ (b ≤ c ∧ c + sz m ≤ b + sz n) := by
  obtain ⟨h0, h1, h2, h3, h4⟩ := (fairB_iff b n).1 h
  obtain ⟨k0, k1, k2, k3, k4⟩ := (fairB_iff c m).1 k
  obtain ⟨q, hq⟩ := Int.dvd_of_emod_eq_zero h4
  obtain ⟨r, hr⟩ := Int.dvd_of_emod_eq_zero k4
  have hs : (0 : Int) < sz m := by have := sz_pos m; omega
  have e := sz_dvd n m hnm k1
  generalize (2 ^ ((32 - n.toNat) - (32 - m.toNat)) : Nat) = t at e
  have e' : (sz n : Int) = sz m * t := by rw [e]; push_cast; rfl
  generalize (sz m : Int) = s at *
  generalize (sz n : Int) = u at *
  subst e' hq hr
  -- in multiples of s: c = r, b = t * q, sizes 1 and t
  by_cases c1 : r + 1 ≤ t * q
  · left
    have := Int.mul_le_mul_of_nonneg_left c1 (show 0 ≤ s by omega)
    rw [Int.mul_add, Int.mul_one, ← Int.mul_assoc] at this
    omega
  · by_cases c2 : t * q + t ≤ r
    · right; left
      have := Int.mul_le_mul_of_nonneg_left c2 (show 0 ≤ s by omega)
      rw [Int.mul_add, ← Int.mul_assoc] at this
      omega
    · right; right
      have d1 : t * q ≤ r := by omega
      have d2 : r + 1 ≤ t * q + t := by omega
      have := Int.mul_le_mul_of_nonneg_left d1 (show 0 ≤ s by omega)
      have := Int.mul_le_mul_of_nonneg_left d2 (show 0 ≤ s by omega)
      rw [Int.mul_add, Int.mul_one, Int.mul_add, ← Int.mul_assoc] at this
      rw [← Int.mul_assoc] at *
      omega
end Go.Proofs.YtdajdpgnhjlbaaaDoor.Com
