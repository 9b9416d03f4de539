/- What the printed functions of this group come to, in plain words; each under its theorem's own conditions. -/
import Derived.Test.YtlabpabnddfllaaPAddrx2
import Derived.Test.YtlabpabnddfllaaPAddrx3
import Derived.Test.YtlabpabnddfllaaPAddrx5
import Derived.Test.YtlabpabnddfllaaAdr
import Derived.Test.YtlabpabnddfllaaAddrS0
set_option linter.unusedVariables false
set_option linter.unusedSimpArgs false
namespace Go.Proofs.Ytlabpabnddfllaa.PAddr
open Go.RowKit Go.Proofs.YtlabpabnddfllaaW.PrintWords Go.Proofs.YtlabpabnddfllaaW.PrintLast Go.Proofs.YtlabpabnddfllaaW.PrintMore

/-! ### boarderref01.Text -/
theorem boarderref01_Text_s (a : Nat) (ha : a < 4294967296) (k : Nat) (hk : 300 ≤ k) : ∃ s, boarderref01_Text.f k a = some s ∧ s.toList = Com.textB a := by
  have g3 : Com.b3 a ≤ 255 := by unfold Com.b3; omega
  have g2 : Com.b2 a ≤ 255 := by unfold Com.b2; omega
  have g1 : Com.b1 a ≤ 255 := by unfold Com.b1; omega
  have g0 : Com.b0 a ≤ 255 := by unfold Com.b0; omega
  have l3 := Com.decI_len (Com.b3 a)
  have l2 := Com.decI_len (Com.b2 a)
  have l1 := Com.decI_len (Com.b1 a)
  have l0 := Com.decI_len (Com.b0 a)
  have e3 : wrap64 (Int.tdiv (a : Int) 16777216) = (Com.b3 a : Int) := by rw [Int.tdiv_eq_ediv_of_nonneg (by omega)]; unfold wrap64 Com.b3; omega
  have e2 : Int.tmod (wrap64 (Int.tdiv (a : Int) 65536)) 256 = (Com.b2 a : Int) := by
    rw [Int.tdiv_eq_ediv_of_nonneg (by omega), show wrap64 ((a : Int) / 65536) = (a : Int) / 65536 from by unfold wrap64; omega, Int.tmod_eq_emod_of_nonneg (by omega)]; unfold Com.b2; omega
  have e1 : Int.tmod (wrap64 (Int.tdiv (a : Int) 256)) 256 = (Com.b1 a : Int) := by
    rw [Int.tdiv_eq_ediv_of_nonneg (by omega), show wrap64 ((a : Int) / 256) = (a : Int) / 256 from by unfold wrap64; omega, Int.tmod_eq_emod_of_nonneg (by omega)]; unfold Com.b1; omega
  have e0 : Int.tmod (a : Int) 256 = (Com.b0 a : Int) := by rw [Int.tmod_eq_emod_of_nonneg (by omega)]; unfold Com.b0; omega
  unfold boarderref01_Text.f
  rw [e3, e2, e1, e0]
  clear e3 e2 e1 e0
  rw [boarderref01_decimal_s (Com.b3 a) (by omega) k (by omega), boarderref01_decimal_s (Com.b2 a) (by omega) k (by omega), boarderref01_decimal_s (Com.b1 a) (by omega) k (by omega), boarderref01_decimal_s (Com.b0 a) (by omega) k (by omega)]
  have z3 := strOfNums_size (Com.decI (Com.b3 a))
  have z2 := strOfNums_size (Com.decI (Com.b2 a))
  have z1 := strOfNums_size (Com.decI (Com.b1 a))
  have z0 := strOfNums_size (Com.decI (Com.b0 a))
  have t3 := Com.strOfNums_toList (Com.decI (Com.b3 a))
  have t2 := Com.strOfNums_toList (Com.decI (Com.b2 a))
  have t1 := Com.strOfNums_toList (Com.decI (Com.b1 a))
  have t0 := Com.strOfNums_toList (Com.decI (Com.b0 a))
  have hf : Com.textB a = Com.bys (Com.decI (Com.b3 a)) ++ 46 :: (Com.bys (Com.decI (Com.b2 a)) ++ 46 :: (Com.bys (Com.decI (Com.b1 a)) ++ 46 :: Com.bys (Com.decI (Com.b0 a)))) := by
    unfold Com.textB Com.textI
    simp [Com.bys_append, Com.bys_cons]
  rw [hf, ← t3, ← t2, ← t1, ← t0]
  clear hf t3 t2 t1 t0
  generalize strOfNums (Com.decI (Com.b3 a)) = s3 at *
  generalize strOfNums (Com.decI (Com.b2 a)) = s2 at *
  generalize strOfNums (Com.decI (Com.b1 a)) = s1 at *
  generalize strOfNums (Com.decI (Com.b0 a)) = s0 at *
  have hd : (⟨#[46]⟩ : ByteArray).size = 1 := rfl
  have hl : (⟨#[46]⟩ : ByteArray).toList = [46] := by rw [ByteArray.toList_eq]
  generalize (⟨#[46]⟩ : ByteArray) = dot at *
  have q1 : (s3 ++ dot).size = s3.size + 1 := by rw [ByteArray.size_append, hd]
  have q2 : (s3 ++ dot ++ s2).size = s3.size + 1 + s2.size := by rw [ByteArray.size_append, q1]
  have q3 : (s3 ++ dot ++ s2 ++ dot).size = s3.size + 1 + s2.size + 1 := by rw [ByteArray.size_append, q2, hd]
  have q4 : (s3 ++ dot ++ s2 ++ dot ++ s1).size = s3.size + 1 + s2.size + 1 + s1.size := by rw [ByteArray.size_append, q3]
  have q5 : (s3 ++ dot ++ s2 ++ dot ++ s1 ++ dot).size = s3.size + 1 + s2.size + 1 + s1.size + 1 := by rw [ByteArray.size_append, q4, hd]
  refine ⟨s3 ++ dot ++ s2 ++ dot ++ s1 ++ dot ++ s0, ?_, ?_⟩
  · simp only [Option.bind_some]
    rw [if_pos (by omega), if_pos (by omega), if_pos (by omega), if_pos (by omega), if_pos (by omega), if_pos (by omega)]
  · simp [Com.toList_append, hl]

/-! ### boarderref01.Parse -/
/-- What the document's reading does, over what is left: the address, the part. -/
def rp : List UInt8 → Int → Int → Option Int
  | [], a, p => some (a * 256 + p)
  | c :: cs, a, p =>
    if (c.toNat : Int) = 46 then (if a * 256 + p > 16777215 then none else rp cs (a * 256 + p) 0)
    else if (c.toNat : Int) < 48 ∨ 57 < (c.toNat : Int) then none
    else if p * 10 + c.toNat - 48 > 255 then none
    else if a > 16777215 then none else rp cs a (p * 10 + c.toNat - 48)
theorem rp_bound : ∀ (s : List UInt8) (a p r : Int), 0 ≤ a → a ≤ 16777215 → 0 ≤ p → p ≤ 255 → rp s a p = some r → 0 ≤ r ∧ r ≤ 4294967295 := by
  intro s
  induction s with
  | nil => intro a p r h0 h1 h2 h3 h; rw [rp] at h; have := Option.some.inj h; omega
  | cons c cs ih =>
    intro a p r h0 h1 h2 h3 h
    rw [rp] at h
    by_cases c1 : (c.toNat : Int) = 46
    · rw [if_pos c1] at h
      by_cases c2 : a * 256 + p > 16777215
      · rw [if_pos c2] at h; exact absurd h (by simp)
      · rw [if_neg c2] at h; exact ih _ _ r (by omega) (by omega) (by omega) (by omega) h
    · rw [if_neg c1] at h
      by_cases c2 : (c.toNat : Int) < 48 ∨ 57 < (c.toNat : Int)
      · rw [if_pos c2] at h; exact absurd h (by simp)
      · rw [if_neg c2] at h
        by_cases c3 : p * 10 + c.toNat - 48 > 255
        · rw [if_pos c3] at h; exact absurd h (by simp)
        · rw [if_neg c3, if_neg (by omega)] at h
          exact ih _ _ r (by omega) (by omega) (by omega) (by omega) h
/-- What the program reads is what the document's reading comes to. -/
theorem rp_of_go : ∀ (s : List UInt8) (a p m q r : Int), 0 ≤ a → a ≤ 16777215 → 0 ≤ p → p ≤ 255 → Com.AInv a p m q → Com.addrGo s a p m q = (r, 0) → rp s a p = some r := by
  intro s
  induction s with
  | nil =>
    intro a p m q r h0 h1 h2 h3 hi h
    rw [Com.addrGo_nil] at h
    by_cases c : q = 3 ∧ 0 < m
    · rw [if_pos c] at h; rw [rp]; simp at h; rw [h]
    · rw [if_neg c] at h; simp at h
  | cons c cs ih =>
    intro a p m q r h0 h1 h2 h3 hi h
    have hi' := hi
    unfold Com.AInv at hi
    rw [Com.addrGo_cons] at h
    rw [rp]
    by_cases c1 : (c.toNat : Int) = 46 ∧ 0 < m ∧ q < 3
    · rw [if_pos c1] at h
      rw [if_pos c1.1, if_neg (by omega)]
      exact ih _ _ _ _ r (by omega) (by omega) (by omega) (by omega) (by unfold Com.AInv; omega) h
    · rw [if_neg c1] at h
      by_cases c2 : 48 ≤ (c.toNat : Int) ∧ (c.toNat : Int) ≤ 57 ∧ (m = 0 ∨ 0 < p) ∧ p * 10 + ((c.toNat : Int) - 48) ≤ 255
      · rw [if_pos c2] at h
        rw [if_neg (by omega), if_neg (by omega), if_neg (by omega), if_neg (by omega), show p * 10 + (c.toNat : Int) - 48 = p * 10 + ((c.toNat : Int) - 48) from by omega]
        exact ih _ _ _ _ r (by omega) (by omega) (by omega) (by omega) (by unfold Com.AInv; omega) h
      · rw [if_neg c2] at h; simp at h
/-- What the document's reading answers. -/
def rpAns (s : List UInt8) (o : Option Int) : Int × Bool := match o with | none => (0, false) | some r => if Com.textB r.toNat = s then (r, true) else (0, false)
theorem boarderref01_Parse_l (s : ByteArray) (hs : s.size ≤ 140737488351232) (d : Nat) : ∀ (pos : Nat) (a p : Int) (k : Nat), pos + d = s.size → 0 ≤ a → a ≤ 16777215 → 0 ≤ p → p ≤ 255 → 2 * d + 301 ≤ k →
    boarderref01_Parse.l0 k s a p pos = some (rpAns s.toList (rp (s.toList.drop pos) a p)) := by
  induction d with
  | zero =>
    intro pos a p k hp h0 h1 h2 h3 hk
    obtain ⟨k, rfl⟩ : ∃ m, k = m + 1 := ⟨k - 1, by omega⟩
    rw [boarderref01_Parse.l0, if_neg (by omega), show wrap64 (wrap64 (a * 256) + p) = a * 256 + p from by unfold wrap64; omega, List.drop_eq_nil_of_le (by rw [ByteArray.toList_eq]; have : s.data.toList.length = s.size := rfl; omega), rp]
    obtain ⟨x, hx⟩ := Int.eq_ofNat_of_zero_le (show 0 ≤ a * 256 + p by omega)
    rw [hx]
    obtain ⟨t, ht, ht2⟩ := boarderref01_Text_s x (by omega) k (by omega)
    rw [ht, Option.bind_some, ht2]
    unfold rpAns
    simp only [Int.toNat_natCast]
    split <;> rfl
  | succ d ih =>
    intro pos a p k hp h0 h1 h2 h3 hk
    obtain ⟨k, rfl⟩ : ∃ m, k = m + 1 + 1 := ⟨k - 2, by omega⟩
    have hlt : pos < s.size := by omega
    have hc : bt s pos = ((s[pos]'hlt).toNat : Int) := (bt_at s pos (by simpa using hlt)).symm
    have hd : s.toList.drop pos = (s[pos]'hlt) :: s.toList.drop (pos + 1) := by
      rw [ByteArray.toList_eq, List.drop_eq_getElem_cons (by simpa using hlt)]; rfl
    rw [boarderref01_Parse.l0, if_pos (by omega), if_pos (by omega), hd, rp, hc]
    have hw : wrap64 ((pos : Int) + 1) = ((pos + 1 : Nat) : Int) := by unfold wrap64; omega
    have hcc := (s[pos]'hlt).toNat_lt
    generalize (s[pos]'hlt) = c at *
    have j1 : ∀ k x, boarderref01_Parse.j1 (k + 1) s a p pos x = if x = true then (some (0, false)) else (if 0 ≤ (pos : Int) then (if (pos : Int) < (s.size : Int) then (if (wrap64 ((wrap64 ((wrap64 (p * 10)) + (wrap64 (bt s pos)))) - 48)) > 255 then (some (0, false)) else (if a > 16777215 then (some (0, false)) else (boarderref01_Parse.l0 k s a (wrap64 ((wrap64 ((wrap64 (p * 10)) + (wrap64 (bt s pos)))) - 48)) (wrap64 (pos + 1))))) else (none)) else (none)) := fun k x => by rw [boarderref01_Parse.j1]
    by_cases c1 : (c.toNat : Int) = 46
    · rw [if_pos c1, if_pos c1, if_neg (by omega), show wrap64 (wrap64 (a * 256) + p) = a * 256 + p from by unfold wrap64; omega]
      by_cases c2 : a * 256 + p > 16777215
      · rw [if_pos c2, if_pos c2]; rfl
      · rw [if_neg c2, if_neg c2, hw]
        exact ih (pos + 1) _ 0 (k + 1) (by omega) (by omega) (by omega) (by omega) (by omega) (by omega)
    · rw [if_neg c1, if_neg c1]
      by_cases c2 : (c.toNat : Int) < 48 ∨ 57 < (c.toNat : Int)
      · rw [if_pos c2]
        by_cases c3 : (c.toNat : Int) < 48
        · rw [if_pos c3, j1, if_pos rfl]; rfl
        · rw [if_neg c3, j1, if_pos (decide_eq_true (by omega))]; rfl
      · rw [if_neg (by omega), if_neg c2, j1, if_neg (by simp; omega), if_pos (by omega), if_pos (by omega), hc,
          show wrap64 (wrap64 (wrap64 (p * 10) + wrap64 (c.toNat : Int)) - 48) = p * 10 + c.toNat - 48 from by unfold wrap64; omega]
        by_cases c3 : p * 10 + c.toNat - 48 > 255
        · rw [if_pos c3, if_pos c3]; rfl
        · rw [if_neg c3, if_neg c3, if_neg (by omega), if_neg (by omega), hw]
          exact ih (pos + 1) _ _ k (by omega) (by omega) (by omega) (by omega) (by omega) (by omega)
/-- The document's reading: an address just of its text. -/
theorem boarderref01_Parse_s (s : ByteArray) (hs : s.size ≤ 140737488351232) (k : Nat) (hk : 2 * s.size + 301 ≤ k) :
    boarderref01_Parse.f k s = some (if (Com.addrGo s.toList 0 0 0 0).2 = 0 then ((Com.addrGo s.toList 0 0 0 0).1, true) else (0, false)) := by
  unfold boarderref01_Parse.f
  have e := boarderref01_Parse_l s hs s.size 0 0 0 k (by omega) (by omega) (by omega) (by omega) (by omega) hk
  rw [show boarderref01_Parse.l0 k s 0 0 0 = boarderref01_Parse.l0 k s 0 0 ((0 : Nat) : Int) from rfl, e]
  simp only [List.drop_zero]
  congr 1
  rcases Com.addrGo_start s.toList with ⟨h, hn⟩ | ⟨r, hr, h, ht⟩
  · rw [h, if_neg (by simp)]
    unfold rpAns
    cases e : rp s.toList 0 0 with
    | none => rfl
    | some r =>
      have hb := rp_bound s.toList 0 0 r (by omega) (by omega) (by omega) (by omega) e
      show (if Com.textB r.toNat = s.toList then (r, true) else (0, false)) = _
      rw [if_neg (hn r.toNat (by omega))]
  · rw [h, if_pos rfl, rp_of_go s.toList 0 0 0 0 r (by omega) (by omega) (by omega) (by omega) (by unfold Com.AInv; omega) h]
    show (if Com.textB ((r : Int)).toNat = s.toList then ((r : Int), true) else (0, false)) = _
    rw [Int.toNat_natCast, if_pos ht.symm]

/-! ### boarderref01.Size -/
theorem boarderref01_Size_l (d : Nat) : ∀ (n : Int) (x : Nat) (k : Nat), 0 ≤ n → n + d = 32 → x * 2 ^ d ≤ 4294967296 → d < k → boarderref01_Size.l0 k x n = some ((x * 2 ^ d : Nat) : Int) := by
  induction d with
  | zero =>
    intro n x k h0 h1 h2 hk
    obtain ⟨k, rfl⟩ : ∃ m, k = m + 1 := ⟨k - 1, by omega⟩
    rw [boarderref01_Size.l0, if_neg (by omega)]; simp
  | succ d ih =>
    intro n x k h0 h1 h2 hk
    obtain ⟨k, rfl⟩ : ∃ m, k = m + 1 := ⟨k - 1, by omega⟩
    have hp := Nat.two_pow_pos d
    have e : x * 2 ^ (d + 1) = x * 2 * 2 ^ d := by rw [Nat.pow_succ, Nat.mul_assoc, Nat.mul_comm 2]
    have hx : x * 2 ≤ 4294967296 := by
      rw [e] at h2
      exact Nat.le_trans (Nat.le_mul_of_pos_right _ hp) h2
    rw [boarderref01_Size.l0, if_pos (by omega), show wrap64 ((x : Int) * 2) = ((x * 2 : Nat) : Int) from by unfold wrap64; omega, show wrap64 (n + 1) = n + 1 from by unfold wrap64; omega, ih (n + 1) (x * 2) k (by omega) (by omega) (by omega) (by omega), e]
theorem boarderref01_Size_s (n : Int) (h0 : 0 ≤ n) (h1 : n ≤ 32) (k : Nat) (hk : 40 ≤ k) : boarderref01_Size.f k n = some (Com.sz n : Int) := by
  have e := boarderref01_Size_l (32 - n.toNat) n 1 k h0 (by omega) (by have := Com.sz_le n; unfold Com.sz at this; omega) (by omega)
  rw [Nat.one_mul] at e
  exact e

/-! ### boarderref01.Fair -/
theorem boarderref01_Fair_s (b n : Int) (k : Nat) (hk : 40 ≤ k) : boarderref01_Fair.f k b n = some (Com.fairB b n) := by
  unfold boarderref01_Fair.f Com.fairB
  by_cases h0 : n ≥ 0
  · rw [if_pos h0]
    by_cases h1 : n ≤ 32
    · rw [if_pos h1, boarderref01_Right_s]
      simp only [Option.bind_some]
      by_cases h2 : 0 ≤ b ∧ b ≤ 4294967295
      · have hp := Com.sz_pos n
        rw [decide_eq_true h2, if_pos rfl, boarderref01_Size_s n h0 h1 k hk, Option.bind_some, if_neg (by omega), Int.tmod_eq_emod_of_nonneg h2.1]
        congr 1
        rw [Bool.eq_iff_iff, beq_iff_eq, decide_eq_true_iff]
        exact ⟨fun h => ⟨h0, h1, h2.1, h2.2, h⟩, fun h => h.2.2.2.2⟩
      · rw [decide_eq_false h2, if_neg (by simp), decide_eq_false (fun h => h2 ⟨h.2.2.1, h.2.2.2.1⟩)]
    · rw [if_neg h1, decide_eq_false (fun h => h1 h.2.1)]
  · rw [if_neg h0, decide_eq_false (fun h => h0 h.1)]

/-! ### boarderref01.Mask -/
theorem boarderref01_Mask_s (n : Int) (h0 : 0 ≤ n) (h1 : n ≤ 32) (k : Nat) (hk : 40 ≤ k) : boarderref01_Mask.f k n = some (4294967296 - (Com.sz n : Int)) := by
  unfold boarderref01_Mask.f
  have := Com.sz_le n
  rw [boarderref01_Size_s n h0 h1 k hk, Option.bind_some, show wrap64 (4294967296 - (Com.sz n : Int)) = 4294967296 - (Com.sz n : Int) from by unfold wrap64; omega]

/-! ### boarderref01.Last -/
theorem boarderref01_Last_s (b n : Int) (h : Com.fairB b n = true) (k : Nat) (hk : 40 ≤ k) : boarderref01_Last.f k b n = some (b + (Com.sz n : Int) - 1) := by
  unfold boarderref01_Last.f
  obtain ⟨h0, h1, h2, h3, h4⟩ := (Com.fairB_iff b n).1 h
  have := Com.sz_le n
  rw [boarderref01_Size_s n h0 h1 k hk, Option.bind_some, show wrap64 (wrap64 (b + (Com.sz n : Int)) - 1) = b + (Com.sz n : Int) - 1 from by unfold wrap64; omega]

/-! ### boarderref01.Has -/
theorem boarderref01_Has_s (b n a : Int) (k : Nat) (hk : 40 ≤ k) : boarderref01_Has.f k b n a = some (Com.hasB b n a) := by
  unfold boarderref01_Has.f Com.hasB
  rw [boarderref01_Fair_s b n k hk, Option.bind_some]
  by_cases h : Com.fairB b n = true
  · obtain ⟨h0, h1, h2, h3, h4⟩ := (Com.fairB_iff b n).1 h
    have he := Com.fair_end b n h
    have hz := Com.sz_le n
    rw [if_pos h, h, Bool.true_and, boarderref01_Right_s, Option.bind_some]
    by_cases ha : 0 ≤ a ∧ a ≤ 4294967295
    · rw [decide_eq_true ha, if_pos rfl]
      by_cases hb : a ≥ b
      · rw [if_pos hb, boarderref01_Size_s n h0 h1 k hk, Option.bind_some, show wrap64 (b + (Com.sz n : Int)) = b + (Com.sz n : Int) from by unfold wrap64; omega]
        congr 1; exact decide_eq_decide.2 ⟨fun h2 => ⟨hb, h2⟩, fun h2 => h2.2⟩
      · rw [if_neg hb, decide_eq_false (fun h => hb h.1)]
    · rw [decide_eq_false ha, if_neg (by simp), decide_eq_false (by omega)]
  · rw [if_neg h, Bool.eq_false_iff.2 h, Bool.false_and]

/-! ### addr.Meet -/
/-- Do two prefixes meet? -/
def meetB (b n c m : Int) : Bool := Com.fairB b n && (Com.fairB c m && (decide (b ≤ c ∧ c < b + Com.sz n) || decide (c ≤ b ∧ b < c + Com.sz m)))
theorem addr_Meet_s (b n c m : Int) : addr_Meet.f b n c m = some (meetB b n c m) := by
  unfold addr_Meet.f meetB
  rw [addr_Fair_s, addr_Fair_s, addr_Has_s, addr_Has_s]
  unfold Com.hasB
  simp only [Option.bind_some]
  cases Com.fairB b n <;> cases Com.fairB c m <;> cases decide (b ≤ c ∧ c < b + Com.sz n) <;> simp

/-! ### boarderref01.Meet -/
theorem boarderref01_Meet_s (b n c m : Int) (k : Nat) (hk : 41 ≤ k) : boarderref01_Meet.f k b n c m = some (meetB b n c m) := by
  obtain ⟨k, rfl⟩ : ∃ q, k = q + 1 := ⟨k - 1, by omega⟩
  unfold boarderref01_Meet.f meetB
  rw [boarderref01_Fair_s b n _ (by omega), boarderref01_Fair_s c m _ (by omega)]
  simp only [Option.bind_some]
  by_cases h : Com.fairB b n = true
  · rw [h, if_pos rfl, Bool.true_and]
    by_cases h2 : Com.fairB c m = true
    · rw [h2, Bool.true_and, boarderref01_Meet.j0, if_neg (by simp), boarderref01_Last_s c m h2 k (by omega), boarderref01_Last_s b n h k (by omega)]
      simp only [Option.bind_some]
      have p1 := Com.sz_pos n
      have p2 := Com.sz_pos m
      by_cases q1 : b ≤ c + (Com.sz m : Int) - 1
      · rw [if_pos q1]
        congr 1
        rw [Bool.eq_iff_iff, Bool.or_eq_true, decide_eq_true_iff, decide_eq_true_iff, decide_eq_true_iff]
        omega
      · rw [if_neg q1]
        congr 1
        rw [eq_comm, Bool.or_eq_false_iff, decide_eq_false_iff_not, decide_eq_false_iff_not]
        omega
    · rw [Bool.eq_false_iff.2 h2, Bool.false_and, boarderref01_Meet.j0]; rfl
  · rw [Bool.eq_false_iff.2 h, if_neg (by simp), Bool.false_and, boarderref01_Meet.j0]; rfl

end Go.Proofs.Ytlabpabnddfllaa.PAddr
