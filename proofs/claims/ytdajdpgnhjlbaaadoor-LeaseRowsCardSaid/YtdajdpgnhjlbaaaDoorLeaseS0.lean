/- What the printed functions of this group come to, in plain words; each under its theorem's own conditions. -/
import Derived.Test.YtdajdpgnhjlbaaaDoorPLeasex2
import Derived.Test.YtdajdpgnhjlbaaaDoorPLeasex3
import Derived.Test.YtdajdpgnhjlbaaaDoorAdr
import Derived.Test.YtdajdpgnhjlbaaaDoorLeaseTab
import Derived.Test.YtdajdpgnhjlbaaaDoorLeaseHex
import Derived.Test.YtdajdpgnhjlbaaaDoorLeaseLin
set_option linter.unusedVariables false
set_option linter.unusedSimpArgs false
namespace Go.Proofs.YtdajdpgnhjlbaaaDoor.PLease
open Go.RowKit Go.Proofs.YtdajdpgnhjlbaaaDoorW.PrintWords Go.Proofs.YtdajdpgnhjlbaaaDoorW.PrintLast Go.Proofs.YtdajdpgnhjlbaaaDoorW.PrintMore

/-! ### addr.Right -/
theorem addr_Right_s (a : Int) : addr_Right.f a = some (decide (0 ≤ a ∧ a ≤ 4294967295)) := by
  unfold addr_Right.f
  by_cases h : a ≥ 0
  · rw [if_pos h]; congr 1; exact decide_eq_decide.2 ⟨fun h2 => ⟨h, h2⟩, fun h2 => h2.2⟩
  · rw [if_neg h, decide_eq_false (by omega)]

/-! ### key.Right -/
theorem key_Right_s (s : ByteArray) (hs : s.size ≤ maxLen) : key_Right.f s = some (keyB s) := by
  unfold key_Right.f keyB
  simp only [maxLen] at hs
  have hw : wrap64 ((s.size : Int) - 1) = (s.size : Int) - 1 := by unfold wrap64; omega
  rw [hw]
  clear hw
  by_cases h0 : (s.size : Int) = 0
  · rw [if_pos h0, decide_eq_false (show ¬ 3 ≤ s.size by omega)]; rfl
  · rw [if_neg h0, if_pos (by omega)]
    by_cases h1 : bt s 0 = 105
    · rw [if_pos h1]
      by_cases h2 : (s.size : Int) - 1 ≥ 2
      · rw [if_pos h2, decide_eq_true (show 3 ≤ s.size by omega), Bool.true_and]
        congr 1
        rw [Bool.eq_iff_iff, decide_eq_true_iff, Bool.or_eq_true, decide_eq_true_iff, decide_eq_true_iff]
        constructor
        · intro h; exact .inl ⟨h1, by omega⟩
        · rintro (⟨_, h⟩ | ⟨h, _⟩) <;> omega
      · rw [if_neg h2, decide_eq_false (show ¬ 3 ≤ s.size by omega)]; rfl
    · rw [if_neg h1]
      by_cases h3 : bt s 0 = 104
      · rw [if_pos h3]
        by_cases h2 : (s.size : Int) - 1 ≥ 2
        · rw [if_pos h2, decide_eq_true (show 3 ≤ s.size by omega), Bool.true_and]
          congr 1
          rw [Bool.eq_iff_iff, decide_eq_true_iff, Bool.or_eq_true, decide_eq_true_iff, decide_eq_true_iff]
          constructor
          · intro h; exact .inr ⟨h3, by omega⟩
          · rintro (⟨h, _⟩ | ⟨_, h⟩) <;> omega
        · rw [if_neg h2, decide_eq_false (show ¬ 3 ≤ s.size by omega)]; rfl
      · rw [if_neg h3, decide_eq_false (show ¬ (bt s 0 = 105 ∧ s.size ≤ 256) from fun h => h1 h.1), decide_eq_false (show ¬ (bt s 0 = 104 ∧ s.size ≤ 18) from fun h => h3 h.1), Bool.or_false, Bool.and_false]

/-! ### record.Right -/
theorem record_Right_s (l : Le) (hs : l.f3.size ≤ maxLen) : record_Right.f l.f0 l.f1 l.f2 l.f3 = some (leaseB l) := by
  unfold record_Right.f leaseB
  rw [addr_Right_s, key_Right_s l.f3 hs]
  simp only [Option.bind_some]
  by_cases h0 : 0 ≤ l.f0 ∧ l.f0 ≤ 4294967295
  · rw [decide_eq_true h0, if_pos rfl]
    by_cases h1 : l.f1 ≥ 1
    · rw [if_pos h1]
      by_cases h2 : l.f1 ≤ 3
      · rw [if_pos h2]
        by_cases h3 : l.f2 ≥ 0
        · rw [if_pos h3]
          by_cases h4 : l.f2 ≤ 1125899906842624
          · rw [if_pos h4, decide_eq_true ⟨h0.1, h0.2, h1, h2, h3, h4⟩, Bool.true_and]
          · rw [if_neg h4, decide_eq_false (fun h => h4 h.2.2.2.2.2)]; rfl
        · rw [if_neg h3, decide_eq_false (fun h => h3 h.2.2.2.2.1)]; rfl
      · rw [if_neg h2, decide_eq_false (fun h => h2 h.2.2.2.1)]; rfl
    · rw [if_neg h1, decide_eq_false (fun h => h1 h.2.2.1)]; rfl
  · rw [decide_eq_false h0, if_neg (by simp), decide_eq_false (fun h => h0 ⟨h.1, h.2.1⟩)]; rfl

/-! ### addr.digits -/
theorem addr_digits_s (n : Nat) (hn : n ≤ 4611686018427387903) : ∀ (k : Nat) (l : List Int), n < k → l.length + (Com.decI n).length ≤ 140737488355328 → addr_digits.f k l n = some (l ++ Com.decI n) := by
  induction n using Nat.strongRecOn with
  | _ n ih =>
    intro k l hk hl
    obtain ⟨k, rfl⟩ : ∃ m, k = m + 1 := ⟨k - 1, by omega⟩
    have hlen := Com.decI_len n
    simp only [addr_digits.f]
    have e1 : wrap64 (48 + Int.tmod (n : Int) 10) % 256 = 48 + ((n % 10 : Nat) : Int) := by
      rw [Int.tmod_eq_emod_of_nonneg (by omega)]; unfold wrap64; omega
    by_cases h : n < 10
    · rw [Com.decI_small h] at hl ⊢
      rw [if_neg (by omega), if_pos (by simp at hl; omega), e1, show n % 10 = n from by omega]
    · rw [Com.decI_big h] at hl ⊢
      simp only [List.length_append, List.length_cons, List.length_nil] at hl
      have e2 : wrap64 (Int.tdiv (n : Int) 10) = ((n / 10 : Nat) : Int) := by
        rw [Int.tdiv_eq_ediv_of_nonneg (by omega)]; unfold wrap64; omega
      rw [if_pos (by omega), e2, ih (n / 10) (by omega) (by omega) k l (by omega) (by omega)]
      simp only [Option.bind_some]
      rw [if_pos (by simp; omega), e1, List.append_assoc]

/-! ### addr.Text -/
theorem addr_Text_byte (a : Nat) (ha : a < 4294967296) (s : Nat) (hs : s ≤ 24) : Go.bits .and .i64 (shr .i64 (a : Int) (s : Int)) 255 = ((a / 2 ^ s % 256 : Nat) : Int) := by
  have e : shr .i64 (a : Int) (s : Int) = ((a / 2 ^ s : Nat) : Int) := by
    unfold shr
    rw [show min (s : Int).toNat (IntKind.bits .i64) = s from by simp [IntKind.bits]; omega]
    push_cast; rfl
  have h2 : a / 2 ^ s ≤ a := Nat.div_le_self _ _
  rw [e]
  exact Com.i64_and_low (a / 2 ^ s) 8 (by omega) (by omega)
theorem addr_Text_s (a : Nat) (ha : a < 4294967296) (k : Nat) (hk : 300 ≤ k) : addr_Text.f k a = some (strOfNums (Com.textI a), 0) := by
  obtain ⟨k, rfl⟩ : ∃ m, k = m + 5 := ⟨k - 5, by omega⟩
  have g3 : Com.b3 a ≤ 255 := by unfold Com.b3; omega
  have g2 : Com.b2 a ≤ 255 := by unfold Com.b2; omega
  have g1 : Com.b1 a ≤ 255 := by unfold Com.b1; omega
  have g0 : Com.b0 a ≤ 255 := by unfold Com.b0; omega
  have l3 := Com.decI_len (Com.b3 a)
  have l2 := Com.decI_len (Com.b2 a)
  have l1 := Com.decI_len (Com.b1 a)
  have l0 := Com.decI_len (Com.b0 a)
  have e3 : Go.bits .and .i64 (shr .i64 (a : Int) 24) 255 = (Com.b3 a : Int) := addr_Text_byte a ha 24 (by omega)
  have e2 : Go.bits .and .i64 (shr .i64 (a : Int) 16) 255 = (Com.b2 a : Int) := addr_Text_byte a ha 16 (by omega)
  have e1 : Go.bits .and .i64 (shr .i64 (a : Int) 8) 255 = (Com.b1 a : Int) := addr_Text_byte a ha 8 (by omega)
  have e0 : Go.bits .and .i64 (shr .i64 (a : Int) 0) 255 = (Com.b0 a : Int) := by
    have := addr_Text_byte a ha 0 (by omega)
    rw [show a / 2 ^ 0 % 256 = Com.b0 a from by unfold Com.b0; simp] at this
    exact this
  have w3 : wrap64 (24 - 8) = 16 := by unfold wrap64; omega
  have w2 : wrap64 (16 - 8) = 8 := by unfold wrap64; omega
  have w1 : wrap64 (8 - 8) = 0 := by unfold wrap64; omega
  have w0 : wrap64 (0 - 8) = -8 := by unfold wrap64; omega
  unfold addr_Text.f
  rw [addr_Right_s, decide_eq_true (by omega)]
  simp only [Option.bind_some, if_true]
  -- the four rounds
  have step : ∀ (k : Nat) (x : List Int) (b s : Int) (n : Nat), 256 ≤ k → n ≤ 255 → 0 ≤ s → 0 < x.length → x.length ≤ 1000 → Go.bits .and .i64 (shr .i64 b s) 255 = (n : Int) → addr_Text.l0 (k + 1) b x s = addr_Text.l0 k b (x ++ [46] ++ Com.decI n) (wrap64 (s - 8)) := by
    intro k x b s n hk hn hs hx hx2 hb
    have ln := Com.decI_len n
    rw [addr_Text.l0, if_pos hs, if_pos (by omega), if_pos (by omega), if_pos hs, hb, addr_digits_s n (by omega) k (x ++ [46]) (by omega) (by simp; omega)]
    rfl
  rw [addr_Text.l0, if_pos (by omega), if_neg (by simp), if_pos (by omega), e3, addr_digits_s (Com.b3 a) (by omega) (k + 4) [] (by omega) (by simp; omega)]
  simp only [Option.bind_some, List.nil_append]
  rw [w3, step (k + 3) _ a 16 (Com.b2 a) (by omega) g2 (by omega) (by omega) (by omega) e2, w2, step (k + 2) _ a 8 (Com.b1 a) (by omega) g1 (by omega) (by simp; omega) (by simp; omega) e1, w1,
    step (k + 1) _ a 0 (Com.b0 a) (by omega) g0 (by omega) (by simp; omega) (by simp; omega) e0, w0, addr_Text.l0, if_neg (by omega)]
  unfold Com.textI
  simp
theorem addr_Text_no (a : Int) (h : ¬ (0 ≤ a ∧ a ≤ 4294967295)) (k : Nat) : addr_Text.f k a = some (⟨#[]⟩, 1) := by
  unfold addr_Text.f
  rw [addr_Right_s, decide_eq_false h]
  rfl

/-! ### key.Text -/
theorem bt_head (s : ByteArray) : bt s 0 = (bytesOf s).headD 0 := by
  rw [← rd_bytesOf, rd]
  cases bytesOf s <;> rfl
theorem textL_head {L : List Int} (h : keyL L = true) : [L.headD 0, 45] ++ hexL (L.drop 1) = textL L := by
  cases L with
  | nil => simp [keyL] at h
  | cons c l => rfl
theorem key_Text_loop (X : List Int) (hX : By X) (hl : X.length ≤ 1000) : ∀ (d i : Nat) (acc : List Int), i + d = X.length → acc.length + 2 * d ≤ 100000 → Ev (fun k => key_Text.l0 k acc X (X.length : Int) (i : Int)) (strOfNums (acc ++ hexL (X.drop i)), 0) := by
  intro d
  induction d with
  | zero =>
    intro i acc hi ha
    refine Ev.step (f := fun _ => some (strOfNums acc, 0)) (fun k => ?_) (Ev.eqv Ev.some' ?_)
    · show key_Text.l0 (k + 1) _ _ _ _ = _
      rw [key_Text.l0, if_neg (by omega)]
    · rw [show X.drop i = [] from List.drop_eq_nil_of_le (by omega), hexL, List.append_nil]
  | succ d ih =>
    intro i acc hi ha
    have hiX : i < X.length := by omega
    have hb := hX X[i] (List.getElem_mem hiX)
    have e1 : Int.tdiv X[i] 16 % 256 = X[i] / 16 := by rw [Int.tdiv_eq_ediv_of_nonneg hb.1]; omega
    have e2 : Int.tmod X[i] 16 = X[i] % 16 := Int.tmod_eq_emod_of_nonneg hb.1
    refine Ev.step (f := fun k => key_Text.l0 k (acc ++ [hx (X[i] / 16), hx (X[i] % 16)]) X (X.length : Int) ((i + 1 : Nat) : Int)) (fun k => ?_) (Ev.eqv (ih (i + 1) (acc ++ [hx (X[i] / 16), hx (X[i] % 16)]) (by omega) (by simp only [List.length_append, List.length_cons, List.length_nil]; omega)) ?_)
    · show key_Text.l0 (k + 1) _ _ _ _ = _
      rw [key_Text.l0, if_pos (by omega), if_pos (by omega), if_pos (by omega), rd_at hiX, e1, e2, if_pos (by omega), if_pos (by omega), if_pos (by omega), if_pos (by omega), tab_hx _ (by omega) (by omega), tab_hx _ (by omega) (by omega), Option.bind_some, if_pos (show acc.length + ([hx (X[i] / 16), hx (X[i] % 16)] : List Int).length < 140737488355328 by simp only [List.length_cons, List.length_nil]; omega), wrap_next hiX (by omega)]
    · rw [List.drop_eq_getElem_cons hiX, hexL]; simp
theorem key_Text_s (s : ByteArray) (hs : s.size ≤ maxLen) : Ev (fun k => key_Text.f k s) (if keyB s = true then (strOfNums (textL (bytesOf s)), 0) else ((⟨#[]⟩ : ByteArray), 1)) := by
  refine Ev.congr (f := fun k => if keyB s = true then (if 0 < (s.size : Int) then (if 1 ≤ (s.size : Int) then (if ((s.extract 1 s.size).size : Int) ≤ 281474976710656 then ((some (bytesOf (s.extract 1 s.size) : List Int)).bind fun y151 => (key_Text.l0 k (([bt s 0, 45] : List Int)) y151 (y151.length : Int) 0)) else (none)) else (none)) else (none)) else (some ((⟨#[]⟩ : ByteArray), 1))) (fun k => by unfold key_Text.f; rw [key_Right_s s hs]; rfl) ?_
  by_cases h : keyB s = true
  · rw [if_pos h]
    refine Ev.pos h ?_
    have hl := h
    rw [keyB_L] at hl
    have h2 := keyL_len hl
    rw [bytesOf_length] at h2
    have hz : (s.extract 1 s.size).size = s.size - 1 := by rw [ByteArray.size_extract]; omega
    refine Ev.pos (by omega) (Ev.pos (by omega) (Ev.pos (by rw [hz]; omega) ?_))
    have hL : ((bytesOf s).drop 1).length = s.size - 1 := by rw [List.length_drop, bytesOf_length]
    refine Ev.eqv (Ev.congr (f := fun k => key_Text.l0 k [bt s 0, 45] ((bytesOf s).drop 1) (((bytesOf s).drop 1).length : Int) ((0 : Nat) : Int)) (fun k => by rw [bytes_cut, Option.bind_some]; rfl) (key_Text_loop _ (By.drop 1 (bytesOf_by s)) (by omega) ((bytesOf s).drop 1).length 0 [bt s 0, 45] (by omega) (by simp only [List.length_cons, List.length_nil]; omega))) ?_
    rw [bt_head, List.drop_zero, textL_head hl]
  · rw [if_neg h]
    exact Ev.neg h Ev.some'

/-! ### ltext.digits -/
theorem ltext_digits_s (n : Nat) (hn : n ≤ 4611686018427387903) : ∀ (k : Nat) (l : List Int), n < k → l.length + (Com.decI n).length ≤ 140737488355328 → ltext_digits.f k l n = some (l ++ Com.decI n) := by
  induction n using Nat.strongRecOn with
  | _ n ih =>
    intro k l hk hl
    obtain ⟨k, rfl⟩ : ∃ m, k = m + 1 := ⟨k - 1, by omega⟩
    have hlen := Com.decI_len n
    simp only [ltext_digits.f]
    have e1 : wrap64 (48 + Int.tmod (n : Int) 10) % 256 = 48 + ((n % 10 : Nat) : Int) := by
      rw [Int.tmod_eq_emod_of_nonneg (by omega)]; unfold wrap64; omega
    by_cases h : n < 10
    · rw [Com.decI_small h] at hl ⊢
      rw [if_neg (by omega), if_pos (by simp at hl; omega), e1, show n % 10 = n from by omega]
    · rw [Com.decI_big h] at hl ⊢
      simp only [List.length_append, List.length_cons, List.length_nil] at hl
      have e2 : wrap64 (Int.tdiv (n : Int) 10) = ((n / 10 : Nat) : Int) := by
        rw [Int.tdiv_eq_ediv_of_nonneg (by omega)]; unfold wrap64; omega
      rw [if_pos (by omega), e2, ih (n / 10) (by omega) (by omega) k l (by omega) (by omega)]
      simp only [Option.bind_some]
      rw [if_pos (by simp; omega), e1, List.append_assoc]

/-! ### ltext.Line -/
theorem textI_len (a : Nat) : (Com.textI a).length ≤ 1100 := by
  have l3 := Com.decI_len (Com.b3 a)
  have l2 := Com.decI_len (Com.b2 a)
  have l1 := Com.decI_len (Com.b1 a)
  have l0 := Com.decI_len (Com.b0 a)
  have g3 : Com.b3 a ≤ 255 := by unfold Com.b3; omega
  have g2 : Com.b2 a ≤ 255 := by unfold Com.b2; omega
  have g1 : Com.b1 a ≤ 255 := by unfold Com.b1; omega
  have g0 : Com.b0 a ≤ 255 := by unfold Com.b0; omega
  unfold Com.textI
  simp only [List.length_append, List.length_cons]
  omega
theorem textI_by (a : Nat) : By (Com.textI a) := by
  unfold Com.textI
  have hd : ∀ n, By (Com.decI n) := fun n x hx => by have := Com.decI_byte n x hx; omega
  exact By.app.2 ⟨hd _, By.cons.2 ⟨by omega, By.app.2 ⟨hd _, By.cons.2 ⟨by omega, By.app.2 ⟨hd _, By.cons.2 ⟨by omega, hd _⟩⟩⟩⟩⟩⟩
theorem wordL_by (st : Int) : By (wordL st) := by
  intro x hx
  unfold wordL at hx
  split at hx
  · simp at hx; omega
  · split at hx <;> (simp at hx; omega)
theorem line_by {l : Le} (h : leaseB l = true) : By (lineL l) := by
  unfold lineL
  have hd : ∀ n, By (Com.decI n) := fun n x hx => by have := Com.decI_byte n x hx; omega
  exact By.app.2 ⟨textI_by _, By.cons.2 ⟨by omega, By.app.2 ⟨wordL_by _, By.cons.2 ⟨by omega, By.app.2 ⟨hd _, By.cons.2 ⟨by omega, textL_by _ (bytesOf_by _)⟩⟩⟩⟩⟩⟩
theorem ltext_Line_s (l : Le) (hs : l.f3.size ≤ 100000000) : Ev (fun k => ltext_Line.f k l.f0 l.f1 l.f2 l.f3) (if leaseB l = true then (strOfNums (lineL l), 0) else ((⟨#[]⟩ : ByteArray), 1)) := by
  unfold ltext_Line.f
  rw [record_Right_s l (by simp only [maxLen]; omega)]
  refine Ev.congr (fun k => by rw [Option.bind_some]) ?_
  by_cases hl : leaseB l = true
  · rw [if_pos hl]
    obtain ⟨a1, a2, s1, s3, e1, e2, hk⟩ := leaseB_of hl
    have ha : l.f0 = ((l.f0.toNat : Nat) : Int) := by omega
    have he : l.f2 = ((l.f2.toNat : Nat) : Int) := by omega
    have hw : wrap64 (l.f1 - 1) = l.f1 - 1 := by unfold wrap64; omega
    have hT := textI_len l.f0.toNat
    have hW := wordL_len l.f1
    have hD := decI_len16 l.f2.toNat (by omega)
    have hkl := bytesOf_length l.f3
    have hks : 3 ≤ l.f3.size ∧ l.f3.size ≤ 256 := by
      unfold keyB at hk
      simp only [Bool.and_eq_true, Bool.or_eq_true, decide_eq_true_iff] at hk
      omega
    have hkt := textL_len (L := bytesOf l.f3) (fun e => by rw [e] at hkl; simp at hkl; omega)
    refine Ev.pos hl (Ev.bind (a := (strOfNums (Com.textI l.f0.toNat), 0)) ⟨300, fun k hk => by have h := addr_Text_s l.f0.toNat (by omega) k hk; rw [← ha] at h; exact h⟩ (Ev.bind (Ev.eqv (key_Text_s l.f3 (by simp only [maxLen]; omega)) (if_pos hk)) ?_))
    simp only [hw, word_tab l.f1 s1 s3, sp_str, ← Com.strOfNums_append, str_size, List.length_append, List.length_singleton]
    have hb : bytesOf (strOfNums (Com.textI l.f0.toNat ++ [32] ++ wordL l.f1 ++ [32])) = Com.textI l.f0.toNat ++ [32] ++ wordL l.f1 ++ [32] :=
      bytes_str _ (By.app.2 ⟨By.app.2 ⟨By.app.2 ⟨textI_by _, By.cons.2 ⟨by omega, By.nil⟩⟩, wordL_by _⟩, By.cons.2 ⟨by omega, By.nil⟩⟩)
    rw [hb]
    refine Ev.pos (by omega) (Ev.pos (by omega) (Ev.pos (by omega) (Ev.pos (by omega) (Ev.pos (by omega) (Ev.pos (by omega) (Ev.bind (a := (Com.textI l.f0.toNat ++ [32] ++ wordL l.f1 ++ [32]) ++ Com.decI l.f2.toNat) ⟨l.f2.toNat + 1, fun k hk => by have h := ltext_digits_s l.f2.toNat (by omega) k (Com.textI l.f0.toNat ++ [32] ++ wordL l.f1 ++ [32]) (by omega) (by simp only [List.length_append, List.length_singleton]; omega); rw [← he] at h; exact h⟩ ?_))))))
    simp only [← Com.strOfNums_append, str_size, List.length_append, List.length_singleton]
    refine Ev.pos (by omega) (Ev.pos (by omega) (Ev.eqv Ev.some' ?_))
    congr 2
    unfold lineL
    simp [List.append_assoc]
  · rw [if_neg hl]
    exact Ev.neg hl Ev.some'

/-! ### ltext.split -/
theorem ltext_split_l (c : Int) (L : List Int) (hL : L.length ≤ 100000000) : ∀ (d i f : Nat) (acc : List (List Int)), i + d = L.length → f ≤ i → c ∉ (L.take i).drop f → acc.length ≤ i → Ev (fun k => ltext_split.l0 k L c acc (f : Int) L (L.length : Int) (i : Int)) (acc ++ splitL c (L.drop f)) := by
  intro d
  induction d with
  | zero =>
    intro i f acc hi hf hn ha
    obtain rfl : i = L.length := by omega
    rw [seg_end] at hn
    refine Ev.step (f := fun _ => some (acc ++ [L.drop f])) (fun k => ?_) ?_
    · show ltext_split.l0 (k + 1) _ _ _ _ _ _ _ = _
      rw [ltext_split.l0, if_neg (by omega), if_pos (by omega), if_pos (by omega), if_pos (by omega), if_pos (by omega)]
      rw [show ((L.length : Int) : Int).toNat = L.length from rfl, show ((f : Int)).toNat = f from rfl, seg_end]
    · rw [split_word hn]
      exact Ev.some'
  | succ d ih =>
    intro i f acc hi hf hn ha
    have hw : wrap64 ((i : Int) + 1) = ((i + 1 : Nat) : Int) := by unfold wrap64; omega
    have hg : rd L (i : Int) = L[i]'(by omega) := rd_get (by omega)
    refine Ev.step (f := fun k => if L[i]'(by omega) = c then ltext_split.l0 k L c (acc ++ [(L.take i).drop f]) ((i + 1 : Nat) : Int) L (L.length : Int) ((i + 1 : Nat) : Int) else ltext_split.l0 k L c acc (f : Int) L (L.length : Int) ((i + 1 : Nat) : Int)) (fun k => ?_) ?_
    · show ltext_split.l0 (k + 1) _ _ _ _ _ _ _ = _
      rw [ltext_split.l0, if_pos (by omega), if_pos (by omega), if_pos (by omega), hg, hw]
      by_cases h : L[i]'(by omega) = c
      · rw [if_pos h, if_pos h, if_pos (by omega), if_pos (by omega), if_pos (by omega), if_pos (by omega)]
        rfl
      · rw [if_neg h, if_neg h]
    · by_cases h : L[i]'(by omega) = c
      · refine Ev.pos h (Ev.eqv (ih (i + 1) (i + 1) (acc ++ [(L.take i).drop f]) (by omega) (Nat.le_refl _) (by rw [List.drop_eq_nil_of_le (by rw [List.length_take]; omega)]; simp) (by rw [List.length_append]; simp; omega)) ?_)
        rw [seg_drop (L := L) hf (by omega), h, split_cons _ hn, List.append_assoc]
        rfl
      · refine Ev.neg h (ih (i + 1) f acc (by omega) (by omega) ?_ (by omega))
        rw [seg_step (L := L) hf (by omega)]
        intro m
        rcases List.mem_append.1 m with m | m
        · exact hn m
        · exact h (List.mem_singleton.1 m).symm
theorem ltext_split_s (c : Int) (L : List Int) (hL : L.length ≤ 100000000) : Ev (fun k => ltext_split.f k L c) (splitL c L) := by
  have e := ltext_split_l c L hL L.length 0 0 [] (by omega) (Nat.le_refl _) (by simp) (by simp)
  rw [List.nil_append, List.drop_zero] at e
  exact e

/-! ### addr.Parse -/
theorem addr_Parse_s (s : ByteArray) : addr_Parse.f s = some (Com.addrGo s.toList 0 0 0 0) := by rw [ByteArray.toList_eq]; rfl

/-! ### key.digit -/
theorem key_digit_s (c : Int) : key_digit.f c = some (dg c) := rfl

/-! ### key.Parse -/
/-- What reading a key's text comes to. -/
def parseR (o : Option (List Int)) : ByteArray × Int := match o with | some x => (strOfNums x, 0) | none => ((⟨#[]⟩ : ByteArray), 2)
theorem wrap_dg {x y : Int} (hx : 0 ≤ x ∧ x ≤ 15) (hy : 0 ≤ y ∧ y ≤ 15) : wrap64 (wrap64 (16 * x) + y) % 256 = 16 * x + y := by unfold wrap64; omega
theorem key_Parse_loop (s : ByteArray) (hs : s.size ≤ 100000000) : ∀ (d i : Nat) (acc : List Int), i + 2 * d = s.size → By acc → acc.length + d ≤ 100000000 → Ev (fun k => key_Parse.l0 k s acc (i : Int)) (parseR ((unhex ((bytesOf s).drop i)).bind fun x => if keyL (acc ++ x) = true then some (acc ++ x) else none)) := by
  intro d
  induction d with
  | zero =>
    intro i acc hi hb ha
    refine Ev.step (f := fun k => if keyB (strOfNums acc) = true then (some (strOfNums acc, 0)) else (some ((⟨#[]⟩ : ByteArray), 2))) (fun k => ?_) ?_
    · show key_Parse.l0 (k + 1) _ _ _ = _
      rw [key_Parse.l0, if_neg (by omega), key_Right_s _ (by rw [str_size]; simp only [maxLen]; omega), Option.bind_some]
    · rw [show (bytesOf s).drop i = [] from List.drop_eq_nil_of_le (by rw [bytesOf_length]; omega), unhex, Option.bind_some, List.append_nil, keyB_str hb]
      by_cases h : keyL acc = true
      · exact Ev.eqv (Ev.pos h Ev.some') (by rw [if_pos h]; rfl)
      · exact Ev.eqv (Ev.neg h Ev.some') (by rw [if_neg h]; rfl)
  | succ d ih =>
    intro i acc hi hb ha
    have hL := bytesOf_length s
    have g1 : bt s (i : Int) = (bytesOf s)[i]'(by omega) := bt_get (by omega)
    have g2 : bt s ((i + 1 : Nat) : Int) = (bytesOf s)[i + 1]'(by omega) := bt_get (by omega)
    have w1 : wrap64 ((i : Int) + 1) = ((i + 1 : Nat) : Int) := by unfold wrap64; omega
    have w2 : wrap64 ((i : Int) + 2) = ((i + 2 : Nat) : Int) := by unfold wrap64; omega
    have hd : (bytesOf s).drop i = (bytesOf s)[i]'(by omega) :: (bytesOf s)[i + 1]'(by omega) :: (bytesOf s).drop (i + 2) := by
      rw [List.drop_eq_getElem_cons (by omega), List.drop_eq_getElem_cons (by omega)]
    have ra := dg_range ((bytesOf s)[i]'(by omega))
    have rb := dg_range ((bytesOf s)[i + 1]'(by omega))
    rw [hd, unhex]
    generalize (bytesOf s)[i]'(by omega) = a at *
    generalize (bytesOf s)[i + 1]'(by omega) = b at *
    refine Ev.step (f := fun k => if dg a = 16 then some ((⟨#[]⟩ : ByteArray), 2) else if dg b = 16 then some ((⟨#[]⟩ : ByteArray), 2) else key_Parse.l0 k s (acc ++ [(wrap64 ((wrap64 (16 * dg a)) + dg b)) % 256]) ((i + 2 : Nat) : Int)) (fun k => ?_) ?_
    · show key_Parse.l0 (k + 1) _ _ _ = _
      rw [key_Parse.l0, if_pos (by omega), if_pos (by omega), g1, key_digit_s, Option.bind_some, w1, if_pos (by omega), if_pos (by omega), g2, key_digit_s, Option.bind_some, if_pos (show acc.length < 140737488355328 by omega), w2]
    · by_cases ca : dg a = 16
      · rw [if_pos (.inl ca)]; exact Ev.pos ca Ev.some'
      · by_cases cb : dg b = 16
        · rw [if_pos (.inr cb)]; exact Ev.neg ca (Ev.pos cb Ev.some')
        · rw [if_neg (fun h => h.elim ca cb)]
          have e : wrap64 (wrap64 (16 * dg a) + dg b) % 256 = 16 * dg a + dg b := wrap_dg (by omega) (by omega)
          clear w1 w2 g1 g2 hd
          refine Ev.neg ca (Ev.neg cb ?_)
          rw [e]
          refine Ev.eqv (ih (i + 2) (acc ++ [16 * dg a + dg b]) (by omega) (By.app.2 ⟨hb, By.cons.2 ⟨by omega, By.nil⟩⟩) (by simp only [List.length_append, List.length_cons, List.length_nil]; omega)) ?_
          cases unhex ((bytesOf s).drop (i + 2)) with
          | none => rfl
          | some x => simp [Option.map_some]
theorem key_Parse_s (s : ByteArray) (hs : s.size ≤ 100000000) : Ev (fun k => key_Parse.f k s) (parseR (parseL (bytesOf s))) := by
  have hL := bytesOf_length s
  have hj : Ev (fun k => key_Parse.j0 k s true) (parseR none) := Ev.step (f := fun _ => some ((⟨#[]⟩ : ByteArray), 2)) (fun k => by show key_Parse.j0 (k + 1) _ _ = _; rw [key_Parse.j0, if_pos rfl]) Ev.some'
  by_cases h : (s.size : Int) < 2
  · refine Ev.congr (fun k => by unfold key_Parse.f; rw [if_pos h]) (Ev.eqv hj ?_)
    generalize bytesOf s = L at *
    cases L with
    | nil => rfl
    | cons a l => cases l with
      | nil => rfl
      | cons b l => simp at hL; omega
  · have g0 : bt s 0 = (bytesOf s)[0]'(by omega) := bt_get (i := 0) (by omega)
    have g1 : bt s 1 = (bytesOf s)[1]'(by omega) := bt_get (i := 1) (by omega)
    have hd : bytesOf s = bt s 0 :: bt s 1 :: (bytesOf s).drop 2 := by
      rw [g0, g1]
      conv => lhs; rw [← List.drop_zero (l := bytesOf s)]
      rw [List.drop_eq_getElem_cons (by omega), List.drop_eq_getElem_cons (by omega)]
    have hp : parseL (bytesOf s) = if bt s 1 = 45 then (unhex ((bytesOf s).drop 2)).bind (fun x => if keyL (bt s 0 :: x) = true then some (bt s 0 :: x) else none) else none := by
      conv => lhs; rw [hd, parseL]
    rw [hp]
    by_cases c : bt s 1 = 45
    · rw [if_pos c]
      have odd : ∀ l : List Int, l.length % 2 = 1 → unhex l = none := by
        intro l
        induction l using unhex.induct with
        | case1 => intro h; simp at h
        | case2 => intro _; rfl
        | case3 a b l hd => intro h; rw [unhex, if_pos hd]
        | case4 a b l hd ih => intro h; rw [unhex, if_neg hd, ih (by simp at h; omega)]; rfl
      by_cases p : s.size % 2 = 0
      · refine Ev.congr (f := fun k => key_Parse.j0 k s false) (fun k => by unfold key_Parse.f; rw [if_neg h, if_pos (by omega), if_pos c, show ((s.size : Int) % 2 != 0) = false from by rw [bne_eq_false_iff_eq]; omega]) ?_
        refine Ev.step (f := fun k => key_Parse.l0 k s [bt s 0] ((2 : Nat) : Int)) (fun k => ?_) (Ev.eqv (key_Parse_loop s hs ((s.size - 2) / 2) 2 [bt s 0] (by omega) (By.cons.2 ⟨bt_range s 0, By.nil⟩) (by simp; omega)) rfl)
        show key_Parse.j0 (k + 1) _ _ = _
        rw [key_Parse.j0, if_neg (by decide), if_pos (by omega)]
        rfl
      · refine Ev.congr (f := fun k => key_Parse.j0 k s true) (fun k => by unfold key_Parse.f; rw [if_neg h, if_pos (by omega), if_pos c, show ((s.size : Int) % 2 != 0) = true from by rw [bne_iff_ne]; omega]) ?_
        rw [odd _ (by rw [List.length_drop]; omega)]
        exact hj
    · rw [if_neg c]
      exact Ev.congr (fun k => by unfold key_Parse.f; rw [if_neg h, if_pos (by omega), if_neg c]) hj

end Go.Proofs.YtdajdpgnhjlbaaaDoor.PLease
