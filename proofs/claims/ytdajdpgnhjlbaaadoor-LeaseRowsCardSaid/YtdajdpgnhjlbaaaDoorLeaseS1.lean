/- What the printed functions of this group come to, in plain words; each under its theorem's own conditions. -/
import Derived.Test.YtdajdpgnhjlbaaaDoorPLeasex3
import Derived.Test.YtdajdpgnhjlbaaaDoorPLeasex4
import Derived.Test.YtdajdpgnhjlbaaaDoorPLeasex5
import Derived.Test.YtdajdpgnhjlbaaaDoorAdr
import Derived.Test.YtdajdpgnhjlbaaaDoorLeaseTab
import Derived.Test.YtdajdpgnhjlbaaaDoorLeaseHex
import Derived.Test.YtdajdpgnhjlbaaaDoorLeaseLin
import Derived.Test.YtdajdpgnhjlbaaaDoorLeaseS0
set_option linter.unusedVariables false
set_option linter.unusedSimpArgs false
namespace Go.Proofs.YtdajdpgnhjlbaaaDoor.PLease
open Go.RowKit Go.Proofs.YtdajdpgnhjlbaaaDoorW.PrintWords Go.Proofs.YtdajdpgnhjlbaaaDoorW.PrintLast Go.Proofs.YtdajdpgnhjlbaaaDoorW.PrintMore

/-! ### ltext.number -/
theorem ltext_number_l (L : List Int) (hL : L.length ≤ 100000000) : ∀ (d i : Nat) (n : Int), i + d = L.length → 0 ≤ n → n ≤ 1125899906842624 * 10 + 9 → Ev (fun k => ltext_number.l0 k L n L (L.length : Int) (i : Int)) (numP (L.drop i) n (decide (i = 0))) := by
  intro d
  induction d with
  | zero =>
    intro i n hi h0 hn
    obtain rfl : i = L.length := by omega
    rw [List.drop_length, numP]
    refine Ev.step (f := fun _ => some (if decide (L.length = 0) = true then -1 else n)) (fun k => ?_) Ev.some'
    show ltext_number.l0 (k + 1) _ _ _ _ _ = _
    rw [ltext_number.l0, if_neg (by omega)]
    by_cases h : L.length = 0
    · rw [if_pos (by omega), if_pos (by simpa using h)]
    · rw [if_neg (by omega), if_neg (by simpa using h)]
  | succ d ih =>
    intro i n hi h0 hn
    have hw : wrap64 ((i : Int) + 1) = ((i + 1 : Nat) : Int) := by unfold wrap64; omega
    have hg : rd L (i : Int) = L[i]'(by omega) := rd_get (by omega)
    rw [List.drop_eq_getElem_cons (l := L) (i := i) (by omega), numP]
    generalize L[i]'(by omega) = c at *
    refine Ev.step (f := fun k => if c < 48 ∨ c > 57 then some (-1) else if decide (i = 0) = false ∧ n = 0 then some (-1) else if n > 1125899906842624 then some (-1) else ltext_number.l0 k L (wrap64 ((wrap64 (n * 10)) + ((c - 48) % 256))) L (L.length : Int) ((i + 1 : Nat) : Int)) (fun k => ?_) ?_
    · show ltext_number.l0 (k + 1) _ _ _ _ _ = _
      rw [ltext_number.l0, if_pos (by omega), if_pos (by omega), if_pos (by omega), hg, hw]
      clear hw hg
      by_cases h1 : c < 48
      · rw [if_pos h1, if_pos (.inl h1)]
      by_cases h2 : c > 57
      · rw [if_neg h1, if_pos h2, if_pos (.inr h2)]
      rw [if_neg h1, if_neg h2, if_neg (show ¬ (c < 48 ∨ c > 57) from fun h => h.elim h1 h2)]
      by_cases h3 : i = 0
      · rw [if_neg (show ¬ (i : Int) > 0 by omega), if_neg (show ¬ (decide (i = 0) = false ∧ n = 0) by simp [h3])]
      · rw [if_pos (show (i : Int) > 0 by omega)]
        by_cases h4 : n = 0
        · rw [if_pos h4, if_pos (show decide (i = 0) = false ∧ n = 0 from ⟨by simp [h3], h4⟩)]
        · rw [if_neg h4, if_neg (show ¬ (decide (i = 0) = false ∧ n = 0) from fun h => h4 h.2)]
    · clear hw hg
      by_cases h1 : c < 48 ∨ c > 57
      · rw [if_pos h1]; exact Ev.pos h1 Ev.some'
      by_cases h2 : decide (i = 0) = false ∧ n = 0
      · rw [if_neg h1, if_pos h2]; exact Ev.neg h1 (Ev.pos h2 Ev.some')
      by_cases h3 : n > 1125899906842624
      · rw [if_neg h1, if_neg h2, if_pos h3]; exact Ev.neg h1 (Ev.neg h2 (Ev.pos h3 Ev.some'))
      rw [if_neg h1, if_neg h2, if_neg h3]
      have e : wrap64 ((wrap64 (n * 10)) + ((c - 48) % 256)) = n * 10 + (c - 48) := by unfold wrap64; omega
      rw [e]
      have := ih (i + 1) (n * 10 + (c - 48)) (by omega) (by omega) (by omega)
      rw [decide_eq_false (show ¬ i + 1 = 0 by omega)] at this
      exact Ev.neg h1 (Ev.neg h2 (Ev.neg h3 this))
theorem ltext_number_s (L : List Int) (hL : L.length ≤ 100000000) : Ev (fun k => ltext_number.f k L) (numP L 0 true) := by
  have e := ltext_number_l L hL L.length 0 0 (by omega) (by omega) (by omega)
  rw [List.drop_zero] at e
  exact e

/-! ### ltext.Lease -/
/-- What reading a lease's text comes to. -/
def ansL (o : Option Le) : Int × Int × Int × ByteArray × Int := match o with | some l => (l.f0, l.f1, l.f2, l.f3, 0) | none => (0, 0, 0, (⟨#[]⟩ : ByteArray), 2)
/-- The state that a word tells (the last one that does; none: 0). -/
def stateL (w : List Int) : Int := if w = wordL 3 then 3 else if w = wordL 2 then 2 else if w = wordL 1 then 1 else 0
theorem bys_eq {v w : List Int} (hv : By v) (hw : By w) : Com.bys v = Com.bys w ↔ v = w := ⟨fun h => bys_inj hv hw h, fun h => by rw [h]⟩
/-- The end of the loop. -/
theorem ltext_Lease_end (W : List (List Int)) (e f a st r : Int) (key : ByteArray) (hk : key.size ≤ maxLen) :
    Ev (fun k => ltext_Lease.l0 k W e f 3 a st r key) (if e = 0 ∧ f = 0 ∧ leaseB (⟨a, st, r, key⟩ : Le) = true then (a, st, r, key, 0) else (0, 0, 0, (⟨#[]⟩ : ByteArray), 2)) := by
  refine Ev.step (f := fun _ => if e = 0 then (if f = 0 then (if leaseB (⟨a, st, r, key⟩ : Le) = true then some (a, st, r, key, 0) else some (0, 0, 0, (⟨#[]⟩ : ByteArray), 2)) else some (0, 0, 0, (⟨#[]⟩ : ByteArray), 2)) else some (0, 0, 0, (⟨#[]⟩ : ByteArray), 2)) (fun k => ?_) ?_
  · show ltext_Lease.l0 (k + 1) _ _ _ _ _ _ _ _ = _
    rw [ltext_Lease.l0, if_neg (by omega)]
    have h := record_Right_s (⟨a, st, r, key⟩ : Le) hk
    simp only at h
    rw [h, Option.bind_some]
  · by_cases h1 : e = 0
    · by_cases h2 : f = 0
      · by_cases h3 : leaseB (⟨a, st, r, key⟩ : Le) = true
        · exact Ev.eqv (Ev.pos h1 (Ev.pos h2 (Ev.pos h3 Ev.some'))) (if_pos ⟨h1, h2, h3⟩).symm
        · exact Ev.eqv (Ev.pos h1 (Ev.pos h2 (Ev.neg h3 Ev.some'))) (if_neg (fun h => h3 h.2.2)).symm
      · exact Ev.eqv (Ev.pos h1 (Ev.neg h2 Ev.some')) (if_neg (fun h => h2 h.2.1)).symm
    · exact Ev.eqv (Ev.neg h1 Ev.some') (if_neg (fun h => h1 h.1)).symm
/-- One word of the table. -/
theorem ltext_Lease_step (W : List (List Int)) (e f a st r : Int) (key : ByteArray) (w : List Int) (hW : 1 < W.length) (hw : rd_L1 W 1 = w) (hb : By w) (j : Nat) (hj : j < 3) {R : Int × Int × Int × ByteArray × Int}
    (h : Ev (fun k => ltext_Lease.l0 k W e f ((j + 1 : Nat) : Int) a (if w = wordL ((j + 1 : Nat) : Int) then ((j + 1 : Nat) : Int) else st) r key) R) : Ev (fun k => ltext_Lease.l0 k W e f (j : Int) a st r key) R := by
  have h1 : wrap64 ((j : Int) + 1) = ((j + 1 : Nat) : Int) := by unfold wrap64; omega
  have h2 : wrap64 (1 + (j : Int)) = ((j + 1 : Nat) : Int) := by unfold wrap64; omega
  have ht : rdOf ByteArray.empty tab0 (j : Int) = strOfNums (wordL ((j + 1 : Nat) : Int)) := by
    have := word_tab ((j + 1 : Nat) : Int) (by omega) (by omega)
    rw [show ((j + 1 : Nat) : Int) - 1 = (j : Int) by omega] at this
    exact this
  refine Ev.step (fun k => ?_) h
  show ltext_Lease.l0 (k + 1) _ _ _ _ _ _ _ _ = _
  rw [ltext_Lease.l0, if_pos (by omega), if_pos (by omega), if_pos (by omega), hw, ht, toList_str, toList_str, h1, h2]
  by_cases hc : w = wordL ((j + 1 : Nat) : Int)
  · rw [if_pos (by rw [hc]), if_pos hc]
  · rw [if_neg (fun x => hc ((bys_eq hb (wordL_by _)).1 x)), if_neg hc]
theorem ltext_Lease_s (s : ByteArray) (hs : s.size ≤ 1000000) : Ev (fun k => ltext_Lease.f k s) (ansL (leaseP (bytesOf s))) := by
  have hL := bytesOf_length s
  have hB := bytesOf_by s
  have hj := join_split 32 (bytesOf s)
  have hby := split_by 32 hB
  unfold ltext_Lease.f
  refine Ev.pos (by omega) (Ev.bind (ltext_split_s 32 (bytesOf s) (by omega)) ?_)
  by_cases h4 : (splitL 32 (bytesOf s)).length = 4
  · have hlen : ∀ w ∈ splitL 32 (bytesOf s), w.length ≤ 1000000 := fun w hw => by
      have := split_le 32 (bytesOf s) w hw
      omega
    generalize hW : splitL 32 (bytesOf s) = W at *
    obtain ⟨w0, w1, w2, w3, rfl⟩ : ∃ w0 w1 w2 w3, W = [w0, w1, w2, w3] := by
      match W, h4 with
      | [a, b, c, d], _ => exact ⟨a, b, c, d, rfl⟩
    have b0 := hby w0 (by simp)
    have b1 := hby w1 (by simp)
    have b2 := hby w2 (by simp)
    have b3 := hby w3 (by simp)
    have g2 := hlen w2 (by simp)
    have g3 := hlen w3 (by simp)
    refine Ev.pos rfl (Ev.pos (by simp) (Ev.bind (a := Com.addrGo (Com.bys w0) 0 0 0 0) ⟨0, fun k _ => by rw [show rd_L1 [w0, w1, w2, w3] 0 = w0 from rfl, addr_Parse_s, toList_str]⟩ (Ev.pos (by simp) (Ev.bind (a := parseR (parseL w3)) (Ev.eqv (key_Parse_s (strOfNums w3) (by rw [str_size]; omega)) (by rw [bytes_str _ b3])) (Ev.pos (by simp) (Ev.bind (a := numP w2 0 true) (ltext_number_s w2 (by omega)) ?_))))))
    have hnum := numP_is w2
    generalize hr : numP w2 0 true = r at *
    have hno : ∀ l : Le, leaseB l = true → lineL l = bytesOf s → w0 = Com.textI l.f0.toNat ∧ w1 = wordL l.f1 ∧ w2 = Com.decI l.f2.toNat ∧ w3 = textL (bytesOf l.f3) := by
      intro l h1 h2
      have e := split_line h1
      rw [h2, hW] at e
      simp only [List.cons.injEq, and_true] at e
      exact e
    have hks : (parseR (parseL w3)).1.size ≤ maxLen := by
      cases hp : parseL w3 with
      | none => exact Nat.zero_le _
      | some x =>
        have := keyL_len (text_parse b3 hp).2.1
        simp only [parseR, str_size, maxLen]
        omega
    refine ltext_Lease_step _ _ _ _ 0 _ _ w1 (by simp) rfl b1 0 (by omega) (ltext_Lease_step _ _ _ _ _ _ _ w1 (by simp) rfl b1 1 (by omega) (ltext_Lease_step _ _ _ _ _ _ _ w1 (by simp) rfl b1 2 (by omega) (Ev.eqv (ltext_Lease_end _ _ _ _ _ _ _ hks) ?_)))
    rcases Com.addrGo_start (Com.bys w0) with ⟨ha, hn⟩ | ⟨n, hn, ha, ht⟩
    · rw [ha, if_neg (fun h => by have := h.1; simp at this), leaseP_none]
      · rfl
      · intro l h1 h2
        have hl := leaseB_of h1
        exact hn l.f0.toNat (by omega) (by rw [(hno l h1 h2).1]; rfl)
    · have e0 : w0 = Com.textI n := bys_inj b0 (textI_by n) ht
      rw [ha]
      cases hp : parseL w3 with
      | none =>
        rw [if_neg (fun h => by have := h.2.1; simp [parseR] at this), leaseP_none]
        · rfl
        · intro l h1 h2
          have hk : keyL (bytesOf l.f3) = true := by rw [← keyB_L]; exact (leaseB_of h1).2.2.2.2.2.2
          rw [(hno l h1 h2).2.2.2, parse_text (bytesOf_by _) hk] at hp
          cases hp
      | some x =>
        obtain ⟨p1, p2, p3⟩ := text_parse b3 hp
        have hx : bytesOf (strOfNums x) = x := bytes_str _ p3
        simp only [parseR]
        generalize hst : (if w1 = wordL ((2 + 1 : Nat) : Int) then ((2 + 1 : Nat) : Int) else if w1 = wordL ((1 + 1 : Nat) : Int) then ((1 + 1 : Nat) : Int) else if w1 = wordL ((0 + 1 : Nat) : Int) then ((0 + 1 : Nat) : Int) else (0 : Int)) = st
        by_cases hl : leaseB (⟨(n : Int), st, r, strOfNums x⟩ : Le) = true
        · rw [if_pos ⟨by trivial, by trivial, hl⟩]
          have hb := leaseB_of hl
          simp only at hb
          have e2 := hnum.1 (by omega)
          have e1 : w1 = wordL st := by
            split at hst
            · rename_i h; rw [← hst]; exact h
            · split at hst
              · rename_i h; rw [← hst]; exact h
              · split at hst
                · rename_i h; rw [← hst]; exact h
                · omega
          have hline : lineL (⟨(n : Int), st, r, strOfNums x⟩ : Le) = bytesOf s := by
            rw [← hj]
            unfold lineL
            simp only [hx, p1, Int.toNat_natCast, ← e1, ← e2, ← e0, joinL]
          rw [← hline, leaseP_line hl]
          rfl
        · rw [if_neg (fun h => hl h.2.2), leaseP_none]
          · rfl
          · intro l h1 h2
            obtain ⟨q0, q1, q2, q3⟩ := hno l h1 h2
            obtain ⟨a1, a2, s1, s3, x1, x2, hk⟩ := leaseB_of h1
            have f0 : n = l.f0.toNat := textI_inj hn (by omega) (e0.symm.trans q0)
            have f2 : r = l.f2.toNat := hnum.2 _ (by omega) q2
            have f3 : x = bytesOf l.f3 := by
              rw [q3, parse_text (bytesOf_by _) (by rw [← keyB_L]; exact hk)] at hp
              exact (Option.some.inj hp).symm
            have f1 : st = l.f1 := by
              rw [← hst, q1]
              obtain h | h | h : l.f1 = 1 ∨ l.f1 = 2 ∨ l.f1 = 3 := by omega
              all_goals rw [h]; rfl
            apply hl
            have : (⟨(n : Int), st, r, strOfNums x⟩ : Le) = l := by
              rw [f1, f3, str_bytes]
              have g0 : (n : Int) = l.f0 := by omega
              have g2 : r = l.f2 := by omega
              rw [g0, g2]
            rw [this]
            exact h1
  · refine Ev.neg (by omega) (Ev.eqv Ev.some' ?_)
    rw [leaseP_none]
    · rfl
    · intro l h1 h2
      rw [← h2, split_line h1] at h4
      exact h4 rfl

/-! ### table.Right -/
open Classical in
theorem table_Right_l (t : List Le) (ht : t.length ≤ 500) (hk : ∀ l ∈ t, l.f3.size ≤ maxLen) (d : Nat) : ∀ (i : Nat) (k : Nat), i + d = t.length → d < k →
    table_Right.l0 k t t (t.length : Int) i = some (decide (t.length ≤ 64 ∧ ∀ j, i ≤ j → j < t.length → leaseB (atL t j) = true ∧ (0 < j → (atL t (j - 1)).f0 < (atL t j).f0))) := by
  induction d with
  | zero =>
    intro i k hi hk
    obtain ⟨k, rfl⟩ : ∃ m, k = m + 1 := ⟨k - 1, by omega⟩
    rw [table_Right.l0, if_neg (by omega)]
    congr 1; exact decide_eq_decide.2 ⟨fun h => ⟨by omega, fun j a b => by omega⟩, fun h => by omega⟩
  | succ d ih =>
    intro i k hi hkk
    obtain ⟨k, rfl⟩ : ∃ m, k = m + 1 := ⟨k - 1, by omega⟩
    have hw : wrap64 ((i : Int) + 1) = ((i + 1 : Nat) : Int) := by unfold wrap64; omega
    have ihh := ih (i + 1) k (by omega) (by omega)
    rw [table_Right.l0, if_pos (by omega), if_pos (by omega), if_pos (by omega), show rd_T23 t (i : Int) = atL t i from rfl, record_Right_s _ (hk _ (atL_mem (by omega)))]
    simp only [Option.bind_some]
    by_cases h : leaseB (atL t i) = true
    · rw [if_pos h]
      by_cases h0 : (i : Int) > 0
      · have hw2 : wrap64 ((i : Int) - 1) = ((i - 1 : Nat) : Int) := by unfold wrap64; omega
        rw [if_pos h0, hw2, if_pos (by omega), if_pos (by omega), show rd_T23 t ((i - 1 : Nat) : Int) = atL t (i - 1) from rfl]
        by_cases h1 : (atL t (i - 1)).f0 ≥ (atL t i).f0
        · rw [if_pos h1, decide_eq_false]
          rintro ⟨_, h2⟩
          have := (h2 i (by omega) (by omega)).2 (by omega)
          omega
        · rw [if_neg h1, hw, ihh]
          congr 1
          refine decide_eq_decide.2 ⟨fun h2 => ⟨h2.1, fun j a b => ?_⟩, fun h2 => ⟨h2.1, fun j a b => h2.2 j (by omega) b⟩⟩
          rcases Nat.eq_or_lt_of_le a with c | c
          · subst c; exact ⟨h, fun _ => by omega⟩
          · exact h2.2 j (by omega) b
      · rw [if_neg h0, hw, ihh]
        congr 1
        refine decide_eq_decide.2 ⟨fun h2 => ⟨h2.1, fun j a b => ?_⟩, fun h2 => ⟨h2.1, fun j a b => h2.2 j (by omega) b⟩⟩
        rcases Nat.eq_or_lt_of_le a with c | c
        · subst c; exact ⟨h, fun _ => by omega⟩
        · exact h2.2 j (by omega) b
    · rw [if_neg h, decide_eq_false]
      rintro ⟨_, h2⟩
      exact h (h2 i (by omega) (by omega)).1
theorem table_Right_s (t : List Le) (h : Small t) (k : Nat) (hk : t.length < k) : table_Right.f k t = some (decide (Tab t)) := by
  have e := table_Right_l t h.1 h.2 t.length 0 k (by omega) hk
  unfold table_Right.f
  rw [show table_Right.l0 k t t (t.length : Int) 0 = table_Right.l0 k t t (t.length : Int) ((0 : Nat) : Int) from rfl, e]
  congr 1
  refine decide_eq_decide.2 ?_
  rw [tab_iff]
  exact ⟨fun h => ⟨h.1, fun j b => h.2 j (by omega) b⟩, fun h => ⟨h.1, fun j _ b => h.2 j b⟩⟩

/-! ### ltext.Print -/
theorem line_len {l : Le} (h : leaseB l = true) : (lineL l).length ≤ 2000 := by
  obtain ⟨a1, a2, s1, s3, e1, e2, hk⟩ := leaseB_of h
  have hT := textI_len l.f0.toNat
  have hW := wordL_len l.f1
  have hD := decI_len16 l.f2.toNat (by omega)
  have hkl := bytesOf_length l.f3
  have hks : 3 ≤ l.f3.size ∧ l.f3.size ≤ 256 := by
    unfold keyB at hk
    simp only [Bool.and_eq_true, Bool.or_eq_true, decide_eq_true_iff] at hk
    omega
  have hkt := textL_len (L := bytesOf l.f3) (fun e => by rw [e] at hkl; simp at hkl; omega)
  unfold lineL
  simp only [List.length_append, List.length_cons]
  omega
theorem printL_len : ∀ t : List Le, (∀ l ∈ t, leaseB l = true) → (printL t).length ≤ 2001 * t.length
  | [], _ => by simp [printL]
  | l :: t, h => by
    have h1 := line_len (h l List.mem_cons_self)
    have h2 := printL_len t (fun m hm => h m (List.mem_cons_of_mem _ hm))
    rw [printL, List.length_append, List.length_cons, List.length_cons]
    omega
theorem printL_by : ∀ t : List Le, (∀ l ∈ t, leaseB l = true) → By (printL t)
  | [], _ => By.nil
  | l :: t, h => By.app.2 ⟨line_by (h l List.mem_cons_self), By.cons.2 ⟨by omega, printL_by t (fun m hm => h m (List.mem_cons_of_mem _ hm))⟩⟩
theorem take_at (t : List Le) {i : Nat} (h : i < t.length) : t.take (i + 1) = t.take i ++ [atL t i] := by rw [List.take_succ_eq_append_getElem h, atL_get h]
theorem lease_key {l : Le} (h : leaseB l = true) : l.f3.size ≤ 256 := by
  have hk := (leaseB_of h).2.2.2.2.2.2
  unfold keyB at hk
  simp only [Bool.and_eq_true, Bool.or_eq_true, decide_eq_true_iff] at hk
  omega
theorem ltext_Print_l (t : List Le) (h : Tab t) : ∀ (d i : Nat), i + d = t.length → Ev (fun k => ltext_Print.l0 k (printL (t.take i)) t (t.length : Int) (i : Int)) (strOfNums (printL t), 0) := by
  have h64 := h.1
  intro d
  induction d with
  | zero =>
    intro i hi
    obtain rfl : i = t.length := by omega
    refine Ev.step (f := fun _ => some (strOfNums (printL t), 0)) (fun k => ?_) Ev.some'
    show ltext_Print.l0 (k + 1) _ _ _ _ = _
    rw [ltext_Print.l0, if_neg (by omega), List.take_length]
  | succ d ih =>
    intro i hi
    have hw : wrap64 ((i : Int) + 1) = ((i + 1 : Nat) : Int) := by unfold wrap64; omega
    have hb : leaseB (atL t i) = true := h.2.1 _ (atL_mem (by omega))
    have hl := line_len hb
    have hp := printL_len (t.take i) (fun l hl => h.2.1 l (List.mem_of_mem_take hl))
    rw [List.length_take] at hp
    have hL := ltext_Line_s (atL t i) (by have := lease_key hb; omega)
    rw [if_pos hb] at hL
    refine Ev.step (f := fun k => (ltext_Line.f k (atL t i).f0 (atL t i).f1 (atL t i).f2 (atL t i).f3).bind fun bt213 => (if (printL (t.take i)).length + bt213.1.size < 140737488355328 then ((some (printL (t.take i) ++ bytesOf bt213.1 : List Int)).bind fun y215 => (if y215.length < 140737488355328 then (ltext_Print.l0 k (y215 ++ [10]) t (t.length : Int) ((i + 1 : Nat) : Int)) else (none))) else (none))) (fun k => ?_) (Ev.bind hL ?_)
    · show ltext_Print.l0 (k + 1) _ _ _ _ = _
      rw [ltext_Print.l0, if_pos (by omega), if_pos (by omega), if_pos (by omega), hw]
      rfl
    · clear hw
      simp only [str_size, bytes_str _ (line_by hb), Option.bind_some]
      refine Ev.pos (by omega) (Ev.pos (by rw [List.length_append]; omega) ?_)
      have e := ih (i + 1) (by omega)
      rw [take_at t (by omega), printL_snoc, ← List.append_assoc] at e
      exact e
theorem ltext_Print_s (t : List Le) (hs : Small t) : Ev (fun k => ltext_Print.f k t) (if Tab t then (strOfNums (printL t), 0) else ((⟨#[]⟩ : ByteArray), 1)) := by
  unfold ltext_Print.f
  refine Ev.bind (a := decide (Tab t)) ⟨t.length + 1, fun k hk => table_Right_s t hs k (by omega)⟩ ?_
  by_cases h : Tab t
  · rw [if_pos h]
    exact Ev.pos (decide_eq_true h) (ltext_Print_l t h t.length 0 (by omega))
  · rw [if_neg h]
    exact Ev.neg (by simpa using h) Ev.some'

/-! ### ltext.Parse -/
theorem ltext_Parse_l (W : List (List Int)) (hW : W.length ≤ 1000000) (hw : ∀ w ∈ W, By w ∧ w.length ≤ 1000000) : ∀ (d i : Nat) (out : List Le), i + d = W.length → 0 < d → Tab out → Ev (fun k => ltext_Parse.l0 k out ((W.length - 1 : Nat) : Int) W (W.length : Int) (i : Int)) (parL (W.drop i) out i) := by
  intro d
  induction d with
  | zero => intro i out _ h; omega
  | succ d ih =>
    intro i out hi _ ht
    have hx : wrap64 ((i : Int) + 1) = ((i + 1 : Nat) : Int) := by unfold wrap64; omega
    have hr : rd_L1 W (i : Int) = W[i]'(by omega) := rd_get (by omega)
    obtain ⟨hb, hl⟩ := hw _ (List.getElem_mem (show i < W.length by omega))
    have hP := ltext_Lease_s (strOfNums (W[i]'(by omega))) (by rw [str_size]; exact hl)
    rw [bytes_str _ hb] at hP
    rw [List.drop_eq_getElem_cons (show i < W.length by omega)]
    generalize W[i]'(by omega) = w at *
    by_cases hlast : i = W.length - 1
    · rw [show W.drop (i + 1) = [] from List.drop_eq_nil_of_le (by omega), parL_end]
      refine Ev.step (f := fun k => (if ((w.length : Nat) : Int) = 0 then (some (out, 0, 0)) else ((ltext_Lease.f k (strOfNums w)).bind fun bt228 => (if bt228.2.2.2.2 = 0 then (some (([] : List Le), ((i + 1 : Nat) : Int), 2)) else (some (([] : List Le), ((i + 1 : Nat) : Int), 2)))))) (fun k => ?_) ?_
      · show ltext_Parse.l0 (k + 1) _ _ _ _ _ = _
        rw [ltext_Parse.l0, if_pos (by omega), if_pos (by omega), if_pos (by omega), if_pos (by omega), hr, hx]
      · by_cases h0 : w = []
        · rw [if_pos h0]
          exact Ev.pos (by rw [h0]; rfl) Ev.some'
        · rw [if_neg h0]
          refine Ev.neg (fun e => h0 (List.eq_nil_of_length_eq_zero (by omega))) (Ev.bind hP ?_)
          by_cases h : (ansL (leaseP w)).2.2.2.2 = 0
          · exact Ev.pos h Ev.some'
          · exact Ev.neg h Ev.some'
    · obtain ⟨v, q, hq⟩ : ∃ v q, W.drop (i + 1) = v :: q := ⟨_, _, List.drop_eq_getElem_cons (show i + 1 < W.length by omega)⟩
      have ihh := ih (i + 1)
      rw [hq] at ihh ⊢
      rw [parL_step]
      refine Ev.step (f := fun k => (ltext_Lease.f k (strOfNums w)).bind fun bt234 => (if bt234.2.2.2.2 = 0 then (if out.length < 3518437208883 then ((some (out ++ [(⟨bt234.1, bt234.2.1, bt234.2.2.1, bt234.2.2.2.1⟩ : Le)] : List Le)).bind fun y240 => ((table_Right.f k y240).bind fun t243 => (if t243 = true then (ltext_Parse.l0 k y240 ((W.length - 1 : Nat) : Int) W (W.length : Int) ((i + 1 : Nat) : Int)) else (some (([] : List Le), ((i + 1 : Nat) : Int), 2))))) else (none)) else (some (([] : List Le), ((i + 1 : Nat) : Int), 2)))) (fun k => ?_) (Ev.bind hP ?_)
      · show ltext_Parse.l0 (k + 1) _ _ _ _ _ = _
        rw [ltext_Parse.l0, if_pos (by omega), if_pos (by omega), if_pos (by omega), if_neg (by omega), hr, hx]
      · cases hp : leaseP w with
        | none => exact Ev.neg (by decide) Ev.some'
        | some l =>
          have hlb := (leaseP_some hp).1
          have h64 := ht.1
          refine Ev.pos (by rfl) (Ev.pos (by omega) ?_)
          simp only [Option.bind_some, ansL]
          have hsm : Small (out ++ [l]) := by
            refine ⟨by rw [List.length_append, List.length_singleton]; omega, fun m hm => ?_⟩
            rcases List.mem_append.1 hm with hm | hm
            · exact (tab_small ht).2 m hm
            · rw [List.mem_singleton.1 hm]
              have := lease_key hlb
              simp only [maxLen]; omega
          refine Ev.bind (a := decide (Tab (out ++ [l]))) ⟨out.length + 2, fun k hk => table_Right_s (out ++ [l]) hsm k (by rw [List.length_append, List.length_singleton]; omega)⟩ ?_
          by_cases h : Tab (out ++ [l])
          · rw [if_pos h]
            exact Ev.pos (decide_eq_true h) (ihh (out ++ [l]) (by omega) (by omega) h)
          · rw [if_neg h]
            exact Ev.neg (by simpa using h) Ev.some'
theorem ltext_Parse_s (s : ByteArray) (hs : s.size ≤ 900000) : Ev (fun k => ltext_Parse.f k s) (parL (splitL 10 (bytesOf s)) [] 0) := by
  have hL := bytesOf_length s
  have hn := split_len 10 (bytesOf s)
  have h1 : 0 < (splitL 10 (bytesOf s)).length := List.length_pos_iff.2 (split_get 10 _)
  unfold ltext_Parse.f
  refine Ev.pos (by omega) (Ev.bind (ltext_split_s 10 (bytesOf s) (by omega)) ?_)
  have e := ltext_Parse_l (splitL 10 (bytesOf s)) (by omega) (fun w hw => ⟨split_by 10 (bytesOf_by s) w hw, by have := split_le 10 _ w hw; omega⟩) _ 0 [] (Nat.zero_add _) h1 tab_nil
  rw [List.drop_zero] at e
  refine Ev.congr (fun k => ?_) e
  rw [show wrap64 (((splitL 10 (bytesOf s)).length : Int) - 1) = (((splitL 10 (bytesOf s)).length - 1 : Nat) : Int) from by unfold wrap64; omega]
  rfl

/-! ### boarderlaw24.knows -/
theorem boarderlaw24_knows_s : Ev (fun k => boarderlaw24_knows.f k) true := Ev.of (k := 300) boarderlaw24_knows.mono (by kernel_rfl)

end Go.Proofs.YtdajdpgnhjlbaaaDoor.PLease
