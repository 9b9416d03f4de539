/- Plain facts on the texts of leases and tables (words, lines, numbers), with no program in sight; each under its theorem's own conditions. -/
import Derived.Test.YtdajdpgnhjlbaaaDoorLeaseHex
set_option linter.unusedVariables false
set_option linter.unusedSimpArgs false
namespace Go.Proofs.YtdajdpgnhjlbaaaDoor.PLease
open Go.RowKit Go.Proofs.YtdajdpgnhjlbaaaDoorW.PrintWords Go.Proofs.YtdajdpgnhjlbaaaDoorW.PrintLast Go.Proofs.YtdajdpgnhjlbaaaDoorW.PrintMore

/-! Parting at a byte. -/
def splitL (c : Int) : List Int → List (List Int)
  | [] => [[]]
  | x :: l => if x = c then [] :: splitL c l else match splitL c l with | h :: t => (x :: h) :: t | [] => [[x]]
theorem splitL_ex (c : Int) (L : List Int) : ∃ h t, splitL c L = h :: t := by
  cases L with
  | nil => exact ⟨_, _, rfl⟩
  | cons x l =>
    rw [splitL]
    split
    · exact ⟨_, _, rfl⟩
    · split
      · exact ⟨_, _, rfl⟩
      · exact ⟨_, _, rfl⟩
theorem split_word {c : Int} : ∀ {w : List Int}, c ∉ w → splitL c w = [w]
  | [], _ => rfl
  | x :: w, h => by
    rw [splitL, if_neg (fun e => h (by rw [e]; exact List.mem_cons_self)), split_word (fun m => h (List.mem_cons_of_mem _ m))]
theorem split_cons {c : Int} (r : List Int) : ∀ {w : List Int}, c ∉ w → splitL c (w ++ c :: r) = w :: splitL c r
  | [], _ => by rw [List.nil_append, splitL, if_pos rfl]
  | x :: w, h => by
    rw [List.cons_append, splitL, if_neg (fun e => h (by rw [e]; exact List.mem_cons_self)), split_cons r (fun m => h (List.mem_cons_of_mem _ m))]
/-- What was parted, put together again. -/
def joinL (c : Int) : List (List Int) → List Int
  | [] => []
  | [w] => w
  | w :: v :: r => w ++ c :: joinL c (v :: r)
theorem join_split (c : Int) : ∀ L : List Int, joinL c (splitL c L) = L
  | [] => rfl
  | x :: l => by
    have ih := join_split c l
    obtain ⟨h, t, e⟩ := splitL_ex c l
    rw [e] at ih
    rw [splitL, e]
    by_cases hx : x = c
    · rw [if_pos hx, joinL, ih, hx, List.nil_append]
    · rw [if_neg hx]
      cases t with
      | nil => simpa [joinL] using ih
      | cons v r => simpa [joinL] using ih
theorem split_free (c : Int) : ∀ (L : List Int), ∀ w ∈ splitL c L, c ∉ w
  | [], w, h => by simp [splitL] at h; subst h; simp
  | x :: l, w, h => by
    have ih := split_free c l
    obtain ⟨hd, t, e⟩ := splitL_ex c l
    rw [splitL, e] at h
    rw [e] at ih
    by_cases hx : x = c
    · rw [if_pos hx] at h
      rcases List.mem_cons.1 h with h | h
      · subst h; simp
      · exact ih w h
    · rw [if_neg hx] at h
      rcases List.mem_cons.1 h with h | h
      · subst h
        intro m
        rcases List.mem_cons.1 m with m | m
        · exact hx m.symm
        · exact ih hd List.mem_cons_self m
      · exact ih w (List.mem_cons_of_mem _ h)
theorem split_by (c : Int) {L : List Int} (hL : By L) : ∀ w ∈ splitL c L, By w := by
  induction L with
  | nil => intro w h; simp [splitL] at h; subst h; exact By.nil
  | cons x l ih =>
    intro w h
    have ih := ih (By.cons.1 hL).2
    obtain ⟨hd, t, e⟩ := splitL_ex c l
    rw [splitL, e] at h
    rw [e] at ih
    by_cases hx : x = c
    · rw [if_pos hx] at h
      rcases List.mem_cons.1 h with h | h
      · subst h; exact By.nil
      · exact ih w h
    · rw [if_neg hx] at h
      rcases List.mem_cons.1 h with h | h
      · subst h; exact By.cons.2 ⟨(By.cons.1 hL).1, ih hd List.mem_cons_self⟩
      · exact ih w (List.mem_cons_of_mem _ h)
theorem split_len (c : Int) (L : List Int) : (splitL c L).length ≤ L.length + 1 := by
  induction L with
  | nil => simp [splitL]
  | cons x l ih =>
    obtain ⟨hd, t, e⟩ := splitL_ex c l
    rw [e] at ih
    rw [splitL, e]
    split
    · simp only [List.length_cons] at *; omega
    · simp only [List.length_cons] at *; omega
theorem split_le (c : Int) : ∀ (L : List Int), ∀ w ∈ splitL c L, w.length ≤ L.length
  | [], w, h => by simp [splitL] at h; subst h; simp
  | x :: l, w, h => by
    have ih := split_le c l
    obtain ⟨hd, t, e⟩ := splitL_ex c l
    rw [splitL, e] at h
    rw [e] at ih
    by_cases hx : x = c
    · rw [if_pos hx] at h
      rcases List.mem_cons.1 h with h | h
      · subst h; simp
      · have := ih w h; rw [List.length_cons]; omega
    · rw [if_neg hx] at h
      rcases List.mem_cons.1 h with h | h
      · subst h
        have := ih hd List.mem_cons_self
        rw [List.length_cons, List.length_cons]; omega
      · have := ih w (List.mem_cons_of_mem _ h); rw [List.length_cons]; omega
/-- The part from one place to another one. -/
theorem seg_step {L : List Int} {f i : Nat} (hf : f ≤ i) (hi : i < L.length) : (L.take (i + 1)).drop f = (L.take i).drop f ++ [L[i]] := by
  rw [List.take_succ_eq_append_getElem hi, List.drop_append_of_le_length (by rw [List.length_take]; omega)]
theorem seg_drop {L : List Int} {f i : Nat} (hf : f ≤ i) (hi : i < L.length) : L.drop f = (L.take i).drop f ++ L[i] :: L.drop (i + 1) := by
  rw [← List.drop_eq_getElem_cons hi]
  conv => lhs; rw [← List.take_append_drop i L]
  rw [List.drop_append_of_le_length (by rw [List.length_take]; omega)]
theorem seg_end {L : List Int} {f : Nat} : (L.take L.length).drop f = L.drop f := by rw [List.take_length]
theorem bytes_cut2 (s : ByteArray) (a b : Nat) : bytesOf (s.extract a b) = ((bytesOf s).take b).drop a := by
  unfold bytesOf
  rw [← List.map_take, ← List.map_drop]
  congr 1
  rw [ByteArray.data_extract, Array.toList_extract, List.extract_eq_take_drop, List.drop_take]
/-! Numbers. -/
/-- What the program reads of a word: n is what was read so far. -/
def numP : List Int → Int → Bool → Int
  | [], n, first => if first = true then -1 else n
  | c :: l, n, first => if c < 48 ∨ c > 57 then -1 else if first = false ∧ n = 0 then -1 else if n > 1125899906842624 then -1 else numP l (n * 10 + (c - 48)) false
theorem numP_dec (n : Nat) : n / 10 ≤ 1125899906842624 → ∀ rest : List Int, numP (Com.decI n ++ rest) 0 true = numP rest n false := by
  induction n using Nat.strongRecOn with
  | _ n ih =>
    intro hn rest
    by_cases h : n < 10
    · rw [Com.decI_small h, List.singleton_append, numP, if_neg (by omega), if_neg (by simp), if_neg (by omega)]
      congr 1
      omega
    · rw [Com.decI_big h, List.append_assoc, ih (n / 10) (by omega) (by omega), List.singleton_append, numP, if_neg (by omega), if_neg (by omega), if_neg (by omega)]
      congr 1
      omega
theorem numP_self (n : Nat) (hn : n ≤ 1125899906842624) : numP (Com.decI n) 0 true = n := by
  have h := numP_dec n (by omega) []
  rw [List.append_nil] at h
  rw [h]
  rfl
theorem numP_rest : ∀ (l : List Int) (n : Nat) (r : Int), numP l n false = r → 0 ≤ r → ∃ m : Nat, Com.decI m = Com.decI n ++ l ∧ r = m
  | [], n, r, h, _ => ⟨n, by rw [List.append_nil], by rw [← h]; rfl⟩
  | c :: l, n, r, h, h0 => by
    rw [numP] at h
    by_cases h1 : c < 48 ∨ c > 57
    · rw [if_pos h1] at h; omega
    rw [if_neg h1] at h
    by_cases h2 : n = 0
    · rw [if_pos ⟨rfl, by omega⟩] at h; omega
    rw [if_neg (by omega)] at h
    by_cases h3 : (n : Int) > 1125899906842624
    · rw [if_pos h3] at h; omega
    rw [if_neg h3] at h
    have e : (n : Int) * 10 + (c - 48) = ((n * 10 + (c - 48).toNat : Nat) : Int) := by omega
    rw [e] at h
    obtain ⟨m, hm, hr⟩ := numP_rest l _ r h h0
    refine ⟨m, ?_, hr⟩
    rw [hm, Com.decI_big (n := n * 10 + (c - 48).toNat) (by omega), show (n * 10 + (c - 48).toNat) / 10 = n by omega, show (n * 10 + (c - 48).toNat) % 10 = (c - 48).toNat by omega, List.append_assoc]
    congr 1
    rw [List.singleton_append]
    congr 1
    omega
theorem numP_text (L : List Int) (r : Int) (h : numP L 0 true = r) (h0 : 0 ≤ r) : L = Com.decI r.toNat := by
  cases L with
  | nil => rw [numP, if_pos rfl] at h; omega
  | cons c l =>
    rw [numP] at h
    by_cases h1 : c < 48 ∨ c > 57
    · rw [if_pos h1] at h; omega
    rw [if_neg h1, if_neg (by simp), if_neg (by omega)] at h
    have e : (0 : Int) * 10 + (c - 48) = (((c - 48).toNat : Nat) : Int) := by omega
    rw [e] at h
    obtain ⟨m, hm, hr⟩ := numP_rest l _ r h h0
    rw [Com.decI_small (n := (c - 48).toNat) (by omega), List.singleton_append] at hm
    rw [hr, Int.toNat_natCast, hm]
    congr 1
    omega
/-- The number of a word, up to the greatest that counts; of others it may be anything that no word has. -/
def IsNum (L : List Int) (r : Int) : Prop := (0 ≤ r → L = Com.decI r.toNat) ∧ ∀ n : Nat, n ≤ 1125899906842624 → L = Com.decI n → r = n
theorem numP_is (L : List Int) : IsNum L (numP L 0 true) := ⟨fun h => numP_text L _ rfl h, fun n hn e => by rw [e]; exact numP_self n hn⟩
theorem decI_len_pow : ∀ (j n : Nat), n < 10 ^ (j + 1) → (Com.decI n).length ≤ j + 1
  | 0, n, h => by rw [Com.decI_small (by omega)]; simp
  | j + 1, n, h => by
    by_cases h1 : n < 10
    · rw [Com.decI_small h1]; simp
    · rw [Com.decI_big h1, List.length_append]
      have := decI_len_pow j (n / 10) (by rw [Nat.pow_succ] at h; omega)
      simp only [List.length_singleton]
      omega
theorem decI_len16 (n : Nat) (h : n ≤ 1125899906842624) : (Com.decI n).length ≤ 16 := decI_len_pow 15 n (by omega)
/-! Lines. -/
def wordL (st : Int) : List Int := if st = 1 then [98, 111, 117, 110, 100] else if st = 2 then [114, 101, 108, 101, 97, 115, 101, 100] else [100, 101, 99, 108, 105, 110, 101, 100]
def lineL (l : Le) : List Int := Com.textI l.f0.toNat ++ 32 :: (wordL l.f1 ++ 32 :: (Com.decI l.f2.toNat ++ 32 :: textL (bytesOf l.f3)))
theorem sp_str : (⟨#[32]⟩ : ByteArray) = strOfNums [32] := rfl
theorem nl_str : (⟨#[10]⟩ : ByteArray) = strOfNums [10] := rfl
theorem word_tab (st : Int) (h1 : 1 ≤ st) (h3 : st ≤ 3) : rdOf ByteArray.empty tab0 (st - 1) = strOfNums (wordL st) := by
  obtain rfl | rfl | rfl : st = 1 ∨ st = 2 ∨ st = 3 := by omega
  all_goals rfl
theorem wordL_len (st : Int) : (wordL st).length ≤ 8 := by unfold wordL; split <;> (try split) <;> simp
theorem decI_no {c : Int} (hc : c < 48) (n : Nat) : c ∉ Com.decI n := fun h => by have := Com.decI_byte n c h; omega
theorem textI_no {c : Int} (hc : c < 46) (n : Nat) : c ∉ Com.textI n := by
  unfold Com.textI
  simp only [List.mem_append, List.mem_cons, not_or]
  exact ⟨decI_no (by omega) _, by omega, decI_no (by omega) _, by omega, decI_no (by omega) _, by omega, decI_no (by omega) _⟩
theorem wordL_no {c : Int} (hc : c < 97) (st : Int) : c ∉ wordL st := by
  unfold wordL
  split <;> (try split) <;> (simp only [List.mem_cons, List.not_mem_nil, or_false, not_or]; omega)
theorem hexL_no {c : Int} (hc : c < 48) : ∀ L : List Int, By L → c ∉ hexL L
  | [], _ => by simp [hexL]
  | x :: l, h => by
    have h1 := (By.cons.1 h).1
    have r1 := hx_range (x / 16) (by omega) (by omega)
    have r2 := hx_range (x % 16) (by omega) (by omega)
    rw [hexL]
    simp only [List.mem_cons, not_or]
    exact ⟨by omega, by omega, hexL_no hc l (By.cons.1 h).2⟩
theorem textL_no {c : Int} (hc : c < 45) : ∀ L : List Int, By L → keyL L = true → c ∉ textL L
  | [], _, _ => by simp [textL]
  | x :: l, h, hk => by
    have hx : 104 ≤ x := by
      unfold keyL at hk
      simp at hk
      omega
    rw [textL]
    simp only [List.mem_cons, not_or]
    exact ⟨by omega, by omega, hexL_no (by omega) l (By.cons.1 h).2⟩
/-- The words of a lease's line. -/
theorem split_line {l : Le} (h : leaseB l = true) : splitL 32 (lineL l) = [Com.textI l.f0.toNat, wordL l.f1, Com.decI l.f2.toNat, textL (bytesOf l.f3)] := by
  have hk : keyL (bytesOf l.f3) = true := by rw [← keyB_L]; exact (leaseB_of h).2.2.2.2.2.2
  unfold lineL
  rw [split_cons _ (textI_no (by omega) _), split_cons _ (wordL_no (by omega) _), split_cons _ (decI_no (by omega) _), split_word (textL_no (by omega) _ (bytesOf_by _) hk)]
theorem line_no {c : Int} (hc : c < 32) {l : Le} (h : leaseB l = true) : c ∉ lineL l := by
  have hk : keyL (bytesOf l.f3) = true := by rw [← keyB_L]; exact (leaseB_of h).2.2.2.2.2.2
  unfold lineL
  simp only [List.mem_append, List.mem_cons, not_or]
  exact ⟨textI_no (by omega) _, by omega, wordL_no (by omega) _, by omega, decI_no (by omega) _, by omega, textL_no (by omega) _ (bytesOf_by _) hk⟩
theorem wordL_inj {a b : Int} (ha : 1 ≤ a ∧ a ≤ 3) (hb : 1 ≤ b ∧ b ≤ 3) (h : wordL a = wordL b) : a = b := by
  obtain rfl | rfl | rfl : a = 1 ∨ a = 2 ∨ a = 3 := by omega
  all_goals
    obtain rfl | rfl | rfl : b = 1 ∨ b = 2 ∨ b = 3 := by omega
    all_goals first | rfl | (exact absurd h (by decide))
theorem textI_inj {a b : Nat} (ha : a < 4294967296) (hb : b < 4294967296) (h : Com.textI a = Com.textI b) : a = b := by
  have h1 := Com.addrGo_text a ha
  have h2 := Com.addrGo_text b hb
  unfold Com.textB at h1 h2
  rw [h, h2] at h1
  have := congrArg Prod.fst h1
  simp only at this
  omega
theorem bytes_inj {s t : ByteArray} (h : bytesOf s = bytesOf t) : s = t := by rw [← str_bytes s, h, str_bytes]
/-- A line is one lease's alone. -/
theorem line_inj {l m : Le} (hl : leaseB l = true) (hm : leaseB m = true) (h : lineL l = lineL m) : l = m := by
  have e := split_line hl
  rw [h, split_line hm] at e
  simp only [List.cons.injEq, and_true] at e
  obtain ⟨e0, e1, e2, e3⟩ := e
  obtain ⟨a1, a2, s1, s3, x1, x2, hk⟩ := leaseB_of hl
  obtain ⟨b1, b2, t1, t3, y1, y2, hk'⟩ := leaseB_of hm
  have f0 := textI_inj (by omega) (by omega) e0
  have f1 := wordL_inj ⟨t1, t3⟩ ⟨s1, s3⟩ e1
  have f2 : (m.f2.toNat : Int) = l.f2.toNat := by
    have g := numP_self m.f2.toNat (by omega)
    rw [e2, numP_self l.f2.toNat (by omega)] at g
    exact g.symm
  have f3 : m.f3 = l.f3 := by
    have g := parse_text (bytesOf_by m.f3) (by rw [← keyB_L]; exact hk')
    rw [e3, parse_text (bytesOf_by l.f3) (by rw [← keyB_L]; exact hk)] at g
    exact bytes_inj (Option.some.inj g).symm
  have g0 : l.f0 = m.f0 := by omega
  have g2 : l.f2 = m.f2 := by omega
  have g1 : l.f1 = m.f1 := f1.symm
  have g3 : l.f3 = m.f3 := f3.symm
  clear f0 f1 f2 f3 e0 e1 e2 e3 a1 a2 s1 s3 x1 x2 hk b1 b2 t1 t3 y1 y2 hk' h hl hm
  cases l
  cases m
  simp only at g0 g1 g2 g3
  subst g0 g1 g2 g3
  rfl
open Classical in
/-- The lease that a line is of. -/
noncomputable def leaseP (L : List Int) : Option Le := if h : ∃ l : Le, leaseB l = true ∧ lineL l = L then some (Classical.choose h) else none
theorem leaseP_line {l : Le} (h : leaseB l = true) : leaseP (lineL l) = some l := by
  unfold leaseP
  have hx : ∃ m : Le, leaseB m = true ∧ lineL m = lineL l := ⟨l, h, rfl⟩
  rw [dif_pos hx]
  have := Classical.choose_spec hx
  rw [line_inj this.1 h this.2]
theorem leaseP_some {L : List Int} {l : Le} (h : leaseP L = some l) : leaseB l = true ∧ lineL l = L := by
  unfold leaseP at h
  split at h
  · rename_i hx
    rw [← Option.some.inj h]
    exact Classical.choose_spec hx
  · cases h
theorem leaseP_none {L : List Int} (h : ∀ l : Le, leaseB l = true → lineL l ≠ L) : leaseP L = none := by
  unfold leaseP
  rw [dif_neg]
  rintro ⟨l, h1, h2⟩
  exact h l h1 h2
/-! The text of a table. -/
def printL : List Le → List Int
  | [] => []
  | l :: t => lineL l ++ 10 :: printL t
theorem printL_app : ∀ s t : List Le, printL (s ++ t) = printL s ++ printL t
  | [], t => rfl
  | l :: s, t => by rw [List.cons_append, printL, printL, printL_app s t]; simp
theorem printL_snoc (s : List Le) (l : Le) : printL (s ++ [l]) = printL s ++ (lineL l ++ [10]) := by rw [printL_app]; rfl
theorem split_print : ∀ t : List Le, (∀ l ∈ t, leaseB l = true) → splitL 10 (printL t) = t.map lineL ++ [[]]
  | [], _ => rfl
  | l :: t, h => by
    rw [printL, split_cons _ (line_no (by omega) (h l List.mem_cons_self)), split_print t (fun m hm => h m (List.mem_cons_of_mem _ hm))]
    rfl
theorem join_print : ∀ t : List Le, joinL 10 (t.map lineL ++ [[]]) = printL t
  | [] => rfl
  | [l] => by simp [joinL, printL]
  | l :: m :: t => by
    have ih := join_print (m :: t)
    simp only [List.map_cons, List.cons_append, joinL, printL] at ih ⊢
    rw [ih]
/-- What the lines of a table's text come to, behind n lines that are these leases. -/
noncomputable def parL : List (List Int) → List Le → Nat → List Le × Int × Int
  | [], out, _ => (out, 0, 0)
  | [w], out, n => if w = [] then (out, 0, 0) else ([], ((n + 1 : Nat) : Int), 2)
  | w :: v :: q, out, n => match leaseP w with
      | none => ([], ((n + 1 : Nat) : Int), 2)
      | some l => if Tab (out ++ [l]) then parL (v :: q) (out ++ [l]) (n + 1) else ([], ((n + 1 : Nat) : Int), 2)
theorem parL_end (w : List Int) (out : List Le) (n : Nat) : parL [w] out n = if w = [] then (out, 0, 0) else ([], ((n + 1 : Nat) : Int), 2) := by rw [parL]
theorem parL_step (w v : List Int) (q : List (List Int)) (out : List Le) (n : Nat) : parL (w :: v :: q) out n = match leaseP w with | none => ([], ((n + 1 : Nat) : Int), 2) | some l => if Tab (out ++ [l]) then parL (v :: q) (out ++ [l]) (n + 1) else ([], ((n + 1 : Nat) : Int), 2) := by rw [parL]
theorem tab_pre {s t : List Le} (h : Tab (s ++ t)) : Tab s := by
  obtain ⟨h1, h2, h3⟩ := h
  rw [List.length_append] at h1
  exact ⟨by omega, fun l hl => h2 l (List.mem_append_left _ hl), (List.pairwise_append.1 h3).1⟩
theorem map_ne (r : List Le) : ∃ v q, r.map lineL ++ [[]] = v :: q := by
  cases r with
  | nil => exact ⟨_, _, rfl⟩
  | cons l r => exact ⟨_, _, rfl⟩
theorem parL_print : ∀ (r out : List Le) (n : Nat), Tab (out ++ r) → parL (r.map lineL ++ [[]]) out n = (out ++ r, 0, 0)
  | [], out, n, h => by rw [List.append_nil]; exact (parL_end _ _ _).trans (if_pos rfl)
  | l :: r, out, n, h => by
    have e : out ++ l :: r = (out ++ [l]) ++ r := by simp
    rw [e] at h ⊢
    have ih := parL_print r (out ++ [l]) (n + 1) h
    have h1 := tab_pre h
    have hl : leaseB l = true := h1.2.1 l (by simp)
    obtain ⟨v, q, hq⟩ := map_ne r
    rw [List.map_cons, List.cons_append, hq, parL_step, leaseP_line hl]
    rw [hq] at ih
    simp only
    rw [if_pos h1, ih]
theorem parL_bad : ∀ (r out : List Le) (n : Nat), (∀ l ∈ r, leaseB l = true) → Tab out → ¬ Tab (out ++ r) → ∃ m : Nat, parL (r.map lineL ++ [[]]) out n = ([], ((m + 1 : Nat) : Int), 2)
  | [], out, n, _, h, hn => absurd (by rw [List.append_nil]; exact h) hn
  | l :: r, out, n, hr, h, hn => by
    have e : out ++ l :: r = (out ++ [l]) ++ r := by simp
    rw [e] at hn
    obtain ⟨v, q, hq⟩ := map_ne r
    rw [List.map_cons, List.cons_append, hq, parL_step, leaseP_line (hr l List.mem_cons_self)]
    simp only
    by_cases ht : Tab (out ++ [l])
    · rw [if_pos ht, ← hq]
      exact parL_bad r (out ++ [l]) (n + 1) (fun m hm => hr m (List.mem_cons_of_mem _ hm)) ht hn
    · rw [if_neg ht]
      exact ⟨n, rfl⟩
/-- What is read has the text that it was read from. -/
theorem parL_back : ∀ (W : List (List Int)) (out : List Le) (n : Nat), W ≠ [] → Tab out → (∃ r, parL W out n = (out ++ r, 0, 0) ∧ Tab (out ++ r) ∧ W = r.map lineL ++ [[]]) ∨ ∃ m : Nat, parL W out n = ([], ((m + 1 : Nat) : Int), 2)
  | [], _, _, h, _ => absurd rfl h
  | [w], out, n, _, ht => by
    rw [parL_end]
    by_cases h : w = []
    · rw [if_pos h]
      exact .inl ⟨[], by rw [List.append_nil], by rw [List.append_nil]; exact ht, by rw [h]; rfl⟩
    · rw [if_neg h]
      exact .inr ⟨n, rfl⟩
  | w :: v :: q, out, n, _, ht => by
    rw [parL_step]
    cases hl : leaseP w with
    | none => exact .inr ⟨n, rfl⟩
    | some l =>
      simp only
      by_cases h : Tab (out ++ [l])
      · rw [if_pos h]
        rcases parL_back (v :: q) (out ++ [l]) (n + 1) (by simp) h with ⟨r, h1, h2, h3⟩ | hm
        · refine .inl ⟨l :: r, ?_, ?_, ?_⟩
          · rw [h1]; simp
          · rw [show out ++ l :: r = (out ++ [l]) ++ r by simp]; exact h2
          · rw [h3, List.map_cons, (leaseP_some hl).2]; rfl
        · exact .inr hm
      · rw [if_neg h]
        exact .inr ⟨n, rfl⟩
theorem split_get (c : Int) (L : List Int) : splitL c L ≠ [] := by
  obtain ⟨h, t, e⟩ := splitL_ex c L
  rw [e]; simp
end Go.Proofs.YtdajdpgnhjlbaaaDoor.PLease
