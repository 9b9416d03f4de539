/- Plain facts on keys and their texts (bytes as numbers, hexadecimal digits), with no program in sight; each under its theorem's own conditions. -/
import Derived.Test.YtdajdpgnhjlbaaaDoorPLeasex0
import Derived.Test.YtdajdpgnhjlbaaaDoorAdr
import Derived.Test.YtdajdpgnhjlbaaaDoorLeaseTab
set_option linter.unusedVariables false
set_option linter.unusedSimpArgs false
namespace Go.Proofs.YtdajdpgnhjlbaaaDoor.PLease
open Go.RowKit Go.Proofs.YtdajdpgnhjlbaaaDoorW.PrintWords Go.Proofs.YtdajdpgnhjlbaaaDoorW.PrintLast Go.Proofs.YtdajdpgnhjlbaaaDoorW.PrintMore

/-! Loops that end at the first round that doesn't pass. -/
theorem loopE {β : Type} {L : Nat → Int → Option β} {n : Nat} (p : Nat → Prop) (v : Nat → β) {r : β}
    (hok : ∀ i, i < n → p i → ∀ r, Ev (fun k => L k ((i + 1 : Nat) : Int)) r → Ev (fun k => L k (i : Int)) r)
    (hbad : ∀ i, i < n → ¬ p i → Ev (fun k => L k (i : Int)) (v i))
    (hend : (∀ i, i < n → p i) → Ev (fun k => L k (n : Int)) r)
    (hr : ∀ i, i < n → (∀ j, j < i → p j) → ¬ p i → r = v i) : Ev (fun k => L k 0) r := by
  have H : ∀ d i, i + d = n → (∀ j, j < i → p j) → Ev (fun k => L k (i : Int)) r := by
    intro d
    induction d with
    | zero =>
      intro i hi hp
      obtain rfl : i = n := by omega
      exact hend hp
    | succ d ih =>
      intro i hi hp
      by_cases h : p i
      · refine hok i (by omega) h _ (ih (i + 1) (by omega) (fun j hj => ?_))
        rcases Nat.lt_succ_iff_lt_or_eq.1 hj with h1 | h1
        · exact hp j h1
        · subst h1; exact h
      · rw [hr i (by omega) hp h]
        exact hbad i (by omega) h
  exact H n 0 (by omega) (fun j hj => by omega)
/-- The same, where a round that doesn't pass always ends it alike. -/
theorem loopC {β : Type} {L : Nat → Int → Option β} {n : Nat} (p : Nat → Prop) (c : β) {r : β}
    (hok : ∀ i, i < n → p i → ∀ r, Ev (fun k => L k ((i + 1 : Nat) : Int)) r → Ev (fun k => L k (i : Int)) r)
    (hbad : ∀ i, i < n → ¬ p i → Ev (fun k => L k (i : Int)) c)
    (hend : (∀ i, i < n → p i) → Ev (fun k => L k (n : Int)) r)
    (hr : (∃ i, i < n ∧ ¬ p i) → r = c) : Ev (fun k => L k 0) r :=
  loopE p (fun _ => c) hok hbad hend (fun i hi _ h => hr ⟨i, hi, h⟩)
theorem wrap_next {i n : Nat} (h : i < n) (hn : n ≤ 140737488355328) : wrap64 ((i : Int) + 1) = ((i + 1 : Nat) : Int) := by unfold wrap64; omega
theorem Ev.eqv {α : Type} {g : Nat → Option α} {r s : α} (h : Ev g r) (e : r = s) : Ev g s := e ▸ h
theorem Ev.pos {α : Type} {c : Prop} [Decidable c] (h : c) {f g : Nat → Option α} {r : α} (e : Ev f r) : Ev (fun k => if c then f k else g k) r := Ev.congr (fun _ => if_pos h) e
theorem Ev.neg {α : Type} {c : Prop} [Decidable c] (h : ¬ c) {f g : Nat → Option α} {r : α} (e : Ev g r) : Ev (fun k => if c then f k else g k) r := Ev.congr (fun _ => if_neg h) e
theorem Ev.some' {α : Type} {r : α} : Ev (fun _ => some r) r := Ev.now r

theorem rd_get {α : Type} {xs : List α} {i : Nat} {d : α} (h : i < xs.length) : xs.getD ((i : Int)).toNat d = xs[i] := by
  rw [Int.toNat_natCast, List.getD_eq_getElem?_getD, List.getElem?_eq_getElem h]; rfl
/-! Searches. -/
theorem loopF {α β : Type} (l : List α) (q : α → Option β) {L : Nat → Int → Option β} {r : β}
    (hs : ∀ i, (hi : i < l.length) → ∀ v, q l[i] = some v → Ev (fun k => L k (i : Int)) v)
    (hn : ∀ i, (hi : i < l.length) → q l[i] = none → ∀ r, Ev (fun k => L k ((i + 1 : Nat) : Int)) r → Ev (fun k => L k (i : Int)) r)
    (he : l.findSome? q = none → Ev (fun k => L k (l.length : Int)) r) (hr : ∀ v, l.findSome? q = some v → r = v) : Ev (fun k => L k 0) r := by
  have H : ∀ d i, i + d = l.length → (l.drop i).findSome? q = l.findSome? q → Ev (fun k => L k (i : Int)) r := by
    intro d
    induction d with
    | zero =>
      intro i hi hp
      obtain rfl : i = l.length := by omega
      rw [List.drop_length] at hp
      exact he hp.symm
    | succ d ih =>
      intro i hi hp
      have hl : i < l.length := by omega
      rw [List.drop_eq_getElem_cons hl, List.findSome?_cons] at hp
      cases c : q l[i] with
      | some v =>
        rw [c] at hp
        rw [hr v hp.symm]
        exact hs i hl v c
      | none =>
        rw [c] at hp
        exact hn i hl c _ (ih (i + 1) (by omega) hp)
  exact H l.length 0 (by omega) (by rw [List.drop_zero])

/-! Bytes as numbers. -/
def By (L : List Int) : Prop := ∀ x ∈ L, 0 ≤ x ∧ x ≤ 255
theorem By.nil : By [] := fun x h => by cases h
theorem By.cons {a : Int} {L : List Int} : By (a :: L) ↔ (0 ≤ a ∧ a ≤ 255) ∧ By L := by simp [By]
theorem By.app {A B : List Int} : By (A ++ B) ↔ By A ∧ By B := by
  unfold By
  simp only [List.mem_append]
  exact ⟨fun h => ⟨fun x hx => h x (.inl hx), fun x hx => h x (.inr hx)⟩, fun h x hx => hx.elim (h.1 x) (h.2 x)⟩
theorem By.drop {L : List Int} (n : Nat) (h : By L) : By (L.drop n) := fun x hx => h x (List.mem_of_mem_drop hx)
theorem bytesOf_by (s : ByteArray) : By (bytesOf s) := by
  intro x hx
  obtain ⟨b, _, rfl⟩ := List.mem_map.1 hx
  have := b.toNat_lt
  omega
theorem bys_bytesOf (s : ByteArray) : Com.bys (bytesOf s) = s.toList := by
  rw [ByteArray.toList_eq]
  unfold Com.bys bytesOf
  rw [List.map_map]
  conv => rhs; rw [← List.map_id s.data.toList]
  apply List.map_congr_left
  intro b _
  simp
theorem str_bytes (s : ByteArray) : strOfNums (bytesOf s) = s := by
  have h := Com.strOfNums_toList (bytesOf s)
  rw [bys_bytesOf] at h
  rw [ByteArray.toList_eq, ByteArray.toList_eq] at h
  have h2 := congrArg List.toArray h
  simp at h2
  cases s; cases hs : strOfNums (bytesOf _) ; rw [hs] at h2; simp at h2; rw [h2]
theorem bytes_str (L : List Int) (h : By L) : bytesOf (strOfNums L) = L := by
  unfold bytesOf strOfNums
  simp only [List.map_map]
  conv => rhs; rw [← List.map_id L]
  apply List.map_congr_left
  intro x hx
  have := h x hx
  simp
  omega
theorem str_size (L : List Int) : (strOfNums L).size = L.length := by
  unfold strOfNums
  show (L.map _).toArray.size = _
  simp
theorem toList_str (L : List Int) : (strOfNums L).toList = Com.bys L := Com.strOfNums_toList L
theorem bys_inj {A B : List Int} (ha : By A) (hb : By B) (h : Com.bys A = Com.bys B) : A = B := by
  have h2 : strOfNums A = strOfNums B := by unfold strOfNums; unfold Com.bys at h; rw [h]
  rw [← bytes_str A ha, ← bytes_str B hb, h2]
theorem bt_get {s : ByteArray} {i : Nat} (h : i < s.size) : bt s (i : Int) = (bytesOf s)[i]'(by rw [bytesOf_length]; exact h) := by
  rw [← rd_bytesOf, rd]
  exact rd_get (by rw [bytesOf_length]; exact h)
theorem rd_at {L : List Int} {i : Nat} (h : i < L.length) : rd L (i : Int) = L[i] := rd_get h
theorem bytes_cut (s : ByteArray) (n : Nat) : bytesOf (s.extract n s.size) = (bytesOf s).drop n := by
  unfold bytesOf
  rw [← List.map_drop]
  congr 1
  rw [ByteArray.data_extract, Array.toList_extract]
  simp only [List.extract]
  rw [List.take_of_length_le]
  rw [List.length_drop]
  have : s.data.toList.length = s.size := by rw [Array.length_toList]; rfl
  omega
/-! Keys. -/
def keyL (L : List Int) : Bool := decide (3 ≤ L.length) && (decide (L.headD 0 = 105 ∧ L.length ≤ 256) || decide (L.headD 0 = 104 ∧ L.length ≤ 18))
theorem keyB_L (s : ByteArray) : keyB s = keyL (bytesOf s) := by
  have h : bt s 0 = (bytesOf s).headD 0 := by
    rw [← rd_bytesOf, rd]
    cases bytesOf s <;> rfl
  unfold keyB keyL
  rw [bytesOf_length, h]
theorem keyB_str {L : List Int} (h : By L) : keyB (strOfNums L) = keyL L := by rw [keyB_L, bytes_str L h]
theorem keyL_len {L : List Int} (h : keyL L = true) : 3 ≤ L.length ∧ L.length ≤ 256 := by
  unfold keyL at h
  rw [Bool.and_eq_true, Bool.or_eq_true, decide_eq_true_iff, decide_eq_true_iff, decide_eq_true_iff] at h
  obtain ⟨h1, h2 | h2⟩ := h <;> omega
/-! Hexadecimal digits. -/
def hx (n : Int) : Int := if n < 10 then 48 + n else 87 + n
def dg (c : Int) : Int := (tab1.findIdx (fun d => d == c) : Nat)
theorem sixteen {P : Int → Prop} (h : ∀ i : Fin 16, P (i.val : Int)) (n : Int) (h0 : 0 ≤ n) (h1 : n < 16) : P n := by
  obtain ⟨m, rfl⟩ := Int.eq_ofNat_of_zero_le h0
  exact h ⟨m, by omega⟩
theorem tab_hx : ∀ n : Int, 0 ≤ n → n < 16 → rd tab1 n = hx n := sixteen (by decide)
theorem dg_hx : ∀ n : Int, 0 ≤ n → n < 16 → dg (hx n) = n := sixteen (by decide)
theorem hx_range : ∀ n : Int, 0 ≤ n → n < 16 → 48 ≤ hx n ∧ hx n ≤ 102 ∧ (hx n ≤ 57 ∨ 97 ≤ hx n) := sixteen (by decide)
theorem dg_range (c : Int) : 0 ≤ dg c ∧ dg c ≤ 16 := by
  unfold dg
  have : tab1.findIdx (fun d => d == c) ≤ 16 := List.findIdx_le_length
  omega
theorem hx_dg {c : Int} (h : dg c ≠ 16) : hx (dg c) = c := by
  have h2 := dg_range c
  rw [← tab_hx _ h2.1 (by omega)]
  have h3 : tab1.findIdx (fun d => d == c) < tab1.length := by
    have : tab1.length = 16 := rfl
    unfold dg at h h2
    omega
  have h4 := List.findIdx_getElem (w := h3)
  have h5 : tab1[tab1.findIdx (fun d => d == c)] = c := by simpa using h4
  unfold dg
  rw [rd_at h3, h5]
def hexL : List Int → List Int
  | [] => []
  | b :: l => hx (b / 16) :: hx (b % 16) :: hexL l
theorem hexL_len : ∀ l : List Int, (hexL l).length = 2 * l.length
  | [] => rfl
  | b :: l => by rw [hexL, List.length_cons, List.length_cons, List.length_cons, hexL_len l]; omega
theorem hexL_by : ∀ l : List Int, By l → By (hexL l)
  | [], _ => By.nil
  | b :: l, h => by
    rw [By.cons] at h
    have h1 := hx_range (b / 16) (by omega) (by omega)
    have h2 := hx_range (b % 16) (by omega) (by omega)
    rw [hexL, By.cons, By.cons]
    exact ⟨by omega, by omega, hexL_by l h.2⟩
def textL : List Int → List Int
  | [] => []
  | c :: l => c :: 45 :: hexL l
theorem textL_by : ∀ L : List Int, By L → By (textL L)
  | [], _ => By.nil
  | c :: l, h => by
    rw [By.cons] at h
    rw [textL, By.cons, By.cons]
    exact ⟨h.1, by omega, hexL_by l h.2⟩
theorem textL_len {L : List Int} (h : L ≠ []) : (textL L).length = 2 * L.length := by
  cases L with
  | nil => exact absurd rfl h
  | cons c l => rw [textL, List.length_cons, List.length_cons, hexL_len, List.length_cons]; omega
def unhex : List Int → Option (List Int)
  | [] => some []
  | [_] => none
  | a :: b :: l => if dg a = 16 ∨ dg b = 16 then none else (unhex l).map (fun x => (16 * dg a + dg b) :: x)
theorem unhex_hexL : ∀ l : List Int, By l → unhex (hexL l) = some l
  | [], _ => rfl
  | b :: l, h => by
    rw [By.cons] at h
    rw [hexL, unhex, dg_hx _ (by omega) (by omega), dg_hx _ (by omega) (by omega), if_neg (by omega), unhex_hexL l h.2, Option.map_some, show 16 * (b / 16) + b % 16 = b by omega]
theorem hexL_unhex : ∀ (l x : List Int), unhex l = some x → hexL x = l ∧ By x
  | [], x, h => by obtain rfl := Option.some.inj h; exact ⟨rfl, By.nil⟩
  | [_], x, h => by cases h
  | a :: b :: l, x, h => by
    rw [unhex] at h
    by_cases c : dg a = 16 ∨ dg b = 16
    · rw [if_pos c] at h; cases h
    · rw [if_neg c] at h
      obtain ⟨y, hy, rfl⟩ := Option.map_eq_some_iff.1 h
      obtain ⟨h1, h2⟩ := hexL_unhex l y hy
      have ra := dg_range a
      have rb := dg_range b
      have na : dg a ≠ 16 := fun e => c (.inl e)
      have nb : dg b ≠ 16 := fun e => c (.inr e)
      rw [hexL, h1, show (16 * dg a + dg b) / 16 = dg a by omega, show (16 * dg a + dg b) % 16 = dg b by omega, hx_dg na, hx_dg nb]
      exact ⟨rfl, By.cons.2 ⟨by omega, h2⟩⟩
def parseL : List Int → Option (List Int)
  | c :: d :: l => if d = 45 then (unhex l).bind (fun x => if keyL (c :: x) = true then some (c :: x) else none) else none
  | _ => none
theorem parse_text {L : List Int} (h : By L) (hk : keyL L = true) : parseL (textL L) = some L := by
  cases L with
  | nil => cases hk
  | cons c l =>
    rw [textL, parseL, if_pos rfl, unhex_hexL l (By.cons.1 h).2, Option.bind_some, if_pos hk]
theorem text_parse : ∀ {L x : List Int}, By L → parseL L = some x → textL x = L ∧ keyL x = true ∧ By x
  | c :: d :: l, x, h, hp => by
    rw [parseL] at hp
    by_cases e : d = 45
    · rw [if_pos e] at hp
      obtain ⟨y, hy, h2⟩ := Option.bind_eq_some_iff.1 hp
      by_cases k : keyL (c :: y) = true
      · rw [if_pos k] at h2
        obtain rfl := Option.some.inj h2
        obtain ⟨h3, h4⟩ := hexL_unhex l y hy
        exact ⟨by rw [textL, h3, e], k, By.cons.2 ⟨(By.cons.1 h).1, h4⟩⟩
      · rw [if_neg k] at h2; cases h2
    · rw [if_neg e] at hp; cases hp
  | [], x, _, hp => by cases hp
  | [_], x, _, hp => by cases hp
/-- What the reference makes of digits, whatever they are. -/
def vl (c : Int) : Int := if c ≥ 97 then (c - 87) % 256 else (c - 48) % 256
def pairs : List Int → List Int
  | a :: b :: l => ((vl a * 16) % 256 + vl b) % 256 :: pairs l
  | _ => []
theorem vl_hx : ∀ n : Int, 0 ≤ n → n < 16 → vl (hx n) = n := sixteen (by decide)
theorem pairs_hexL : ∀ l : List Int, By l → pairs (hexL l) = l
  | [], _ => rfl
  | b :: l, h => by
    rw [By.cons] at h
    rw [hexL, pairs, vl_hx _ (by omega) (by omega), vl_hx _ (by omega) (by omega), pairs_hexL l h.2, show (b / 16 * 16 % 256 + b % 16) % 256 = b by omega]
theorem pairs_by : ∀ l : List Int, By (pairs l)
  | a :: b :: l => by rw [pairs, By.cons]; exact ⟨by omega, pairs_by l⟩
  | [] => By.nil
  | [_] => By.nil
def refL (L : List Int) : List Int := match L with | c :: _ :: l => c :: pairs l | _ => []
/-- The document's way of reading a key's text comes to the same. -/
theorem parse_ref {L : List Int} (h : By L) (hl : L.length ≤ 100000) : parseL L = if L.length < 4 ∨ L.length % 2 = 1 then none else if keyL (refL L) = true ∧ textL (refL L) = L then some (refL L) else none := by
  have hback : ∀ x, parseL L = some x → ¬ (L.length < 4 ∨ L.length % 2 = 1) ∧ refL L = x ∧ keyL x = true ∧ textL x = L := by
    intro x hx
    obtain ⟨h1, h2, h3⟩ := text_parse h hx
    have h4 := keyL_len h2
    have h5 := textL_len (L := x) (by intro e; subst e; simp at h4)
    rw [h1] at h5
    refine ⟨by omega, ?_, h2, h1⟩
    cases x with
    | nil => cases h2
    | cons c y =>
      rw [← h1, textL, refL, pairs_hexL y (By.cons.1 h3).2]
  cases hp : parseL L with
  | some x =>
    obtain ⟨h1, h2, h3, h4⟩ := hback x hp
    rw [if_neg h1, h2, if_pos ⟨h3, h4⟩]
  | none =>
    by_cases c : L.length < 4 ∨ L.length % 2 = 1
    · rw [if_pos c]
    · rw [if_neg c]
      by_cases d : keyL (refL L) = true ∧ textL (refL L) = L
      · have hr : By (refL L) := by
          cases L with
          | nil => exact By.nil
          | cons a l =>
            cases l with
            | nil => exact By.nil
            | cons b l => exact By.cons.2 ⟨(By.cons.1 h).1, pairs_by l⟩
        have := parse_text hr d.1
        rw [d.2, hp] at this
        cases this
      · rw [if_neg d]
end Go.Proofs.YtdajdpgnhjlbaaaDoor.PLease
