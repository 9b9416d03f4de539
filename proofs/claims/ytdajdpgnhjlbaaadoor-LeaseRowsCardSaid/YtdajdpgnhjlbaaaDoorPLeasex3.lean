/- Lean functions for Go functions of the given program, and proofs that the code computes them, each under its theorem's own conditions. Written by a program of this session. -/
import Derived.Test.YtdajdpgnhjlbaaaDoorPLeasex0
import Derived.Test.YtdajdpgnhjlbaaaDoorPLeasex2
namespace Go.Proofs.YtdajdpgnhjlbaaaDoor.PLease
open Go.RowKit Go.Proofs.YtdajdpgnhjlbaaaDoorW.PrintWords Go.Proofs.YtdajdpgnhjlbaaaDoorW.PrintLast Go.Proofs.YtdajdpgnhjlbaaaDoorW.PrintMore
attribute [local go_sem] max2_int min2_int max_two min_two max_three min_three max_four min_four   -- for this text's walks alone
set_option linter.unusedVariables false
set_option linter.unusedSimpArgs false

/-! ### addr_Parse: function 44 -/
def addr_Parse.f (a0 : ByteArray) : Option (Int × Int) := some (Com.addrGo a0.data.toList 0 0 0 0)
theorem addr_Parse.drop_at (s : ByteArray) (pos : Nat) (h : pos < s.size) : s.data.toList.drop pos = (s[pos]'h) :: s.data.toList.drop (pos + 1) := by
  rw [List.drop_eq_getElem_cons (by simpa using h)]; rfl
/-- 'or' of a multiple of 256 and of a byte. -/
theorem addr_Parse.or_add (a p : Int) (h0 : 0 ≤ a) (h1 : a ≤ 16777215) (h2 : 0 ≤ p) (h3 : p ≤ 255) : Go.bits .or .i64 (a * 256) p = a * 256 + p := by
  obtain ⟨n, rfl⟩ := Int.eq_ofNat_of_zero_le h0
  obtain ⟨k, rfl⟩ := Int.eq_ofNat_of_zero_le h2
  rw [show ((n : Int) * 256) = ((n * 2 ^ 8 : Nat) : Int) from by omega, Com.i64_or_add n k 8 (by omega) (by omega)]
  omega
/-- What holds of the numbers at a round's head. -/
def addr_Parse.Inv (a p m q : Int) : Prop := 0 ≤ p ∧ p ≤ 255 ∧ 0 ≤ m ∧ m ≤ 3 ∧ (2 ≤ m → 10 ≤ p) ∧ (3 ≤ m → 100 ≤ p) ∧ 0 ≤ q ∧ q ≤ 3 ∧ 0 ≤ a ∧ (q ≤ 0 → a ≤ 0) ∧ (q ≤ 1 → a ≤ 255) ∧ (q ≤ 2 → a ≤ 65535) ∧ a ≤ 16777215
set_option maxHeartbeats 4000000 in
set_option maxRecDepth 100000 in
theorem addr_Parse.calls (a0 : ByteArray) (r1 : Int) (r2 : Int) (w : World) (h : addr_Parse.f a0 = some (r1, r2)) :
    Calls Tryd.prog 44 #[.string a0] w fun e w' => e = .returned (.tuple #[.int .i64 r1, .int .i64 r2]) ∧ Below w.heap.size w w' := by
  have HA := Aside0.mk (Option.some.inj h)
  clear h
  go_enter Tryd.func44, Tryd.ntmps44
  go_wp2
  go_loopw [4, 5, 6, 7] (fun v4 v5 v6 v7 w' => ∃ (pos : Nat) (a p m q : Int), w' = w.iter a0 pos ∧ pos ≤ a0.size ∧ v4 = .int .i64 a ∧ v5 = .int .i64 p ∧ v6 = .int .i64 m ∧ v7 = .int .i64 q ∧ Aside0 (Com.addrGo (a0.data.toList.drop pos) a p m q = (r1, r2)) ∧ Aside0 (addr_Parse.Inv a p m q)) (fun _ _ _ _ w' => a0.size - w'.iterPos w.heap.size)
  case atStart => exact ⟨0, 0, 0, 0, 0, rfl, by omega, rfl, rfl, rfl, rfl, HA, ⟨by unfold addr_Parse.Inv; omega⟩⟩
  case round =>
    clear HA
    obtain ⟨pos, a, p, m, q, rfl, hpos, rfl, rfl, rfl, rfl, HA, HI⟩ := hrel
    obtain ⟨i1, i2, i3, i4, i5, i6, i7, i8, i9, i10, i11, i12, i13⟩ := HI.out
    have HI5 := Aside0.mk i5; clear i5
    have HI6 := Aside0.mk i6; clear i6
    have HI10 := Aside0.mk i10; clear i10
    have HI11 := Aside0.mk i11; clear i11
    have HI12 := Aside0.mk i12; clear i12
    by_cases hp : pos < a0.size
    · have hd := addr_Parse.drop_at a0 pos hp
      by_cases hc : (a0[pos]'hp).toNat < 128
      · have hnx : ∀ ty, (Instr.next (.pointer (some ⟨w.heap.size, 0, none⟩)) true ty).run Tryd.prog (w.iter a0 pos) = .ok (.tuple #[.bool true, .int .i64 pos, .int .i32 (a0[pos]'hp).toNat]) (w.iter a0 (pos + 1)) := by
          intro ty
          have := run_next_any (P := Tryd.prog) w a0 pos ty hp
          rw [decode_ascii a0 pos hp hc] at this
          exact this
        generalize hcc : (a0[pos]'hp) = cc at *
        have HD := Aside0.mk hd; clear hd hcc
        have hc0 : (0 : Int) ≤ (cc.toNat : Int) := by omega
        have hc1 : (cc.toNat : Int) ≤ 127 := by omega
        have ho := addr_Parse.or_add a p i9 i13 i1 i2
        go_wp2
        all_goals
          have H := HA.out
          rw [HD.out] at H
          first | rw [Com.addrGo_cons] at H | rw [Com.addrGo_nil] at H
          first
          | (rw [if_pos (by omega)] at H
             go_roundw
             case rel => exact ⟨pos + 1, _, _, _, _, rfl, by omega, rfl, rfl, rfl, rfl, ⟨H⟩, ⟨by have j1 := HI5.out; have j2 := HI6.out; have j3 := HI10.out; have j4 := HI11.out; have j5 := HI12.out; unfold addr_Parse.Inv; omega⟩⟩
             case measure => simp; omega)
          | (rw [if_neg (by omega), if_pos (by omega)] at H
             go_roundw
             case rel => exact ⟨pos + 1, _, _, _, _, rfl, by omega, rfl, rfl, by go_num, rfl, ⟨H⟩, ⟨by have j1 := HI5.out; have j2 := HI6.out; have j3 := HI10.out; have j4 := HI11.out; have j5 := HI12.out; unfold addr_Parse.Inv; omega⟩⟩
             case measure => simp; omega)
          | (rw [if_neg (by omega), if_neg (by omega)] at H
             simp only [Prod.mk.injEq] at H
             obtain ⟨rfl, rfl⟩ := H
             go_ret2
             exact ⟨rfl, (Below.refl _ _).alloc (Nat.le_refl _) _⟩)
      · have hdh := decode_high a0 pos hp (by omega)
        have hnx : ∀ ty, (Instr.next (.pointer (some ⟨w.heap.size, 0, none⟩)) true ty).run Tryd.prog (w.iter a0 pos) = _ := fun ty => run_next_any w a0 pos ty hp
        generalize (Utf8.decode a0 pos).1 = rr at *
        generalize (Utf8.decode a0 pos).2 = ww at *
        have hr1 : (128 : Int) ≤ (rr : Int) := by omega
        generalize hcc : (a0[pos]'hp) = cc at *
        have HD := Aside0.mk hd; clear hd hcc
        go_wp2
        all_goals
          have H := HA.out
          rw [HD.out] at H
          first | rw [Com.addrGo_cons] at H | rw [Com.addrGo_nil] at H
          rw [if_neg (by omega), if_neg (by omega)] at H
          simp only [Prod.mk.injEq] at H
          obtain ⟨rfl, rfl⟩ := H
          go_ret2
          exact ⟨rfl, (Below.refl _ _).alloc (Nat.le_refl _) _⟩
    · have hnx : ∀ ty, (Instr.next (.pointer (some ⟨w.heap.size, 0, none⟩)) true ty).run Tryd.prog (w.iter a0 pos) = _ := fun ty => run_next_end w a0 pos ty hp
      have ho := addr_Parse.or_add a p i9 i13 i1 i2
      have hnil : Aside0 (a0.data.toList.drop pos = []) := ⟨List.drop_eq_nil_of_le (by have : a0.data.toList.length = a0.size := rfl; omega)⟩
      go_wp2
      all_goals
        have H := HA.out
        rw [hnil.out] at H
        first | rw [Com.addrGo_cons] at H | rw [Com.addrGo_nil] at H
        first
        | (rw [if_pos (by first | omega | (have hm := ‹(m == 0) = false›; simp at hm; omega))] at H
           simp only [Prod.mk.injEq] at H
           obtain ⟨rfl, rfl⟩ := H
           go_ret2
           exact ⟨rfl, (Below.refl _ _).alloc (Nat.le_refl _) _⟩)
        | (rw [if_neg (by first | omega | (have hm := ‹(m == 0) = true›; simp at hm; omega))] at H
           simp only [Prod.mk.injEq] at H
           obtain ⟨rfl, rfl⟩ := H
           go_ret2
           exact ⟨rfl, (Below.refl _ _).alloc (Nat.le_refl _) _⟩)

/-! ### key_digit: function 72 -/
/-- What a digit stands for; 16: it is none. -/
def key_digit.f (a0 : Int) : Option Int := some ((tab1.findIdx (fun d => d == a0) : Nat) : Int)
theorem key_digit.cells {w : World} (h : TabW w) : w.cell? ⟨1, 0, none⟩ = some (.int .u8 48) ∧ w.cell? ⟨1, 1, none⟩ = some (.int .u8 49) ∧ w.cell? ⟨1, 2, none⟩ = some (.int .u8 50) ∧ w.cell? ⟨1, 3, none⟩ = some (.int .u8 51) ∧ w.cell? ⟨1, 4, none⟩ = some (.int .u8 52) ∧ w.cell? ⟨1, 5, none⟩ = some (.int .u8 53) ∧ w.cell? ⟨1, 6, none⟩ = some (.int .u8 54) ∧ w.cell? ⟨1, 7, none⟩ = some (.int .u8 55) ∧ w.cell? ⟨1, 8, none⟩ = some (.int .u8 56) ∧ w.cell? ⟨1, 9, none⟩ = some (.int .u8 57) ∧ w.cell? ⟨1, 10, none⟩ = some (.int .u8 97) ∧ w.cell? ⟨1, 11, none⟩ = some (.int .u8 98) ∧ w.cell? ⟨1, 12, none⟩ = some (.int .u8 99) ∧ w.cell? ⟨1, 13, none⟩ = some (.int .u8 100) ∧ w.cell? ⟨1, 14, none⟩ = some (.int .u8 101) ∧ w.cell? ⟨1, 15, none⟩ = some (.int .u8 102) := by
  have c : ∀ i : Nat, i < 16 → w.cell? ⟨1, i, none⟩ = some (.int .u8 (tab1.getD i 0)) := fun i hi => by
    obtain ⟨ad, e, hx⟩ := Kd.at_int h.t1 (i : Int) (by omega) (by show (i : Int) < 16; omega)
    obtain rfl : (⟨1, 0, none⟩ : Addr) = ad := by injection e
    rw [add_plain] at hx
    simpa [rd, Int.toNat_natCast] using hx
  exact ⟨c 0 (by decide), c 1 (by decide), c 2 (by decide), c 3 (by decide), c 4 (by decide), c 5 (by decide), c 6 (by decide), c 7 (by decide), c 8 (by decide), c 9 (by decide), c 10 (by decide), c 11 (by decide), c 12 (by decide), c 13 (by decide), c 14 (by decide), c 15 (by decide)⟩
theorem key_digit.skip (a0 : Int) (i : Nat) (hi : i < 16) (h : ∀ j < i, tab1.getD j 0 ≠ a0) (he : tab1.getD i 0 = a0) : tab1.findIdx (fun d => d == a0) = i := by
  have hl : tab1.length = 16 := rfl
  rw [List.findIdx_eq (by omega)]
  refine ⟨by rw [← he, List.getD_eq_getElem?_getD, List.getElem?_eq_getElem (by omega)]; simp, fun j hj => ?_⟩
  have := h j hj
  rw [List.getD_eq_getElem?_getD, List.getElem?_eq_getElem (by omega)] at this
  simpa using this
theorem key_digit.none_ (a0 : Int) (h : ∀ j < 16, tab1.getD j 0 ≠ a0) : tab1.findIdx (fun d => d == a0) = 16 := by
  have hl : tab1.length = 16 := rfl
  rw [← hl, List.findIdx_eq_length]
  intro x hx
  obtain ⟨j, hj, rfl⟩ := List.mem_iff_getElem.1 hx
  have := h j (by omega)
  rw [List.getD_eq_getElem?_getD, List.getElem?_eq_getElem hj] at this
  simpa using this
set_option maxHeartbeats 8000000 in
set_option maxRecDepth 100000 in
theorem key_digit.calls (a0 : Int) (r : Int) (w : World) (hT : TabW w) (h : key_digit.f a0 = some r) :
    Calls Tryd.prog 72 #[.int .u8 a0] w fun e w' => e = .returned (.int .i64 r) ∧ Drawn0 w w' := by
  have hu46 := Tryd.underlying102
  obtain ⟨t0, t1, t2, t3, t4, t5, t6, t7, t8, t9, t10, t11, t12, t13, t14, t15⟩ := key_digit.cells hT
  clear hT
  have HR := Aside0.mk (Option.some.inj h)
  clear h
  go_enter Tryd.func72, Tryd.ntmps72
  go_wp2
  go_loopg [6] 16 (fun kq v6 w' => ∃ i : Nat, v6 = .int .i64 (i : Int) ∧ Aside0 (kq + i = 16 ∧ ∀ j < i, tab1.getD j 0 ≠ a0) ∧ Drawn0 w w')
  case atStart => exact ⟨0, (by first | rfl | (simp; done)), ⟨by omega, fun j hj => absurd hj (Nat.not_lt_zero j)⟩, sqD⟩
  obtain ⟨i, rfl, HA, ⟨m1, rfl⟩⟩ := hrel
  have hle := HA.out.1
  have hi : i = 0 ∨ i = 1 ∨ i = 2 ∨ i = 3 ∨ i = 4 ∨ i = 5 ∨ i = 6 ∨ i = 7 ∨ i = 8 ∨ i = 9 ∨ i = 10 ∨ i = 11 ∨ i = 12 ∨ i = 13 ∨ i = 14 ∨ i = 15 ∨ (i = 16 ∧ gk = 0) := by omega
  rcases hi with rfl | rfl | rfl | rfl | rfl | rfl | rfl | rfl | rfl | rfl | rfl | rfl | rfl | rfl | rfl | rfl | ⟨rfl, rfl⟩
  · obtain rfl : gk = 16 := by omega
    have hix : ∀ W : World, (Instr.index 102 (.agg #[.int .u8 48, .int .u8 49, .int .u8 50, .int .u8 51, .int .u8 52, .int .u8 53, .int .u8 54, .int .u8 55, .int .u8 56, .int .u8 57, .int .u8 97, .int .u8 98, .int .u8 99, .int .u8 100, .int .u8 101, .int .u8 102]) (.int .i64 0)).run Tryd.prog W = .ok (.int .u8 48) W := fun W => rfl
    by_cases c : a0 = 48
    · subst c
      obtain rfl := HR.out
      go_wp2
      go_ret
      exact ⟨by first | rfl | (simp; done), sqD⟩
    · have c0 : (a0 == 48) = false := beq_eq_false_iff_ne.mpr c
      have HN := Aside0.mk (show 15 + 1 = 16 ∧ ∀ j < 1, tab1.getD j 0 ≠ a0 from ⟨by omega, fun j hj => by rcases Nat.lt_succ_iff_lt_or_eq.1 hj with h | rfl; exact HA.out.2 j h; exact fun e => c e.symm⟩)
      clear HA c
      go_wp2
      go_roundg 15
      case measure => omega
      case rel => exact ⟨1, by first | rfl | (simp; done), ⟨rfl, HN.out.2⟩, sqD⟩
  · obtain rfl : gk = 15 := by omega
    have hix : ∀ W : World, (Instr.index 102 (.agg #[.int .u8 48, .int .u8 49, .int .u8 50, .int .u8 51, .int .u8 52, .int .u8 53, .int .u8 54, .int .u8 55, .int .u8 56, .int .u8 57, .int .u8 97, .int .u8 98, .int .u8 99, .int .u8 100, .int .u8 101, .int .u8 102]) (.int .i64 1)).run Tryd.prog W = .ok (.int .u8 49) W := fun W => rfl
    by_cases c : a0 = 49
    · subst c
      obtain rfl := HR.out
      go_wp2
      go_ret
      exact ⟨by first | rfl | (simp; done), sqD⟩
    · have c0 : (a0 == 49) = false := beq_eq_false_iff_ne.mpr c
      have HN := Aside0.mk (show 14 + 2 = 16 ∧ ∀ j < 2, tab1.getD j 0 ≠ a0 from ⟨by omega, fun j hj => by rcases Nat.lt_succ_iff_lt_or_eq.1 hj with h | rfl; exact HA.out.2 j h; exact fun e => c e.symm⟩)
      clear HA c
      go_wp2
      go_roundg 14
      case measure => omega
      case rel => exact ⟨2, by first | rfl | (simp; done), ⟨rfl, HN.out.2⟩, sqD⟩
  · obtain rfl : gk = 14 := by omega
    have hix : ∀ W : World, (Instr.index 102 (.agg #[.int .u8 48, .int .u8 49, .int .u8 50, .int .u8 51, .int .u8 52, .int .u8 53, .int .u8 54, .int .u8 55, .int .u8 56, .int .u8 57, .int .u8 97, .int .u8 98, .int .u8 99, .int .u8 100, .int .u8 101, .int .u8 102]) (.int .i64 2)).run Tryd.prog W = .ok (.int .u8 50) W := fun W => rfl
    by_cases c : a0 = 50
    · subst c
      obtain rfl := HR.out
      go_wp2
      go_ret
      exact ⟨by first | rfl | (simp; done), sqD⟩
    · have c0 : (a0 == 50) = false := beq_eq_false_iff_ne.mpr c
      have HN := Aside0.mk (show 13 + 3 = 16 ∧ ∀ j < 3, tab1.getD j 0 ≠ a0 from ⟨by omega, fun j hj => by rcases Nat.lt_succ_iff_lt_or_eq.1 hj with h | rfl; exact HA.out.2 j h; exact fun e => c e.symm⟩)
      clear HA c
      go_wp2
      go_roundg 13
      case measure => omega
      case rel => exact ⟨3, by first | rfl | (simp; done), ⟨rfl, HN.out.2⟩, sqD⟩
  · obtain rfl : gk = 13 := by omega
    have hix : ∀ W : World, (Instr.index 102 (.agg #[.int .u8 48, .int .u8 49, .int .u8 50, .int .u8 51, .int .u8 52, .int .u8 53, .int .u8 54, .int .u8 55, .int .u8 56, .int .u8 57, .int .u8 97, .int .u8 98, .int .u8 99, .int .u8 100, .int .u8 101, .int .u8 102]) (.int .i64 3)).run Tryd.prog W = .ok (.int .u8 51) W := fun W => rfl
    by_cases c : a0 = 51
    · subst c
      obtain rfl := HR.out
      go_wp2
      go_ret
      exact ⟨by first | rfl | (simp; done), sqD⟩
    · have c0 : (a0 == 51) = false := beq_eq_false_iff_ne.mpr c
      have HN := Aside0.mk (show 12 + 4 = 16 ∧ ∀ j < 4, tab1.getD j 0 ≠ a0 from ⟨by omega, fun j hj => by rcases Nat.lt_succ_iff_lt_or_eq.1 hj with h | rfl; exact HA.out.2 j h; exact fun e => c e.symm⟩)
      clear HA c
      go_wp2
      go_roundg 12
      case measure => omega
      case rel => exact ⟨4, by first | rfl | (simp; done), ⟨rfl, HN.out.2⟩, sqD⟩
  · obtain rfl : gk = 12 := by omega
    have hix : ∀ W : World, (Instr.index 102 (.agg #[.int .u8 48, .int .u8 49, .int .u8 50, .int .u8 51, .int .u8 52, .int .u8 53, .int .u8 54, .int .u8 55, .int .u8 56, .int .u8 57, .int .u8 97, .int .u8 98, .int .u8 99, .int .u8 100, .int .u8 101, .int .u8 102]) (.int .i64 4)).run Tryd.prog W = .ok (.int .u8 52) W := fun W => rfl
    by_cases c : a0 = 52
    · subst c
      obtain rfl := HR.out
      go_wp2
      go_ret
      exact ⟨by first | rfl | (simp; done), sqD⟩
    · have c0 : (a0 == 52) = false := beq_eq_false_iff_ne.mpr c
      have HN := Aside0.mk (show 11 + 5 = 16 ∧ ∀ j < 5, tab1.getD j 0 ≠ a0 from ⟨by omega, fun j hj => by rcases Nat.lt_succ_iff_lt_or_eq.1 hj with h | rfl; exact HA.out.2 j h; exact fun e => c e.symm⟩)
      clear HA c
      go_wp2
      go_roundg 11
      case measure => omega
      case rel => exact ⟨5, by first | rfl | (simp; done), ⟨rfl, HN.out.2⟩, sqD⟩
  · obtain rfl : gk = 11 := by omega
    have hix : ∀ W : World, (Instr.index 102 (.agg #[.int .u8 48, .int .u8 49, .int .u8 50, .int .u8 51, .int .u8 52, .int .u8 53, .int .u8 54, .int .u8 55, .int .u8 56, .int .u8 57, .int .u8 97, .int .u8 98, .int .u8 99, .int .u8 100, .int .u8 101, .int .u8 102]) (.int .i64 5)).run Tryd.prog W = .ok (.int .u8 53) W := fun W => rfl
    by_cases c : a0 = 53
    · subst c
      obtain rfl := HR.out
      go_wp2
      go_ret
      exact ⟨by first | rfl | (simp; done), sqD⟩
    · have c0 : (a0 == 53) = false := beq_eq_false_iff_ne.mpr c
      have HN := Aside0.mk (show 10 + 6 = 16 ∧ ∀ j < 6, tab1.getD j 0 ≠ a0 from ⟨by omega, fun j hj => by rcases Nat.lt_succ_iff_lt_or_eq.1 hj with h | rfl; exact HA.out.2 j h; exact fun e => c e.symm⟩)
      clear HA c
      go_wp2
      go_roundg 10
      case measure => omega
      case rel => exact ⟨6, by first | rfl | (simp; done), ⟨rfl, HN.out.2⟩, sqD⟩
  · obtain rfl : gk = 10 := by omega
    have hix : ∀ W : World, (Instr.index 102 (.agg #[.int .u8 48, .int .u8 49, .int .u8 50, .int .u8 51, .int .u8 52, .int .u8 53, .int .u8 54, .int .u8 55, .int .u8 56, .int .u8 57, .int .u8 97, .int .u8 98, .int .u8 99, .int .u8 100, .int .u8 101, .int .u8 102]) (.int .i64 6)).run Tryd.prog W = .ok (.int .u8 54) W := fun W => rfl
    by_cases c : a0 = 54
    · subst c
      obtain rfl := HR.out
      go_wp2
      go_ret
      exact ⟨by first | rfl | (simp; done), sqD⟩
    · have c0 : (a0 == 54) = false := beq_eq_false_iff_ne.mpr c
      have HN := Aside0.mk (show 9 + 7 = 16 ∧ ∀ j < 7, tab1.getD j 0 ≠ a0 from ⟨by omega, fun j hj => by rcases Nat.lt_succ_iff_lt_or_eq.1 hj with h | rfl; exact HA.out.2 j h; exact fun e => c e.symm⟩)
      clear HA c
      go_wp2
      go_roundg 9
      case measure => omega
      case rel => exact ⟨7, by first | rfl | (simp; done), ⟨rfl, HN.out.2⟩, sqD⟩
  · obtain rfl : gk = 9 := by omega
    have hix : ∀ W : World, (Instr.index 102 (.agg #[.int .u8 48, .int .u8 49, .int .u8 50, .int .u8 51, .int .u8 52, .int .u8 53, .int .u8 54, .int .u8 55, .int .u8 56, .int .u8 57, .int .u8 97, .int .u8 98, .int .u8 99, .int .u8 100, .int .u8 101, .int .u8 102]) (.int .i64 7)).run Tryd.prog W = .ok (.int .u8 55) W := fun W => rfl
    by_cases c : a0 = 55
    · subst c
      obtain rfl := HR.out
      go_wp2
      go_ret
      exact ⟨by first | rfl | (simp; done), sqD⟩
    · have c0 : (a0 == 55) = false := beq_eq_false_iff_ne.mpr c
      have HN := Aside0.mk (show 8 + 8 = 16 ∧ ∀ j < 8, tab1.getD j 0 ≠ a0 from ⟨by omega, fun j hj => by rcases Nat.lt_succ_iff_lt_or_eq.1 hj with h | rfl; exact HA.out.2 j h; exact fun e => c e.symm⟩)
      clear HA c
      go_wp2
      go_roundg 8
      case measure => omega
      case rel => exact ⟨8, by first | rfl | (simp; done), ⟨rfl, HN.out.2⟩, sqD⟩
  · obtain rfl : gk = 8 := by omega
    have hix : ∀ W : World, (Instr.index 102 (.agg #[.int .u8 48, .int .u8 49, .int .u8 50, .int .u8 51, .int .u8 52, .int .u8 53, .int .u8 54, .int .u8 55, .int .u8 56, .int .u8 57, .int .u8 97, .int .u8 98, .int .u8 99, .int .u8 100, .int .u8 101, .int .u8 102]) (.int .i64 8)).run Tryd.prog W = .ok (.int .u8 56) W := fun W => rfl
    by_cases c : a0 = 56
    · subst c
      obtain rfl := HR.out
      go_wp2
      go_ret
      exact ⟨by first | rfl | (simp; done), sqD⟩
    · have c0 : (a0 == 56) = false := beq_eq_false_iff_ne.mpr c
      have HN := Aside0.mk (show 7 + 9 = 16 ∧ ∀ j < 9, tab1.getD j 0 ≠ a0 from ⟨by omega, fun j hj => by rcases Nat.lt_succ_iff_lt_or_eq.1 hj with h | rfl; exact HA.out.2 j h; exact fun e => c e.symm⟩)
      clear HA c
      go_wp2
      go_roundg 7
      case measure => omega
      case rel => exact ⟨9, by first | rfl | (simp; done), ⟨rfl, HN.out.2⟩, sqD⟩
  · obtain rfl : gk = 7 := by omega
    have hix : ∀ W : World, (Instr.index 102 (.agg #[.int .u8 48, .int .u8 49, .int .u8 50, .int .u8 51, .int .u8 52, .int .u8 53, .int .u8 54, .int .u8 55, .int .u8 56, .int .u8 57, .int .u8 97, .int .u8 98, .int .u8 99, .int .u8 100, .int .u8 101, .int .u8 102]) (.int .i64 9)).run Tryd.prog W = .ok (.int .u8 57) W := fun W => rfl
    by_cases c : a0 = 57
    · subst c
      obtain rfl := HR.out
      go_wp2
      go_ret
      exact ⟨by first | rfl | (simp; done), sqD⟩
    · have c0 : (a0 == 57) = false := beq_eq_false_iff_ne.mpr c
      have HN := Aside0.mk (show 6 + 10 = 16 ∧ ∀ j < 10, tab1.getD j 0 ≠ a0 from ⟨by omega, fun j hj => by rcases Nat.lt_succ_iff_lt_or_eq.1 hj with h | rfl; exact HA.out.2 j h; exact fun e => c e.symm⟩)
      clear HA c
      go_wp2
      go_roundg 6
      case measure => omega
      case rel => exact ⟨10, by first | rfl | (simp; done), ⟨rfl, HN.out.2⟩, sqD⟩
  · obtain rfl : gk = 6 := by omega
    have hix : ∀ W : World, (Instr.index 102 (.agg #[.int .u8 48, .int .u8 49, .int .u8 50, .int .u8 51, .int .u8 52, .int .u8 53, .int .u8 54, .int .u8 55, .int .u8 56, .int .u8 57, .int .u8 97, .int .u8 98, .int .u8 99, .int .u8 100, .int .u8 101, .int .u8 102]) (.int .i64 10)).run Tryd.prog W = .ok (.int .u8 97) W := fun W => rfl
    by_cases c : a0 = 97
    · subst c
      obtain rfl := HR.out
      go_wp2
      go_ret
      exact ⟨by first | rfl | (simp; done), sqD⟩
    · have c0 : (a0 == 97) = false := beq_eq_false_iff_ne.mpr c
      have HN := Aside0.mk (show 5 + 11 = 16 ∧ ∀ j < 11, tab1.getD j 0 ≠ a0 from ⟨by omega, fun j hj => by rcases Nat.lt_succ_iff_lt_or_eq.1 hj with h | rfl; exact HA.out.2 j h; exact fun e => c e.symm⟩)
      clear HA c
      go_wp2
      go_roundg 5
      case measure => omega
      case rel => exact ⟨11, by first | rfl | (simp; done), ⟨rfl, HN.out.2⟩, sqD⟩
  · obtain rfl : gk = 5 := by omega
    have hix : ∀ W : World, (Instr.index 102 (.agg #[.int .u8 48, .int .u8 49, .int .u8 50, .int .u8 51, .int .u8 52, .int .u8 53, .int .u8 54, .int .u8 55, .int .u8 56, .int .u8 57, .int .u8 97, .int .u8 98, .int .u8 99, .int .u8 100, .int .u8 101, .int .u8 102]) (.int .i64 11)).run Tryd.prog W = .ok (.int .u8 98) W := fun W => rfl
    by_cases c : a0 = 98
    · subst c
      obtain rfl := HR.out
      go_wp2
      go_ret
      exact ⟨by first | rfl | (simp; done), sqD⟩
    · have c0 : (a0 == 98) = false := beq_eq_false_iff_ne.mpr c
      have HN := Aside0.mk (show 4 + 12 = 16 ∧ ∀ j < 12, tab1.getD j 0 ≠ a0 from ⟨by omega, fun j hj => by rcases Nat.lt_succ_iff_lt_or_eq.1 hj with h | rfl; exact HA.out.2 j h; exact fun e => c e.symm⟩)
      clear HA c
      go_wp2
      go_roundg 4
      case measure => omega
      case rel => exact ⟨12, by first | rfl | (simp; done), ⟨rfl, HN.out.2⟩, sqD⟩
  · obtain rfl : gk = 4 := by omega
    have hix : ∀ W : World, (Instr.index 102 (.agg #[.int .u8 48, .int .u8 49, .int .u8 50, .int .u8 51, .int .u8 52, .int .u8 53, .int .u8 54, .int .u8 55, .int .u8 56, .int .u8 57, .int .u8 97, .int .u8 98, .int .u8 99, .int .u8 100, .int .u8 101, .int .u8 102]) (.int .i64 12)).run Tryd.prog W = .ok (.int .u8 99) W := fun W => rfl
    by_cases c : a0 = 99
    · subst c
      obtain rfl := HR.out
      go_wp2
      go_ret
      exact ⟨by first | rfl | (simp; done), sqD⟩
    · have c0 : (a0 == 99) = false := beq_eq_false_iff_ne.mpr c
      have HN := Aside0.mk (show 3 + 13 = 16 ∧ ∀ j < 13, tab1.getD j 0 ≠ a0 from ⟨by omega, fun j hj => by rcases Nat.lt_succ_iff_lt_or_eq.1 hj with h | rfl; exact HA.out.2 j h; exact fun e => c e.symm⟩)
      clear HA c
      go_wp2
      go_roundg 3
      case measure => omega
      case rel => exact ⟨13, by first | rfl | (simp; done), ⟨rfl, HN.out.2⟩, sqD⟩
  · obtain rfl : gk = 3 := by omega
    have hix : ∀ W : World, (Instr.index 102 (.agg #[.int .u8 48, .int .u8 49, .int .u8 50, .int .u8 51, .int .u8 52, .int .u8 53, .int .u8 54, .int .u8 55, .int .u8 56, .int .u8 57, .int .u8 97, .int .u8 98, .int .u8 99, .int .u8 100, .int .u8 101, .int .u8 102]) (.int .i64 13)).run Tryd.prog W = .ok (.int .u8 100) W := fun W => rfl
    by_cases c : a0 = 100
    · subst c
      obtain rfl := HR.out
      go_wp2
      go_ret
      exact ⟨by first | rfl | (simp; done), sqD⟩
    · have c0 : (a0 == 100) = false := beq_eq_false_iff_ne.mpr c
      have HN := Aside0.mk (show 2 + 14 = 16 ∧ ∀ j < 14, tab1.getD j 0 ≠ a0 from ⟨by omega, fun j hj => by rcases Nat.lt_succ_iff_lt_or_eq.1 hj with h | rfl; exact HA.out.2 j h; exact fun e => c e.symm⟩)
      clear HA c
      go_wp2
      go_roundg 2
      case measure => omega
      case rel => exact ⟨14, by first | rfl | (simp; done), ⟨rfl, HN.out.2⟩, sqD⟩
  · obtain rfl : gk = 2 := by omega
    have hix : ∀ W : World, (Instr.index 102 (.agg #[.int .u8 48, .int .u8 49, .int .u8 50, .int .u8 51, .int .u8 52, .int .u8 53, .int .u8 54, .int .u8 55, .int .u8 56, .int .u8 57, .int .u8 97, .int .u8 98, .int .u8 99, .int .u8 100, .int .u8 101, .int .u8 102]) (.int .i64 14)).run Tryd.prog W = .ok (.int .u8 101) W := fun W => rfl
    by_cases c : a0 = 101
    · subst c
      obtain rfl := HR.out
      go_wp2
      go_ret
      exact ⟨by first | rfl | (simp; done), sqD⟩
    · have c0 : (a0 == 101) = false := beq_eq_false_iff_ne.mpr c
      have HN := Aside0.mk (show 1 + 15 = 16 ∧ ∀ j < 15, tab1.getD j 0 ≠ a0 from ⟨by omega, fun j hj => by rcases Nat.lt_succ_iff_lt_or_eq.1 hj with h | rfl; exact HA.out.2 j h; exact fun e => c e.symm⟩)
      clear HA c
      go_wp2
      go_roundg 1
      case measure => omega
      case rel => exact ⟨15, by first | rfl | (simp; done), ⟨rfl, HN.out.2⟩, sqD⟩
  · obtain rfl : gk = 1 := by omega
    have hix : ∀ W : World, (Instr.index 102 (.agg #[.int .u8 48, .int .u8 49, .int .u8 50, .int .u8 51, .int .u8 52, .int .u8 53, .int .u8 54, .int .u8 55, .int .u8 56, .int .u8 57, .int .u8 97, .int .u8 98, .int .u8 99, .int .u8 100, .int .u8 101, .int .u8 102]) (.int .i64 15)).run Tryd.prog W = .ok (.int .u8 102) W := fun W => rfl
    by_cases c : a0 = 102
    · subst c
      obtain rfl := HR.out
      go_wp2
      go_ret
      exact ⟨by first | rfl | (simp; done), sqD⟩
    · have c0 : (a0 == 102) = false := beq_eq_false_iff_ne.mpr c
      have HN := Aside0.mk (show 0 + 16 = 16 ∧ ∀ j < 16, tab1.getD j 0 ≠ a0 from ⟨by omega, fun j hj => by rcases Nat.lt_succ_iff_lt_or_eq.1 hj with h | rfl; exact HA.out.2 j h; exact fun e => c e.symm⟩)
      clear HA c
      go_wp2
      go_roundg 0
      case measure => omega
      case rel => exact ⟨16, by first | rfl | (simp; done), ⟨rfl, HN.out.2⟩, sqD⟩
  · obtain rfl := (show (16 : Int) = r from by rw [← HR.out, key_digit.none_ a0 HA.out.2]; rfl)
    go_wp2
    go_ret
    exact ⟨by first | rfl | (simp; done), sqD⟩

/-! ### key_Parse: function 45 -/
mutual
def key_Parse.j0 : Nat → ByteArray → Bool → Option (ByteArray × Int)
  | 0, _, _ => none
  | k + 1, x0, x21 => if x21 = true then (some ((⟨#[]⟩ : ByteArray), 2)) else (if 0 < (x0.size : Int) then (key_Parse.l0 k x0 (([bt x0 0] : List Int)) 2) else (none))
def key_Parse.l0 : Nat → ByteArray → List Int → Int → Option (ByteArray × Int)
  | 0, _, _, _ => none
  | k + 1, x0, x4, x5 => if x5 < (x0.size : Int) then (if 0 ≤ x5 then ((key_digit.f (bt x0 x5)).bind fun t182 => (if 0 ≤ (wrap64 (x5 + 1)) then (if (wrap64 (x5 + 1)) < (x0.size : Int) then ((key_digit.f (bt x0 (wrap64 (x5 + 1)))).bind fun t183 => (if t182 = 16 then (some ((⟨#[]⟩ : ByteArray), 2)) else (if t183 = 16 then (some ((⟨#[]⟩ : ByteArray), 2)) else (if x4.length < 140737488355328 then (key_Parse.l0 k x0 (x4 ++ [(wrap64 ((wrap64 (16 * t182)) + t183)) % 256]) (wrap64 (x5 + 2))) else (none))))) else (none)) else (none))) else (none)) else ((key_Right.f (strOfNums x4)).bind fun t181 => (if t181 = true then (some (strOfNums x4, 0)) else (some ((⟨#[]⟩ : ByteArray), 2))))
end
def key_Parse.f (k : Nat) (a0 : ByteArray) : Option (ByteArray × Int) := if (a0.size : Int) < 2 then (key_Parse.j0 k a0 true) else (if 1 < (a0.size : Int) then (if (bt a0 1) = 45 then (key_Parse.j0 k a0 (((a0.size : Int) % 2) != 0)) else (key_Parse.j0 k a0 true)) else (none))
theorem key_Parse.mono_l : ∀ k, (∀ y0 y1, LeO (key_Parse.j0 k y0 y1) (key_Parse.j0 (k + 1) y0 y1)) ∧ (∀ y0 y1 y2, LeO (key_Parse.l0 k y0 y1 y2) (key_Parse.l0 (k + 1) y0 y1 y2))
  | 0 => ⟨fun _ _ r h => by simp [key_Parse.j0] at h, fun _ _ _ r h => by simp [key_Parse.l0] at h⟩
  | k + 1 => by
    obtain ⟨ih0, ih1⟩ := key_Parse.mono_l k
    refine ⟨?_, ?_⟩
    · intro y0 y1
      unfold key_Parse.j0
      repeat' first
      | (with_reducible exact ih0 _ _)
      | (with_reducible exact ih1 _ _ _)
      | (with_reducible exact LeO.refl _)
      | (with_reducible exact LeO.none _)
      | (with_reducible refine LeO.ite ?_ ?_)
      | (with_reducible refine LeO.bind ?_ (fun _ => ?_))
    · intro y0 y1 y2
      unfold key_Parse.l0
      repeat' first
      | (with_reducible exact ih0 _ _)
      | (with_reducible exact ih1 _ _ _)
      | (with_reducible exact LeO.refl _)
      | (with_reducible exact LeO.none _)
      | (with_reducible refine LeO.ite ?_ ?_)
      | (with_reducible refine LeO.bind ?_ (fun _ => ?_))
theorem key_Parse.mono : ∀ a0 k, LeO (key_Parse.f k a0) (key_Parse.f (k + 1) a0) := by
 intro a0 k
 obtain ⟨ih0, ih1⟩ := key_Parse.mono_l k
 unfold key_Parse.f
 repeat' first
  | (with_reducible exact ih0 _ _)
  | (with_reducible exact ih1 _ _ _)
  | (with_reducible exact LeO.refl _)
  | (with_reducible exact LeO.none _)
  | (with_reducible refine LeO.ite ?_ ?_)
  | (with_reducible refine LeO.bind ?_ (fun _ => ?_))
set_option maxHeartbeats 8000000 in
set_option maxRecDepth 100000 in
theorem key_Parse.calls (k : Nat) (a0 : ByteArray) (r1 : ByteArray) (r2 : Int) (w : World) (hT : TabW w) (h : key_Parse.f k a0 = some (r1, r2)) :
    Calls Tryd.prog 45 #[.string a0] w fun e w' => e = .returned (.tuple #[.string r1, .int .i64 r2]) ∧ Below w.heap.size w w' := by
 have HT := Aside0.mk hT
 clear hT
 have HRT1 := Aside0.mk HT.out.t1
 have HRT0 := Aside0.mk HT.out.t0
 have HB := Aside0.mk (Below.refl w.heap.size w)
 have H : (if (a0.size : Int) < 2 then (key_Parse.j0 k a0 true) else (if 1 < (a0.size : Int) then (if (bt a0 1) = 45 then (key_Parse.j0 k a0 (((a0.size : Int) % 2) != 0)) else (key_Parse.j0 k a0 true)) else (none))) = some (r1, r2) := h
 clear h
 have HC2 := Aside0.mk H
 clear H
 go_enter Tryd.func45, Tryd.ntmps45
 go_upto_region 1 with (fail)
 repeat (go_quiet (fail); go_upto_region 1 with (fail))
 go_cut [21] (fun v21 wc => ∃ (kq : Nat) (x21_1 : Bool), v21 = .bool x21_1 ∧ Aside0 (key_Parse.j0 kq a0 x21_1 = some (r1, r2)) ∧ Aside0 (kq ≤ k) ∧ Aside0 (Below w.heap.size w wc))
 case first =>
  have H := HC2.out
  clear HC2
  by_cases c3 : (a0.size : Int) < 2
  · rw [if_pos c3] at H
    have c3b0 : decide ((a0.size : Int) < 2) = true := decide_eq_true c3
    have c3b1 : decide (a0.size < 2) = true := decide_eq_true (by omega)
    clear c3
    (first | rw [c3b0] | (simp only [i64_w, i32_w]; rw [c3b0]) | skip)
    have H' := Aside0.mk H
    clear H
    go_wp2
    repeat (go_quiet (fail); try go_wp2)
    go_meet
    case rel => exact ⟨_, (true), sqI, H', ⟨by first | omega | exact Nat.le_refl _⟩, ⟨sqB HB.out⟩⟩
  rw [if_neg c3] at H
  have c3b0 : decide ((a0.size : Int) < 2) = false := decide_eq_false c3
  have c3b1 : decide (a0.size < 2) = false := decide_eq_false (by omega)
  clear c3
  (first | rw [c3b0] | (simp only [i64_w, i32_w]; rw [c3b0]) | skip)
  by_cases c4 : 1 < (a0.size : Int)
  rotate_left
  · rw [if_neg c4] at H
    exact absurd H (by simp)
  rw [if_pos c4] at H
  have c4b0 : decide (1 < (a0.size : Int)) = true := decide_eq_true c4
  have c4b1 : decide (1 < a0.size) = true := decide_eq_true (by omega)
  clear c4
  by_cases c6 : (bt a0 1) = 45
  rotate_left
  · rw [if_neg c6] at H
    have c6b0 : ((bt a0 1) == 45) = false := beq_eq_false_iff_ne.mpr c6
    have c6b1 : ((bt a0 1) != 45) = true := bne_iff_ne.mpr c6
    have H' := Aside0.mk H
    clear H
    have p5 : 0 ≤ (1 : Int) := (by omega)
    have q5 : 1 < a0.size := (by have : (1 : Int) < (a0.size : Int) := of_decide_eq_true sqH; omega)
    have hx5 : ∀ h : 1 < a0.size, ((a0[1]'h).toNat : Int) = bt a0 1 := bt_at a0 1
    clear p5
    have qi5 : (1 < (a0.size : Int)) = True := eq_true (of_decide_eq_true sqH)
    replace q5 := eq_true q5
    go_wp2
    repeat (go_quiet (fail); try go_wp2)
    go_meet
    case rel => exact ⟨_, (true), sqI, H', ⟨by first | omega | exact Nat.le_refl _⟩, ⟨sqB HB.out⟩⟩
  rw [if_pos c6] at H
  have c6b0 : ((bt a0 1) == 45) = true := beq_iff_eq.mpr c6
  have c6b1 : ((bt a0 1) != 45) = false := bne_eq_false_iff_eq.mpr c6
  clear c6
  have H' := Aside0.mk H
  clear H
  have p5 : 0 ≤ (1 : Int) := (by omega)
  have q5 : 1 < a0.size := (by have : (1 : Int) < (a0.size : Int) := of_decide_eq_true sqH; omega)
  have hx5 : ∀ h : 1 < a0.size, ((a0[1]'h).toNat : Int) = bt a0 1 := bt_at a0 1
  clear p5
  have qi5 : (1 < (a0.size : Int)) = True := eq_true (of_decide_eq_true sqH)
  replace q5 := eq_true q5
  go_wp2
  repeat (go_quiet (fail); try go_wp2)
  go_meet
  case rel => exact ⟨_, ((((a0.size : Int) % 2) != 0)), sqI, H', ⟨by first | omega | exact Nat.le_refl _⟩, ⟨sqB HB.out⟩⟩
 clear HC2
 try clear p2
 try clear c3
 try clear c3b0
 try clear c3b1
 try clear c4
 try clear c4b0
 try clear c4b1
 try clear p5
 try clear q5
 try clear hx5
 try clear qi5
 try clear c6
 try clear c6b0
 try clear c6b1
 try clear p5
 try clear q5
 obtain ⟨kq, x21_1, rfl, HA, HJ1, HB⟩ := hcut
 cases kq with
 | zero => exact absurd HA.out (by simp [key_Parse.j0])
 | succ kj1 => ?_
 have H := HA.out
 clear HA
 simp only [key_Parse.j0] at H
 by_cases c7 : x21_1 = true
 · subst c7
   have H1 : (some ((⟨#[]⟩ : ByteArray), 2)) = some (r1, r2) := by rw [if_pos rfl] at H; exact H
   clear H
   have H := H1
   clear H1
   simp only [Option.some.injEq, Prod.mk.injEq] at H
   obtain ⟨rfl, rfl⟩ := H
   go_wp2
   repeat (go_quiet (fail); try go_wp2)
   go_ret2
   exact ⟨sqE, sqB HB.out⟩
 replace c7 := Bool.eq_false_iff.mpr c7
 subst c7
 have H1 : (if 0 < (a0.size : Int) then (key_Parse.l0 kj1 a0 (([bt a0 0] : List Int)) 2) else (none)) = some (r1, r2) := by rw [if_neg (show ¬ (false = true) by decide)] at H; exact H
 clear H
 have H := H1
 clear H1
 by_cases c8 : 0 < (a0.size : Int)
 rotate_left
 · rw [if_neg c8] at H
   exact absurd H (by simp)
 rw [if_pos c8] at H
 have c8b0 : decide (0 < (a0.size : Int)) = true := decide_eq_true c8
 have c8b1 : decide (0 < a0.size) = true := decide_eq_true (by omega)
 clear c8
 obtain ⟨y178, hy178⟩ : ∃ y_ : List Int, y_ = (([bt a0 0] : List Int)) := ⟨_, rfl⟩
 replace H : (key_Parse.l0 kj1 a0 y178 2) = some (r1, r2) := by first | (rw [hy178]; with_reducible exact H) | (have H2_ := (Option.bind_some _ _).symm.trans H; rw [hy178]; with_reducible exact H2_) | (have H2_ := (Option.bind_some _ _).symm.trans H; with_reducible exact H2_) | with_reducible exact H | (rw [hy178]; exact H) | exact H
 have Ny178 := Aside0.mk hy178
 clear hy178
 have H' := Aside0.mk H
 clear H
 have p9 : 0 ≤ (0 : Int) := (by omega)
 have q9 : 0 < a0.size := (by have : (0 : Int) < (a0.size : Int) := of_decide_eq_true sqH; omega)
 have hx9 : ∀ h : 0 < a0.size, ((a0[0]'h).toNat : Int) = bt a0 0 := bt_at a0 0
 clear p9
 have qi9 : (0 < (a0.size : Int)) = True := eq_true (of_decide_eq_true sqH)
 replace q9 := eq_true q9
 go_wp2_with (first | ((with_reducible refine gate_dst (N := 24) rfl ?_); (try (refine gate_guard (by rfl) ?_; dsimp only)); refine Kd.R_lit (Kd.int .u8) _ 5 ?hg (N := 24) ?hd (xs := ([bt a0 0] : List Int)) (inner := [.int .u8 (bt a0 0)]) (ok := fun _ => True) (okp := fun _ => True) ?hr ?hp (fun _ hk => hk) trivial (Below.refl _ _) (Nat.le_refl _) (by simp) ?_; (case hd => rfl); (case hg => rfl); (case hr => first | (go_simp; done) | (go_simp; rfl)); (case hp => exact (Reps.one (show Kd.M (Kd.int .u8) _ _ _ (bt a0 0) [.int .u8 (bt a0 0)] from rfl) (Reps.none _ _))); intro v179 w10 ho11 hb hg_ hnew_; clear hg_ hnew_; (first | rw [← Ny178.out] at ho11 | (simp only [Int.reduceToNat] at ho11; rw [← Ny178.out] at ho11)); have HO180 := sqM (Kd.R_lower ho11 (below_size (sqB HB.out))); replace HB := sqM (below_step (sqB HB.out) hb); clear hb ho11))
 repeat (go_quiet (first | ((with_reducible refine gate_dst (N := 24) rfl ?_); (try (refine gate_guard (by rfl) ?_; dsimp only)); refine Kd.R_lit (Kd.int .u8) _ 5 ?hg (N := 24) ?hd (xs := ([bt a0 0] : List Int)) (inner := [.int .u8 (bt a0 0)]) (ok := fun _ => True) (okp := fun _ => True) ?hr ?hp (fun _ hk => hk) trivial (Below.refl _ _) (Nat.le_refl _) (by simp) ?_; (case hd => rfl); (case hg => rfl); (case hr => first | (go_simp; done) | (go_simp; rfl)); (case hp => exact (Reps.one (show Kd.M (Kd.int .u8) _ _ _ (bt a0 0) [.int .u8 (bt a0 0)] from rfl) (Reps.none _ _))); intro v179 w10 ho11 hb hg_ hnew_; clear hg_ hnew_; (first | rw [← Ny178.out] at ho11 | (simp only [Int.reduceToNat] at ho11; rw [← Ny178.out] at ho11)); have HO180 := sqM (Kd.R_lower ho11 (below_size (sqB HB.out))); replace HB := sqM (below_step (sqB HB.out) hb); clear hb ho11)); try go_wp2_with (first | ((with_reducible refine gate_dst (N := 24) rfl ?_); (try (refine gate_guard (by rfl) ?_; dsimp only)); refine Kd.R_lit (Kd.int .u8) _ 5 ?hg (N := 24) ?hd (xs := ([bt a0 0] : List Int)) (inner := [.int .u8 (bt a0 0)]) (ok := fun _ => True) (okp := fun _ => True) ?hr ?hp (fun _ hk => hk) trivial (Below.refl _ _) (Nat.le_refl _) (by simp) ?_; (case hd => rfl); (case hg => rfl); (case hr => first | (go_simp; done) | (go_simp; rfl)); (case hp => exact (Reps.one (show Kd.M (Kd.int .u8) _ _ _ (bt a0 0) [.int .u8 (bt a0 0)] from rfl) (Reps.none _ _))); intro v179 w10 ho11 hb hg_ hnew_; clear hg_ hnew_; (first | rw [← Ny178.out] at ho11 | (simp only [Int.reduceToNat] at ho11; rw [← Ny178.out] at ho11)); have HO180 := sqM (Kd.R_lower ho11 (below_size (sqB HB.out))); replace HB := sqM (below_step (sqB HB.out) hb); clear hb ho11)))
 go_loopg [4, 5] kj1 (fun kq v4 v5 w' => ∃ (x4_2 : List Int) (x5_2 : Int), v5 = .int .i64 x5_2 ∧ Aside0 (key_Parse.l0 kq a0 x4_2 x5_2 = some (r1, r2)) ∧ Aside0 (kq ≤ kj1) ∧ Aside0 (Kd.R (Kd.int .u8) 5 w' w.heap.size (fun _ => True) v4 x4_2) ∧ Aside0 (Below w.heap.size w w'))
 case atStart => exact ⟨(y178), (2), sqI, H', ⟨Nat.le_refl _⟩, ⟨sqR HO180.out⟩, ⟨sqB HB.out⟩⟩
 clear H'
 try clear p2
 try clear c3
 try clear c3b0
 try clear c3b1
 try clear c4
 try clear c4b0
 try clear c4b1
 try clear p5
 try clear q5
 try clear hx5
 try clear qi5
 try clear c6
 try clear c6b0
 try clear c6b1
 try clear c7
 try clear c8
 try clear c8b0
 try clear c8b1
 try clear p9
 try clear q9
 try clear hx9
 try clear qi9
 try clear p2
 try clear p5
 try clear p9
 try clear q5
 try clear q9
 obtain ⟨x4_2, x5_2, rfl, HA, HK2, HO_4, HB⟩ := hrel
 cases gk with
 | zero => exact absurd HA.out (by simp [key_Parse.l0])
 | succ k2 => ?_
 have H := HA.out
 clear HA
 simp only [key_Parse.l0] at H
 by_cases c12 : x5_2 < (a0.size : Int)
 rotate_left
 · rw [if_neg c12] at H
   have c12b0 : decide (x5_2 < (a0.size : Int)) = false := decide_eq_false c12
   clear c12
   replace H := Option.bind_eq_some_iff.mp H
   obtain ⟨t181, A250, H⟩ := H
   replace H : (if t181 = true then (some (strOfNums x4_2, 0)) else (some ((⟨#[]⟩ : ByteArray), 2))) = some (r1, r2) := H
   have A25 := Aside0.mk A250
   clear A250
   by_cases c26 : t181 = true
   · subst c26
     have H1 : (some (strOfNums x4_2, 0)) = some (r1, r2) := by rw [if_pos rfl] at H; exact H
     clear H
     have H := H1
     clear H1
     simp only [Option.some.injEq, Prod.mk.injEq] at H
     obtain ⟨rfl, rfl⟩ := H
     have hcv27 := own_string (P := Tryd.prog) Tryd.underlying59 Tryd.underlying5 Tryd.underlying9 (Kd.own_of_R HO_4.out)
     have hcw28 := fun n_ => own_string (P := Tryd.prog) Tryd.underlying59 Tryd.underlying5 Tryd.underlying9 (Kd.own_of_R (Kd.R_drewN HO_4.out n_))
     go_wp2_with (first | (go_at_call 68; (with_reducible refine (key_Right.calls _ _ _ A25.out).mono ?_); rintro e w' ⟨rfl, ⟨nd, rfl⟩⟩; (try first | exact ⟨rfl, _, World.drewN_drewN _ _ _⟩ | exact ⟨rfl, _, Eq.trans (World.drewN_drewN _ _ _) (congrArg (World.drewN _) (Nat.add_assoc _ _ _))⟩); have hcv29 := own_string (P := Tryd.prog) Tryd.underlying59 Tryd.underlying5 Tryd.underlying9 (Kd.own_of_R HO_4.out); have hcw30 := fun n_ => own_string (P := Tryd.prog) Tryd.underlying59 Tryd.underlying5 Tryd.underlying9 (Kd.own_of_R (Kd.R_drewN HO_4.out n_))))
     repeat (go_quiet (first | (go_at_call 68; (with_reducible refine (key_Right.calls _ _ _ A25.out).mono ?_); rintro e w' ⟨rfl, ⟨nd, rfl⟩⟩; (try first | exact ⟨rfl, _, World.drewN_drewN _ _ _⟩ | exact ⟨rfl, _, Eq.trans (World.drewN_drewN _ _ _) (congrArg (World.drewN _) (Nat.add_assoc _ _ _))⟩); have hcv29 := own_string (P := Tryd.prog) Tryd.underlying59 Tryd.underlying5 Tryd.underlying9 (Kd.own_of_R HO_4.out); have hcw30 := fun n_ => own_string (P := Tryd.prog) Tryd.underlying59 Tryd.underlying5 Tryd.underlying9 (Kd.own_of_R (Kd.R_drewN HO_4.out n_)))); try go_wp2_with (first | (go_at_call 68; (with_reducible refine (key_Right.calls _ _ _ A25.out).mono ?_); rintro e w' ⟨rfl, ⟨nd, rfl⟩⟩; (try first | exact ⟨rfl, _, World.drewN_drewN _ _ _⟩ | exact ⟨rfl, _, Eq.trans (World.drewN_drewN _ _ _) (congrArg (World.drewN _) (Nat.add_assoc _ _ _))⟩); have hcv29 := own_string (P := Tryd.prog) Tryd.underlying59 Tryd.underlying5 Tryd.underlying9 (Kd.own_of_R HO_4.out); have hcw30 := fun n_ => own_string (P := Tryd.prog) Tryd.underlying59 Tryd.underlying5 Tryd.underlying9 (Kd.own_of_R (Kd.R_drewN HO_4.out n_)))))
     go_ret2
     exact ⟨sqE, sqB HB.out⟩
   replace c26 := Bool.eq_false_iff.mpr c26
   subst c26
   have H1 : (some ((⟨#[]⟩ : ByteArray), 2)) = some (r1, r2) := by rw [if_neg (show ¬ (false = true) by decide)] at H; exact H
   clear H
   have H := H1
   clear H1
   simp only [Option.some.injEq, Prod.mk.injEq] at H
   obtain ⟨rfl, rfl⟩ := H
   have hcv31 := own_string (P := Tryd.prog) Tryd.underlying59 Tryd.underlying5 Tryd.underlying9 (Kd.own_of_R HO_4.out)
   have hcw32 := fun n_ => own_string (P := Tryd.prog) Tryd.underlying59 Tryd.underlying5 Tryd.underlying9 (Kd.own_of_R (Kd.R_drewN HO_4.out n_))
   go_wp2_with (first | (go_at_call 68; (with_reducible refine (key_Right.calls _ _ _ A25.out).mono ?_); rintro e w' ⟨rfl, ⟨nd, rfl⟩⟩; (try first | exact ⟨rfl, _, World.drewN_drewN _ _ _⟩ | exact ⟨rfl, _, Eq.trans (World.drewN_drewN _ _ _) (congrArg (World.drewN _) (Nat.add_assoc _ _ _))⟩)))
   repeat (go_quiet (first | (go_at_call 68; (with_reducible refine (key_Right.calls _ _ _ A25.out).mono ?_); rintro e w' ⟨rfl, ⟨nd, rfl⟩⟩; (try first | exact ⟨rfl, _, World.drewN_drewN _ _ _⟩ | exact ⟨rfl, _, Eq.trans (World.drewN_drewN _ _ _) (congrArg (World.drewN _) (Nat.add_assoc _ _ _))⟩))); try go_wp2_with (first | (go_at_call 68; (with_reducible refine (key_Right.calls _ _ _ A25.out).mono ?_); rintro e w' ⟨rfl, ⟨nd, rfl⟩⟩; (try first | exact ⟨rfl, _, World.drewN_drewN _ _ _⟩ | exact ⟨rfl, _, Eq.trans (World.drewN_drewN _ _ _) (congrArg (World.drewN _) (Nat.add_assoc _ _ _))⟩))))
   go_ret2
   exact ⟨sqE, sqB HB.out⟩
 rw [if_pos c12] at H
 have c12b0 : decide (x5_2 < (a0.size : Int)) = true := decide_eq_true c12
 clear c12
 by_cases c13 : 0 ≤ x5_2
 rotate_left
 · rw [if_neg c13] at H
   exact absurd H (by simp)
 rw [if_pos c13] at H
 have c13b0 : decide (0 ≤ x5_2) = true := decide_eq_true c13
 clear c13
 replace H := Option.bind_eq_some_iff.mp H
 obtain ⟨t182, A150, H⟩ := H
 replace H : (if 0 ≤ (wrap64 (x5_2 + 1)) then (if (wrap64 (x5_2 + 1)) < (a0.size : Int) then ((key_digit.f (bt a0 (wrap64 (x5_2 + 1)))).bind fun t183 => (if t182 = 16 then (some ((⟨#[]⟩ : ByteArray), 2)) else (if t183 = 16 then (some ((⟨#[]⟩ : ByteArray), 2)) else (if x4_2.length < 140737488355328 then (key_Parse.l0 k2 a0 (x4_2 ++ [(wrap64 ((wrap64 (16 * t182)) + t183)) % 256]) (wrap64 (x5_2 + 2))) else (none))))) else (none)) else (none)) = some (r1, r2) := H
 have A15 := Aside0.mk A150
 clear A150
 obtain ⟨ji16, hji16⟩ : ∃ j_ : Int, (wrap64 (x5_2 + 1)) = j_ := ⟨_, rfl⟩
 replace H : (if 0 ≤ (ji16) then (if (ji16) < (a0.size : Int) then ((key_digit.f (bt a0 (ji16))).bind fun t183 => (if t182 = 16 then (some ((⟨#[]⟩ : ByteArray), 2)) else (if t183 = 16 then (some ((⟨#[]⟩ : ByteArray), 2)) else (if x4_2.length < 140737488355328 then (key_Parse.l0 k2 a0 (x4_2 ++ [(wrap64 ((wrap64 (16 * t182)) + t183)) % 256]) (wrap64 (x5_2 + 2))) else (none))))) else (none)) else (none)) = some (r1, r2) := by first | (rw [hji16] at H; exact H) | (simp only [hji16] at H ⊢; exact H)
 (try rw [hji16] at A15)
 have hji16w : (IntKind.i64.wrap (x5_2 + 1)) = ji16 := (i64_w _).trans hji16
 by_cases c17 : 0 ≤ (ji16)
 rotate_left
 · rw [if_neg c17] at H
   exact absurd H (by simp)
 rw [if_pos c17] at H
 have c17b0 : decide (0 ≤ (ji16)) = true := decide_eq_true c17
 clear c17
 by_cases c18 : (ji16) < (a0.size : Int)
 rotate_left
 · rw [if_neg c18] at H
   exact absurd H (by simp)
 rw [if_pos c18] at H
 have c18b0 : decide ((ji16) < (a0.size : Int)) = true := decide_eq_true c18
 clear c18
 replace H := Option.bind_eq_some_iff.mp H
 obtain ⟨t183, A200, H⟩ := H
 replace H : (if t182 = 16 then (some ((⟨#[]⟩ : ByteArray), 2)) else (if t183 = 16 then (some ((⟨#[]⟩ : ByteArray), 2)) else (if x4_2.length < 140737488355328 then (key_Parse.l0 k2 a0 (x4_2 ++ [(wrap64 ((wrap64 (16 * t182)) + t183)) % 256]) (wrap64 (x5_2 + 2))) else (none)))) = some (r1, r2) := H
 have A20 := Aside0.mk A200
 clear A200
 by_cases c21 : t182 = 16
 · rw [if_pos c21] at H
   have c21b0 : (t182 == 16) = true := beq_iff_eq.mpr c21
   have c21b1 : (t182 != 16) = false := bne_eq_false_iff_eq.mpr c21
   clear c21
   simp only [Option.some.injEq, Prod.mk.injEq] at H
   obtain ⟨rfl, rfl⟩ := H
   have p14 : 0 ≤ (x5_2 : Int) := of_decide_eq_true sqH
   have q14 : x5_2 < (a0.size : Int) := of_decide_eq_true sqH
   have hx14 := bt_at a0 x5_2
   replace p14 := eq_true p14
   replace q14 := eq_true q14
   go_wp2_with (first | (go_at_call 72; (with_reducible refine (key_digit.calls _ _ _ ?side1 A15.out).mono ?_); (case side1 => first | exact HT.out | exact TabW.below HT.out (sqB HB.out) | exact TabW.drawn HT.out ⟨_, rfl⟩); rintro e w' ⟨rfl, ⟨nd, rfl⟩⟩; (try first | exact ⟨rfl, _, World.drewN_drewN _ _ _⟩ | exact ⟨rfl, _, Eq.trans (World.drewN_drewN _ _ _) (congrArg (World.drewN _) (Nat.add_assoc _ _ _))⟩); have p19 : 0 ≤ ((ji16) : Int) := of_decide_eq_true sqH; have q19 : (ji16) < (a0.size : Int) := of_decide_eq_true sqH; have hx19 := bt_at a0 (ji16); replace p19 := eq_true p19; replace q19 := eq_true q19) | (go_at_call 72; (with_reducible refine (key_digit.calls _ _ _ ?side1 A20.out).mono ?_); (case side1 => first | exact HT.out | exact TabW.below HT.out (sqB HB.out) | exact TabW.drawn HT.out ⟨_, rfl⟩); rintro e w' ⟨rfl, ⟨nd, rfl⟩⟩; (try first | exact ⟨rfl, _, World.drewN_drewN _ _ _⟩ | exact ⟨rfl, _, Eq.trans (World.drewN_drewN _ _ _) (congrArg (World.drewN _) (Nat.add_assoc _ _ _))⟩)))
   repeat (go_quiet (first | (go_at_call 72; (with_reducible refine (key_digit.calls _ _ _ ?side1 A15.out).mono ?_); (case side1 => first | exact HT.out | exact TabW.below HT.out (sqB HB.out) | exact TabW.drawn HT.out ⟨_, rfl⟩); rintro e w' ⟨rfl, ⟨nd, rfl⟩⟩; (try first | exact ⟨rfl, _, World.drewN_drewN _ _ _⟩ | exact ⟨rfl, _, Eq.trans (World.drewN_drewN _ _ _) (congrArg (World.drewN _) (Nat.add_assoc _ _ _))⟩); have p19 : 0 ≤ ((ji16) : Int) := of_decide_eq_true sqH; have q19 : (ji16) < (a0.size : Int) := of_decide_eq_true sqH; have hx19 := bt_at a0 (ji16); replace p19 := eq_true p19; replace q19 := eq_true q19) | (go_at_call 72; (with_reducible refine (key_digit.calls _ _ _ ?side1 A20.out).mono ?_); (case side1 => first | exact HT.out | exact TabW.below HT.out (sqB HB.out) | exact TabW.drawn HT.out ⟨_, rfl⟩); rintro e w' ⟨rfl, ⟨nd, rfl⟩⟩; (try first | exact ⟨rfl, _, World.drewN_drewN _ _ _⟩ | exact ⟨rfl, _, Eq.trans (World.drewN_drewN _ _ _) (congrArg (World.drewN _) (Nat.add_assoc _ _ _))⟩))); try go_wp2_with (first | (go_at_call 72; (with_reducible refine (key_digit.calls _ _ _ ?side1 A15.out).mono ?_); (case side1 => first | exact HT.out | exact TabW.below HT.out (sqB HB.out) | exact TabW.drawn HT.out ⟨_, rfl⟩); rintro e w' ⟨rfl, ⟨nd, rfl⟩⟩; (try first | exact ⟨rfl, _, World.drewN_drewN _ _ _⟩ | exact ⟨rfl, _, Eq.trans (World.drewN_drewN _ _ _) (congrArg (World.drewN _) (Nat.add_assoc _ _ _))⟩); have p19 : 0 ≤ ((ji16) : Int) := of_decide_eq_true sqH; have q19 : (ji16) < (a0.size : Int) := of_decide_eq_true sqH; have hx19 := bt_at a0 (ji16); replace p19 := eq_true p19; replace q19 := eq_true q19) | (go_at_call 72; (with_reducible refine (key_digit.calls _ _ _ ?side1 A20.out).mono ?_); (case side1 => first | exact HT.out | exact TabW.below HT.out (sqB HB.out) | exact TabW.drawn HT.out ⟨_, rfl⟩); rintro e w' ⟨rfl, ⟨nd, rfl⟩⟩; (try first | exact ⟨rfl, _, World.drewN_drewN _ _ _⟩ | exact ⟨rfl, _, Eq.trans (World.drewN_drewN _ _ _) (congrArg (World.drewN _) (Nat.add_assoc _ _ _))⟩))))
   go_ret2
   exact ⟨by first | rfl | (simp [errW_none, errW_some] <;> rfl) | (simp only [← hji16]; first | rfl | (simp [errW_none, errW_some] <;> rfl)) | (simp [*, errW_none, errW_some] <;> rfl), sqB HB.out⟩
 rw [if_neg c21] at H
 have c21b0 : (t182 == 16) = false := beq_eq_false_iff_ne.mpr c21
 have c21b1 : (t182 != 16) = true := bne_iff_ne.mpr c21
 by_cases c22 : t183 = 16
 · rw [if_pos c22] at H
   have c22b0 : (t183 == 16) = true := beq_iff_eq.mpr c22
   have c22b1 : (t183 != 16) = false := bne_eq_false_iff_eq.mpr c22
   clear c22
   simp only [Option.some.injEq, Prod.mk.injEq] at H
   obtain ⟨rfl, rfl⟩ := H
   have p14 : 0 ≤ (x5_2 : Int) := of_decide_eq_true sqH
   have q14 : x5_2 < (a0.size : Int) := of_decide_eq_true sqH
   have hx14 := bt_at a0 x5_2
   replace p14 := eq_true p14
   replace q14 := eq_true q14
   go_wp2_with (first | (go_at_call 72; (with_reducible refine (key_digit.calls _ _ _ ?side1 A15.out).mono ?_); (case side1 => first | exact HT.out | exact TabW.below HT.out (sqB HB.out) | exact TabW.drawn HT.out ⟨_, rfl⟩); rintro e w' ⟨rfl, ⟨nd, rfl⟩⟩; (try first | exact ⟨rfl, _, World.drewN_drewN _ _ _⟩ | exact ⟨rfl, _, Eq.trans (World.drewN_drewN _ _ _) (congrArg (World.drewN _) (Nat.add_assoc _ _ _))⟩); have p19 : 0 ≤ ((ji16) : Int) := of_decide_eq_true sqH; have q19 : (ji16) < (a0.size : Int) := of_decide_eq_true sqH; have hx19 := bt_at a0 (ji16); replace p19 := eq_true p19; replace q19 := eq_true q19) | (go_at_call 72; (with_reducible refine (key_digit.calls _ _ _ ?side1 A20.out).mono ?_); (case side1 => first | exact HT.out | exact TabW.below HT.out (sqB HB.out) | exact TabW.drawn HT.out ⟨_, rfl⟩); rintro e w' ⟨rfl, ⟨nd, rfl⟩⟩; (try first | exact ⟨rfl, _, World.drewN_drewN _ _ _⟩ | exact ⟨rfl, _, Eq.trans (World.drewN_drewN _ _ _) (congrArg (World.drewN _) (Nat.add_assoc _ _ _))⟩)))
   repeat (go_quiet (first | (go_at_call 72; (with_reducible refine (key_digit.calls _ _ _ ?side1 A15.out).mono ?_); (case side1 => first | exact HT.out | exact TabW.below HT.out (sqB HB.out) | exact TabW.drawn HT.out ⟨_, rfl⟩); rintro e w' ⟨rfl, ⟨nd, rfl⟩⟩; (try first | exact ⟨rfl, _, World.drewN_drewN _ _ _⟩ | exact ⟨rfl, _, Eq.trans (World.drewN_drewN _ _ _) (congrArg (World.drewN _) (Nat.add_assoc _ _ _))⟩); have p19 : 0 ≤ ((ji16) : Int) := of_decide_eq_true sqH; have q19 : (ji16) < (a0.size : Int) := of_decide_eq_true sqH; have hx19 := bt_at a0 (ji16); replace p19 := eq_true p19; replace q19 := eq_true q19) | (go_at_call 72; (with_reducible refine (key_digit.calls _ _ _ ?side1 A20.out).mono ?_); (case side1 => first | exact HT.out | exact TabW.below HT.out (sqB HB.out) | exact TabW.drawn HT.out ⟨_, rfl⟩); rintro e w' ⟨rfl, ⟨nd, rfl⟩⟩; (try first | exact ⟨rfl, _, World.drewN_drewN _ _ _⟩ | exact ⟨rfl, _, Eq.trans (World.drewN_drewN _ _ _) (congrArg (World.drewN _) (Nat.add_assoc _ _ _))⟩))); try go_wp2_with (first | (go_at_call 72; (with_reducible refine (key_digit.calls _ _ _ ?side1 A15.out).mono ?_); (case side1 => first | exact HT.out | exact TabW.below HT.out (sqB HB.out) | exact TabW.drawn HT.out ⟨_, rfl⟩); rintro e w' ⟨rfl, ⟨nd, rfl⟩⟩; (try first | exact ⟨rfl, _, World.drewN_drewN _ _ _⟩ | exact ⟨rfl, _, Eq.trans (World.drewN_drewN _ _ _) (congrArg (World.drewN _) (Nat.add_assoc _ _ _))⟩); have p19 : 0 ≤ ((ji16) : Int) := of_decide_eq_true sqH; have q19 : (ji16) < (a0.size : Int) := of_decide_eq_true sqH; have hx19 := bt_at a0 (ji16); replace p19 := eq_true p19; replace q19 := eq_true q19) | (go_at_call 72; (with_reducible refine (key_digit.calls _ _ _ ?side1 A20.out).mono ?_); (case side1 => first | exact HT.out | exact TabW.below HT.out (sqB HB.out) | exact TabW.drawn HT.out ⟨_, rfl⟩); rintro e w' ⟨rfl, ⟨nd, rfl⟩⟩; (try first | exact ⟨rfl, _, World.drewN_drewN _ _ _⟩ | exact ⟨rfl, _, Eq.trans (World.drewN_drewN _ _ _) (congrArg (World.drewN _) (Nat.add_assoc _ _ _))⟩))))
   go_ret2
   exact ⟨by first | rfl | (simp [errW_none, errW_some] <;> rfl) | (simp only [← hji16]; first | rfl | (simp [errW_none, errW_some] <;> rfl)) | (simp [*, errW_none, errW_some] <;> rfl), sqB HB.out⟩
 rw [if_neg c22] at H
 have c22b0 : (t183 == 16) = false := beq_eq_false_iff_ne.mpr c22
 have c22b1 : (t183 != 16) = true := bne_iff_ne.mpr c22
 by_cases c23 : x4_2.length < 140737488355328
 rotate_left
 · rw [if_neg c23] at H
   exact absurd H (by simp)
 rw [if_pos c23] at H
 have LMc23 := Aside0.mk c23
 clear c23
 obtain ⟨y184, hy184⟩ : ∃ y_ : List Int, y_ = (x4_2 ++ [(wrap64 ((wrap64 (16 * t182)) + t183)) % 256]) := ⟨_, rfl⟩
 replace H : (key_Parse.l0 k2 a0 y184 (wrap64 (x5_2 + 2))) = some (r1, r2) := by first | (rw [hy184]; with_reducible exact H) | (have H2_ := (Option.bind_some _ _).symm.trans H; rw [hy184]; with_reducible exact H2_) | (have H2_ := (Option.bind_some _ _).symm.trans H; with_reducible exact H2_) | with_reducible exact H | (rw [hy184]; exact H) | exact H
 have Ny184 := Aside0.mk hy184
 clear hy184
 have H' := Aside0.mk H
 clear H
 have p14 : 0 ≤ (x5_2 : Int) := of_decide_eq_true sqH
 have q14 : x5_2 < (a0.size : Int) := of_decide_eq_true sqH
 have hx14 := bt_at a0 x5_2
 replace p14 := eq_true p14
 replace q14 := eq_true q14
 go_wp2_with (first | (go_at_call 72; (with_reducible refine (key_digit.calls _ _ _ ?side1 A15.out).mono ?_); (case side1 => first | exact HT.out | exact TabW.below HT.out (sqB HB.out) | exact TabW.drawn HT.out ⟨_, rfl⟩); rintro e w' ⟨rfl, ⟨nd, rfl⟩⟩; (try first | exact ⟨rfl, _, World.drewN_drewN _ _ _⟩ | exact ⟨rfl, _, Eq.trans (World.drewN_drewN _ _ _) (congrArg (World.drewN _) (Nat.add_assoc _ _ _))⟩); have p19 : 0 ≤ ((ji16) : Int) := of_decide_eq_true sqH; have q19 : (ji16) < (a0.size : Int) := of_decide_eq_true sqH; have hx19 := bt_at a0 (ji16); replace p19 := eq_true p19; replace q19 := eq_true q19) | (go_at_call 72; (with_reducible refine (key_digit.calls _ _ _ ?side1 A20.out).mono ?_); (case side1 => first | exact HT.out | exact TabW.below HT.out (sqB HB.out) | exact TabW.drawn HT.out ⟨_, rfl⟩); rintro e w' ⟨rfl, ⟨nd, rfl⟩⟩; (try first | exact ⟨rfl, _, World.drewN_drewN _ _ _⟩ | exact ⟨rfl, _, Eq.trans (World.drewN_drewN _ _ _) (congrArg (World.drewN _) (Nat.add_assoc _ _ _))⟩)) | ((with_reducible refine gate_builtin (b := .append) (xs := #[.tmp 46, .tmp 52]) rfl ?_); (try (refine gate_guard (by rfl) ?_; dsimp only)); at_builtin; refine Kd.R_append (Kd.int .u8) (w0 := w) w.heap.size rfl (.tmp 46) (.tmp 52) 59 5 (.int .u8 0) 1 rfl Tryd.underlying59 info5 rfl (by decide) (by omega) u4 x4_2 ((wrap64 ((wrap64 (16 * t182)) + t183)) % 256) [.int .u8 ((wrap64 ((wrap64 (16 * t182)) + t183)) % 256)] (fun _ => True) (fun _ => False) rfl rfl ?aP (fun _ hk => hk.elim) ?aF ?aO ?aB ?aS ?aL ?_; (case aP => exact rfl); (case aB => exact (sqB HB.out)); (case aF => exact (fun _ _ => trivial)); (case aO => exact (sqR HO_4.out)); (case aS => exact (below_size (sqB HB.out))); (case aL => have := LMc23.out; omega); intro v185 w24 ho hb hg hat; rw [← Ny184.out] at ho; have HO186 := sqM (ho); replace HB := sqM (hb); clear HO_4; clear ho hb hg hat))
 repeat (go_quiet (first | (go_at_call 72; (with_reducible refine (key_digit.calls _ _ _ ?side1 A15.out).mono ?_); (case side1 => first | exact HT.out | exact TabW.below HT.out (sqB HB.out) | exact TabW.drawn HT.out ⟨_, rfl⟩); rintro e w' ⟨rfl, ⟨nd, rfl⟩⟩; (try first | exact ⟨rfl, _, World.drewN_drewN _ _ _⟩ | exact ⟨rfl, _, Eq.trans (World.drewN_drewN _ _ _) (congrArg (World.drewN _) (Nat.add_assoc _ _ _))⟩); have p19 : 0 ≤ ((ji16) : Int) := of_decide_eq_true sqH; have q19 : (ji16) < (a0.size : Int) := of_decide_eq_true sqH; have hx19 := bt_at a0 (ji16); replace p19 := eq_true p19; replace q19 := eq_true q19) | (go_at_call 72; (with_reducible refine (key_digit.calls _ _ _ ?side1 A20.out).mono ?_); (case side1 => first | exact HT.out | exact TabW.below HT.out (sqB HB.out) | exact TabW.drawn HT.out ⟨_, rfl⟩); rintro e w' ⟨rfl, ⟨nd, rfl⟩⟩; (try first | exact ⟨rfl, _, World.drewN_drewN _ _ _⟩ | exact ⟨rfl, _, Eq.trans (World.drewN_drewN _ _ _) (congrArg (World.drewN _) (Nat.add_assoc _ _ _))⟩)) | ((with_reducible refine gate_builtin (b := .append) (xs := #[.tmp 46, .tmp 52]) rfl ?_); (try (refine gate_guard (by rfl) ?_; dsimp only)); at_builtin; refine Kd.R_append (Kd.int .u8) (w0 := w) w.heap.size rfl (.tmp 46) (.tmp 52) 59 5 (.int .u8 0) 1 rfl Tryd.underlying59 info5 rfl (by decide) (by omega) u4 x4_2 ((wrap64 ((wrap64 (16 * t182)) + t183)) % 256) [.int .u8 ((wrap64 ((wrap64 (16 * t182)) + t183)) % 256)] (fun _ => True) (fun _ => False) rfl rfl ?aP (fun _ hk => hk.elim) ?aF ?aO ?aB ?aS ?aL ?_; (case aP => exact rfl); (case aB => exact (sqB HB.out)); (case aF => exact (fun _ _ => trivial)); (case aO => exact (sqR HO_4.out)); (case aS => exact (below_size (sqB HB.out))); (case aL => have := LMc23.out; omega); intro v185 w24 ho hb hg hat; rw [← Ny184.out] at ho; have HO186 := sqM (ho); replace HB := sqM (hb); clear HO_4; clear ho hb hg hat)); try go_wp2_with (first | (go_at_call 72; (with_reducible refine (key_digit.calls _ _ _ ?side1 A15.out).mono ?_); (case side1 => first | exact HT.out | exact TabW.below HT.out (sqB HB.out) | exact TabW.drawn HT.out ⟨_, rfl⟩); rintro e w' ⟨rfl, ⟨nd, rfl⟩⟩; (try first | exact ⟨rfl, _, World.drewN_drewN _ _ _⟩ | exact ⟨rfl, _, Eq.trans (World.drewN_drewN _ _ _) (congrArg (World.drewN _) (Nat.add_assoc _ _ _))⟩); have p19 : 0 ≤ ((ji16) : Int) := of_decide_eq_true sqH; have q19 : (ji16) < (a0.size : Int) := of_decide_eq_true sqH; have hx19 := bt_at a0 (ji16); replace p19 := eq_true p19; replace q19 := eq_true q19) | (go_at_call 72; (with_reducible refine (key_digit.calls _ _ _ ?side1 A20.out).mono ?_); (case side1 => first | exact HT.out | exact TabW.below HT.out (sqB HB.out) | exact TabW.drawn HT.out ⟨_, rfl⟩); rintro e w' ⟨rfl, ⟨nd, rfl⟩⟩; (try first | exact ⟨rfl, _, World.drewN_drewN _ _ _⟩ | exact ⟨rfl, _, Eq.trans (World.drewN_drewN _ _ _) (congrArg (World.drewN _) (Nat.add_assoc _ _ _))⟩)) | ((with_reducible refine gate_builtin (b := .append) (xs := #[.tmp 46, .tmp 52]) rfl ?_); (try (refine gate_guard (by rfl) ?_; dsimp only)); at_builtin; refine Kd.R_append (Kd.int .u8) (w0 := w) w.heap.size rfl (.tmp 46) (.tmp 52) 59 5 (.int .u8 0) 1 rfl Tryd.underlying59 info5 rfl (by decide) (by omega) u4 x4_2 ((wrap64 ((wrap64 (16 * t182)) + t183)) % 256) [.int .u8 ((wrap64 ((wrap64 (16 * t182)) + t183)) % 256)] (fun _ => True) (fun _ => False) rfl rfl ?aP (fun _ hk => hk.elim) ?aF ?aO ?aB ?aS ?aL ?_; (case aP => exact rfl); (case aB => exact (sqB HB.out)); (case aF => exact (fun _ _ => trivial)); (case aO => exact (sqR HO_4.out)); (case aS => exact (below_size (sqB HB.out))); (case aL => have := LMc23.out; omega); intro v185 w24 ho hb hg hat; rw [← Ny184.out] at ho; have HO186 := sqM (ho); replace HB := sqM (hb); clear HO_4; clear ho hb hg hat)))
 go_roundg k2
 case measure => have := HJ1.out; have := HK2.out; omega
 case rel => exact ⟨(y184), (wrap64 (x5_2 + 2)), sqI, H', ⟨by have := HJ1.out; have := HK2.out; omega⟩, ⟨sqR HO186.out⟩, ⟨sqB HB.out⟩⟩

/-! ### ltext_number: function 46 -/
def ltext_number.l0 : Nat → List Int → Int → List Int → Int → Int → Option (Int)
  | 0, _, _, _, _, _ => none
  | k + 1, x0, x3, x6, x7, x8 => if x8 < x7 then (if 0 ≤ x8 then (if x8 < (x6.length : Int) then (if (rd x6 x8) < 48 then (some (-1)) else (if (rd x6 x8) > 57 then (some (-1)) else (if x8 > 0 then (if x3 = 0 then (some (-1)) else (if x3 > 1125899906842624 then (some (-1)) else (ltext_number.l0 k x0 (wrap64 ((wrap64 (x3 * 10)) + (((rd x6 x8) - 48) % 256))) x6 x7 (wrap64 (x8 + 1))))) else (if x3 > 1125899906842624 then (some (-1)) else (ltext_number.l0 k x0 (wrap64 ((wrap64 (x3 * 10)) + (((rd x6 x8) - 48) % 256))) x6 x7 (wrap64 (x8 + 1))))))) else (none)) else (none)) else (if (x0.length : Int) = 0 then (some (-1)) else (some x3))
def ltext_number.f (k : Nat) (l0 : List Int) : Option (Int) := ltext_number.l0 k l0 0 l0 (l0.length : Int) 0
theorem ltext_number.mono_l : ∀ k, (∀ y0 y1 y2 y3 y4, LeO (ltext_number.l0 k y0 y1 y2 y3 y4) (ltext_number.l0 (k + 1) y0 y1 y2 y3 y4))
  | 0 => fun _ _ _ _ _ r h => by simp [ltext_number.l0] at h
  | k + 1 => by
    have ih0 := ltext_number.mono_l k
    · intro y0 y1 y2 y3 y4
      unfold ltext_number.l0
      repeat' first
      | (with_reducible exact ih0 _ _ _ _ _)
      | (with_reducible exact LeO.refl _)
      | (with_reducible exact LeO.none _)
      | (with_reducible refine LeO.ite ?_ ?_)
      | (with_reducible refine LeO.bind ?_ (fun _ => ?_))
theorem ltext_number.mono : ∀ a0 k, LeO (ltext_number.f k a0) (ltext_number.f (k + 1) a0) := by
 intro a0 k
 have ih0 := ltext_number.mono_l k
 unfold ltext_number.f
 repeat' first
  | (with_reducible exact ih0 _ _ _ _ _)
  | (with_reducible exact LeO.refl _)
  | (with_reducible exact LeO.none _)
  | (with_reducible refine LeO.ite ?_ ?_)
  | (with_reducible refine LeO.bind ?_ (fun _ => ?_))
set_option maxHeartbeats 8000000 in
set_option maxRecDepth 100000 in
theorem ltext_number.calls (k : Nat) (A0 : Option Addr) (c0 : Nat) (l0 : List Int) (r : Int) (w : World) (hr0 : Kd.C (Kd.int .u8) w A0 l0.length l0) (hc0 : l0.length ≤ c0) (h : ltext_number.f k l0 = some r) :
    Calls Tryd.prog 46 #[.slice A0 l0.length c0] w fun e w' => e = .returned (.int .i64 r) ∧ Drawn0 w w' := by
 have HR0 := Aside0.mk hr0
 have HC0 := Aside0.mk hc0
 clear hr0 hc0
 have H : (ltext_number.l0 k l0 0 l0 (l0.length : Int) 0) = some r := h
 clear h
 have H' := Aside0.mk H
 clear H
 go_enter Tryd.func46, Tryd.ntmps46
 go_wp2
 go_loopg [3, 8] k (fun kq v3 v8 w' => ∃ (x3_1 : Int) (x8_1 : Int), v3 = .int .i64 x3_1 ∧ v8 = .int .i64 x8_1 ∧ Aside0 (ltext_number.l0 kq l0 x3_1 l0 (l0.length : Int) x8_1 = some r) ∧ Aside0 (kq ≤ k) ∧ Drawn0 w w')
 case atStart => exact ⟨(0), (0), sqI, sqI, H', ⟨Nat.le_refl _⟩, sqD⟩
 clear H'
 obtain ⟨x3_1, x8_1, rfl, rfl, HA, HK1, ⟨m1, rfl⟩⟩ := hrel
 cases gk with
 | zero => exact absurd HA.out (by simp [ltext_number.l0])
 | succ k1 => ?_
 have H := HA.out
 clear HA
 simp only [ltext_number.l0] at H
 by_cases c2 : x8_1 < (l0.length : Int)
 rotate_left
 · rw [if_neg c2] at H
   have c2b0 : decide (x8_1 < (l0.length : Int)) = false := decide_eq_false c2
   clear c2
   by_cases c11 : (l0.length : Int) = 0
   · rw [if_pos c11] at H
     have c11b0 : ((l0.length : Int) == 0) = true := beq_iff_eq.mpr c11
     have c11b1 : ((l0.length : Int) != 0) = false := bne_eq_false_iff_eq.mpr c11
     clear c11
     obtain rfl := Option.some.inj H
     go_wp2
     go_ret
     exact ⟨sqI, sqD⟩
   rw [if_neg c11] at H
   have c11b0 : ((l0.length : Int) == 0) = false := beq_eq_false_iff_ne.mpr c11
   have c11b1 : ((l0.length : Int) != 0) = true := bne_iff_ne.mpr c11
   have c11b2 : ¬ (l0 = []) := fun h_ => c11 (by rw [h_]; rfl)
   obtain rfl := Option.some.inj H
   go_wp2
   go_ret
   exact ⟨sqI, sqD⟩
 rw [if_pos c2] at H
 have c2b0 : decide (x8_1 < (l0.length : Int)) = true := decide_eq_true c2
 clear c2
 by_cases c3 : 0 ≤ x8_1
 rotate_left
 · rw [if_neg c3] at H
   exact absurd H (by simp)
 rw [if_pos c3] at H
 have c3b0 : decide (0 ≤ x8_1) = true := decide_eq_true c3
 clear c3
 by_cases c4 : x8_1 < (l0.length : Int)
 rotate_left
 · rw [if_neg c4] at H
   exact absurd H (by simp)
 rw [if_pos c4] at H
 have c4b0 : decide (x8_1 < (l0.length : Int)) = true := decide_eq_true c4
 clear c4
 by_cases c5 : (rd l0 x8_1) < 48
 · rw [if_pos c5] at H
   have c5b0 : decide ((rd l0 x8_1) < 48) = true := decide_eq_true c5
   clear c5
   obtain rfl := Option.some.inj H
   have p187 : 0 ≤ (x8_1 : Int) := of_decide_eq_true sqH
   have q187 : x8_1 < (l0.length : Int) := of_decide_eq_true sqH
   obtain ⟨ad187, e187, hx187_0⟩ := Kd.at_int HR0.out x8_1 p187 q187
   cases e187
   replace p187 := eq_true p187
   replace q187 := eq_true q187
   go_wp2
   go_ret
   exact ⟨sqI, sqD⟩
 rw [if_neg c5] at H
 have c5b0 : decide ((rd l0 x8_1) < 48) = false := decide_eq_false c5
 clear c5
 by_cases c6 : (rd l0 x8_1) > 57
 · rw [if_pos c6] at H
   have c6b0 : decide (57 < (rd l0 x8_1)) = true := decide_eq_true c6
   clear c6
   obtain rfl := Option.some.inj H
   have p187 : 0 ≤ (x8_1 : Int) := of_decide_eq_true sqH
   have q187 : x8_1 < (l0.length : Int) := of_decide_eq_true sqH
   obtain ⟨ad187, e187, hx187_0⟩ := Kd.at_int HR0.out x8_1 p187 q187
   cases e187
   replace p187 := eq_true p187
   replace q187 := eq_true q187
   go_wp2
   go_ret
   exact ⟨sqI, sqD⟩
 rw [if_neg c6] at H
 have c6b0 : decide (57 < (rd l0 x8_1)) = false := decide_eq_false c6
 clear c6
 by_cases c7 : x8_1 > 0
 rotate_left
 · rw [if_neg c7] at H
   have c7b0 : decide (0 < x8_1) = false := decide_eq_false c7
   clear c7
   by_cases c10 : x3_1 > 1125899906842624
   · rw [if_pos c10] at H
     have c10b0 : decide (1125899906842624 < x3_1) = true := decide_eq_true c10
     clear c10
     obtain rfl := Option.some.inj H
     have p187 : 0 ≤ (x8_1 : Int) := of_decide_eq_true sqH
     have q187 : x8_1 < (l0.length : Int) := of_decide_eq_true sqH
     obtain ⟨ad187, e187, hx187_0⟩ := Kd.at_int HR0.out x8_1 p187 q187
     cases e187
     replace p187 := eq_true p187
     replace q187 := eq_true q187
     go_wp2
     go_ret
     exact ⟨sqI, sqD⟩
   rw [if_neg c10] at H
   have c10b0 : decide (1125899906842624 < x3_1) = false := decide_eq_false c10
   clear c10
   have H' := Aside0.mk H
   clear H
   have p187 : 0 ≤ (x8_1 : Int) := of_decide_eq_true sqH
   have q187 : x8_1 < (l0.length : Int) := of_decide_eq_true sqH
   obtain ⟨ad187, e187, hx187_0⟩ := Kd.at_int HR0.out x8_1 p187 q187
   cases e187
   replace p187 := eq_true p187
   replace q187 := eq_true q187
   go_wp2
   go_roundg k1
   case measure => have := HK1.out; omega
   case rel => exact ⟨(wrap64 ((wrap64 (x3_1 * 10)) + (((rd l0 x8_1) - 48) % 256))), (wrap64 (x8_1 + 1)), sqI, sqI, H', ⟨by have := HK1.out; omega⟩, sqD⟩
 rw [if_pos c7] at H
 have c7b0 : decide (0 < x8_1) = true := decide_eq_true c7
 clear c7
 by_cases c8 : x3_1 = 0
 · rw [if_pos c8] at H
   have c8b0 : (x3_1 == 0) = true := beq_iff_eq.mpr c8
   have c8b1 : (x3_1 != 0) = false := bne_eq_false_iff_eq.mpr c8
   clear c8
   obtain rfl := Option.some.inj H
   have p187 : 0 ≤ (x8_1 : Int) := of_decide_eq_true sqH
   have q187 : x8_1 < (l0.length : Int) := of_decide_eq_true sqH
   obtain ⟨ad187, e187, hx187_0⟩ := Kd.at_int HR0.out x8_1 p187 q187
   cases e187
   replace p187 := eq_true p187
   replace q187 := eq_true q187
   go_wp2
   go_ret
   exact ⟨sqI, sqD⟩
 rw [if_neg c8] at H
 have c8b0 : (x3_1 == 0) = false := beq_eq_false_iff_ne.mpr c8
 have c8b1 : (x3_1 != 0) = true := bne_iff_ne.mpr c8
 by_cases c9 : x3_1 > 1125899906842624
 · rw [if_pos c9] at H
   have c9b0 : decide (1125899906842624 < x3_1) = true := decide_eq_true c9
   clear c9
   obtain rfl := Option.some.inj H
   have p187 : 0 ≤ (x8_1 : Int) := of_decide_eq_true sqH
   have q187 : x8_1 < (l0.length : Int) := of_decide_eq_true sqH
   obtain ⟨ad187, e187, hx187_0⟩ := Kd.at_int HR0.out x8_1 p187 q187
   cases e187
   replace p187 := eq_true p187
   replace q187 := eq_true q187
   go_wp2
   go_ret
   exact ⟨sqI, sqD⟩
 rw [if_neg c9] at H
 have c9b0 : decide (1125899906842624 < x3_1) = false := decide_eq_false c9
 clear c9
 have H' := Aside0.mk H
 clear H
 have p187 : 0 ≤ (x8_1 : Int) := of_decide_eq_true sqH
 have q187 : x8_1 < (l0.length : Int) := of_decide_eq_true sqH
 obtain ⟨ad187, e187, hx187_0⟩ := Kd.at_int HR0.out x8_1 p187 q187
 cases e187
 replace p187 := eq_true p187
 replace q187 := eq_true q187
 go_wp2
 go_roundg k1
 case measure => have := HK1.out; omega
 case rel => exact ⟨(wrap64 ((wrap64 (x3_1 * 10)) + (((rd l0 x8_1) - 48) % 256))), (wrap64 (x8_1 + 1)), sqI, sqI, H', ⟨by have := HK1.out; omega⟩, sqD⟩

/-! ### ltext_Lease: function 16 -/
def ltext_Lease.l0 : Nat → List (List Int) → Int → Int → Int → Int → Int → Int → ByteArray → Option (Int × Int × Int × ByteArray × Int)
  | 0, _, _, _, _, _, _, _, _ => none
  | k + 1, x4, x6, x8, x43, x204000, x204001, x204002, x204003 => if x43 < 3 then (if 0 ≤ x43 then (if 1 < (x4.length : Int) then (if (strOfNums (rd_L1 x4 1)).toList = (rdOf ByteArray.empty tab0 x43).toList then (ltext_Lease.l0 k x4 x6 x8 (wrap64 (x43 + 1)) x204000 (wrap64 (1 + x43)) x204002 x204003) else (ltext_Lease.l0 k x4 x6 x8 (wrap64 (x43 + 1)) x204000 x204001 x204002 x204003)) else (none)) else (none)) else (if x6 = 0 then (if x8 = 0 then ((record_Right.f x204000 x204001 x204002 x204003).bind fun t205 => (if t205 = true then (some (x204000, x204001, x204002, x204003, 0)) else (some (0, 0, 0, (⟨#[]⟩ : ByteArray), 2)))) else (some (0, 0, 0, (⟨#[]⟩ : ByteArray), 2))) else (some (0, 0, 0, (⟨#[]⟩ : ByteArray), 2)))
def ltext_Lease.f (k : Nat) (a0 : ByteArray) : Option (Int × Int × Int × ByteArray × Int) := if (a0.size : Int) ≤ 281474976710656 then ((ltext_split.f k (bytesOf a0) 32).bind fun t192 => (if (t192.length : Int) = 4 then (if 0 < (t192.length : Int) then ((addr_Parse.f (strOfNums (rd_L1 t192 0))).bind fun bt196 => (if 3 < (t192.length : Int) then ((key_Parse.f k (strOfNums (rd_L1 t192 3))).bind fun bt199 => (if 2 < (t192.length : Int) then ((ltext_number.f k (rd_L1 t192 2)).bind fun t202 => (ltext_Lease.l0 k t192 bt196.2 bt199.2 0 bt196.1 0 t202 bt199.1)) else (none))) else (none))) else (none)) else (some (0, 0, 0, (⟨#[]⟩ : ByteArray), 2)))) else (none)
theorem ltext_Lease.mono_l : ∀ k, (∀ y0 y1 y2 y3 y4 y5 y6 y7, LeO (ltext_Lease.l0 k y0 y1 y2 y3 y4 y5 y6 y7) (ltext_Lease.l0 (k + 1) y0 y1 y2 y3 y4 y5 y6 y7))
  | 0 => fun _ _ _ _ _ _ _ _ r h => by simp [ltext_Lease.l0] at h
  | k + 1 => by
    have ih0 := ltext_Lease.mono_l k
    · intro y0 y1 y2 y3 y4 y5 y6 y7
      unfold ltext_Lease.l0
      repeat' first
      | (with_reducible exact ih0 _ _ _ _ _ _ _ _)
      | (with_reducible exact key_Parse.mono _ _)
      | (with_reducible exact ltext_number.mono _ _)
      | (with_reducible exact ltext_split.mono _ _ _)
      | (with_reducible exact LeO.refl _)
      | (with_reducible exact LeO.none _)
      | (with_reducible refine LeO.ite ?_ ?_)
      | (with_reducible refine LeO.bind ?_ (fun _ => ?_))
theorem ltext_Lease.mono : ∀ a0 k, LeO (ltext_Lease.f k a0) (ltext_Lease.f (k + 1) a0) := by
 intro a0 k
 have ih0 := ltext_Lease.mono_l k
 unfold ltext_Lease.f
 repeat' first
  | (with_reducible exact ih0 _ _ _ _ _ _ _ _)
  | (with_reducible exact key_Parse.mono _ _)
  | (with_reducible exact ltext_number.mono _ _)
  | (with_reducible exact ltext_split.mono _ _ _)
  | (with_reducible exact LeO.refl _)
  | (with_reducible exact LeO.none _)
  | (with_reducible refine LeO.ite ?_ ?_)
  | (with_reducible refine LeO.bind ?_ (fun _ => ?_))
set_option maxHeartbeats 8000000 in
set_option maxRecDepth 100000 in
theorem ltext_Lease.calls (k : Nat) (a0 : ByteArray) (r1 : Int) (r2 : Int) (r3 : Int) (r4 : ByteArray) (r5 : Int) (w : World) (hT : TabW w) (h : ltext_Lease.f k a0 = some (r1, r2, r3, r4, r5)) :
    Calls Tryd.prog 16 #[.string a0] w fun e w' => e = .returned (.tuple #[.agg #[.int .i64 r1, .int .i64 r2, .int .i64 r3, .string r4], .int .i64 r5]) ∧ Below w.heap.size w w' := by
 have hu23 := Tryd.underlying23
 have HT := Aside0.mk hT
 clear hT
 have HRT1 := Aside0.mk HT.out.t1
 have HRT0 := Aside0.mk HT.out.t0
 have HB := Aside0.mk (Below.refl w.heap.size w)
 have H : (if (a0.size : Int) ≤ 281474976710656 then ((ltext_split.f k (bytesOf a0) 32).bind fun t192 => (if (t192.length : Int) = 4 then (if 0 < (t192.length : Int) then ((addr_Parse.f (strOfNums (rd_L1 t192 0))).bind fun bt196 => (if 3 < (t192.length : Int) then ((key_Parse.f k (strOfNums (rd_L1 t192 3))).bind fun bt199 => (if 2 < (t192.length : Int) then ((ltext_number.f k (rd_L1 t192 2)).bind fun t202 => (ltext_Lease.l0 k t192 bt196.2 bt199.2 0 bt196.1 0 t202 bt199.1)) else (none))) else (none))) else (none)) else (some (0, 0, 0, (⟨#[]⟩ : ByteArray), 2)))) else (none)) = some (r1, r2, r3, r4, r5) := h
 clear h
 by_cases c2 : (a0.size : Int) ≤ 281474976710656
 rotate_left
 · rw [if_neg c2] at H
   exact absurd H (by simp)
 rw [if_pos c2] at H
 have c2b0 := eq_true c2
 have c2b1 : decide ((a0.size : Int) ≤ 281474976710656) = true := decide_eq_true c2
 clear c2
 obtain ⟨y189, hy189⟩ : ∃ y_ : List Int, y_ = (bytesOf a0) := ⟨_, rfl⟩
 replace H : ((ltext_split.f k y189 32).bind fun t192 => (if (t192.length : Int) = 4 then (if 0 < (t192.length : Int) then ((addr_Parse.f (strOfNums (rd_L1 t192 0))).bind fun bt196 => (if 3 < (t192.length : Int) then ((key_Parse.f k (strOfNums (rd_L1 t192 3))).bind fun bt199 => (if 2 < (t192.length : Int) then ((ltext_number.f k (rd_L1 t192 2)).bind fun t202 => (ltext_Lease.l0 k t192 bt196.2 bt199.2 0 bt196.1 0 t202 bt199.1)) else (none))) else (none))) else (none)) else (some (0, 0, 0, (⟨#[]⟩ : ByteArray), 2)))) = some (r1, r2, r3, r4, r5) := by first | (rw [hy189]; with_reducible exact H) | (have H2_ := (Option.bind_some _ _).symm.trans H; rw [hy189]; with_reducible exact H2_) | (have H2_ := (Option.bind_some _ _).symm.trans H; with_reducible exact H2_) | with_reducible exact H | (rw [hy189]; exact H) | exact H
 have Ny189 := Aside0.mk hy189
 clear hy189
 replace H := Option.bind_eq_some_iff.mp H
 obtain ⟨t192, A30, H⟩ := H
 replace H : (if (t192.length : Int) = 4 then (if 0 < (t192.length : Int) then ((addr_Parse.f (strOfNums (rd_L1 t192 0))).bind fun bt196 => (if 3 < (t192.length : Int) then ((key_Parse.f k (strOfNums (rd_L1 t192 3))).bind fun bt199 => (if 2 < (t192.length : Int) then ((ltext_number.f k (rd_L1 t192 2)).bind fun t202 => (ltext_Lease.l0 k t192 bt196.2 bt199.2 0 bt196.1 0 t202 bt199.1)) else (none))) else (none))) else (none)) else (some (0, 0, 0, (⟨#[]⟩ : ByteArray), 2))) = some (r1, r2, r3, r4, r5) := H
 have A3 := Aside0.mk A30
 clear A30
 by_cases c4 : (t192.length : Int) = 4
 rotate_left
 · rw [if_neg c4] at H
   have c4b0 : ((t192.length : Int) == 4) = false := beq_eq_false_iff_ne.mpr c4
   have c4b1 : ((t192.length : Int) != 4) = true := bne_iff_ne.mpr c4
   simp only [Option.some.injEq, Prod.mk.injEq] at H
   obtain ⟨rfl, rfl, rfl, rfl, rfl⟩ := H
   go_enter Tryd.func16, Tryd.ntmps16
   go_wp2_with (first | ((with_reducible refine gate_dst (N := 2) rfl ?_); refine box_event rfl (N := 2) rfl (cs := #[.int .i64 0, .int .i64 0, .int .i64 0, .string (⟨#[]⟩ : ByteArray)]) (t := 23) sqs ?_; intro gb188 hg w57 hbox hb; have BK188 := sqM (hbox); have GW188 := sqM (sqZ hg (sqB HB.out)); have GE188 := sqM (sqZ hg (sqB HB.out)); replace HB := sqM (below_step (sqB HB.out) hb); clear hb hbox hg) | ((with_reducible refine gate_dst (N := 13) rfl ?_); refine Kd.V_bytes _ 5 rfl (N := 13) rfl 9 59 _ rfl Tryd.underlying9 Tryd.underlying59 Tryd.underlying5 a0 rfl (by have h_ : (a0.size : Int) ≤ (281474976710656 : Int) := of_decide_eq_true sqH; omega) (ok := (fun k_ => k_ ≠ gb188)) (okp := (fun k_ => k_ ≠ gb188)) (fun _ hk => hk) ((show ∀ k_, w57.heap.size ≤ k_ → (fun k_ => k_ ≠ gb188) k_ from fun k_ hk => Kd.freshB (g := gb188) (o := .cells #[.int .i64 0, .int .i64 0, .int .i64 0, .string (⟨#[]⟩ : ByteArray)] 23 (0, 0)) (sqK BK188.out) k_ hk) _ (Nat.le_refl _)) (Below.refl _ _) (Nat.le_refl _) ?_; intro v190 w58 ho59 hb hg_ hnew_; clear hg_ hnew_; (first | rw [← Ny189.out] at ho59 | (simp only [Int.reduceToNat] at ho59; rw [← Ny189.out] at ho59)); have HO191 := sqM (Kd.V_lower ho59 (below_size (sqB1 HB.out GE188.out))); replace BK188 := sqM (blk_below (sqK BK188.out) hb); replace HB := sqM (below_step (sqB1 HB.out GE188.out) hb); clear hb ho59; obtain ⟨Ao60, co60, eo60⟩ := Kd.V_slice HO191.out; subst eo60) | ((with_reducible refine gate_callee (f := 43) rfl ?_); refine goesL_ (some 14) rfl rfl Tryd.func43 (by kernel_rfl) rfl #[.slice Ao60 y189.length co60, .int .u8 32] rfl sqA ?_; (with_reducible refine (ltext_split.calls _ (fun k_ => k_ ≠ gb188) _ _ _ _ _ _ ?side1 A3.out).mono ?_); (case side1 => exact HO191.out); rintro e w61 ⟨v193, rfl, ho0, hb⟩; refine ⟨_, rfl, ?_⟩; have HO194 := sqM (Kd.N_lower (Kd.N_mono (ok' := fun k_ => k_ ≠ gb188) ho0 (fun k_ hk_ => Or.elim hk_ (fun hs_ => hs_) (fun hn_ => (Kd.freshB (g := gb188) (o := .cells #[.int .i64 0, .int .i64 0, .int .i64 0, .string (⟨#[]⟩ : ByteArray)] 23 (0, 0)) (sqK BK188.out) k_ hn_)))) (below_size (sqB1 HB.out GE188.out))); replace HO191 := sqM (Kd.V_elder' (sqV HO191.out) (Kd.N_base ho0) hb); replace BK188 := sqM (blk_below (sqK BK188.out) hb); replace HB := sqM (below_step (sqB1 HB.out GE188.out) hb); (try clear hb); (try clear hb2); (try clear hk); (try clear hi); (try clear ho0); obtain ⟨Ao62, co62, eo62⟩ := Kd.N_slice HO194.out; subst eo62; obtain ⟨hcz63_0, hcz63_1, hcz63_2, hcz63_3, hfz63_0, hfz63_1, hfz63_2, hfz63_3⟩ := sqF4 BK188.out))
   refine bodyPost_ret (results_ct rfl _ _ gb188 23 #[.int .i64 0, .int .i64 0, .int .i64 0, .string (⟨#[]⟩ : ByteArray)] (0, 0) _ rfl (by exact (sqK (sqP4 BK188.out))) Tryd.underlying23 rfl (by kernel_rfl)) rfl ?_
   exact ⟨sqE, sqB1 HB.out GE188.out⟩
 rw [if_pos c4] at H
 have c4b0 : ((t192.length : Int) == 4) = true := beq_iff_eq.mpr c4
 have c4b1 : ((t192.length : Int) != 4) = false := bne_eq_false_iff_eq.mpr c4
 clear c4
 by_cases c5 : 0 < (t192.length : Int)
 rotate_left
 · rw [if_neg c5] at H
   exact absurd H (by simp)
 rw [if_pos c5] at H
 have c5b0 : decide (0 < (t192.length : Int)) = true := decide_eq_true c5
 have c5b1 : decide (0 < t192.length) = true := decide_eq_true (by omega)
 clear c5
 replace H := Option.bind_eq_some_iff.mp H
 obtain ⟨⟨t196, t197⟩, A60, H⟩ := H
 replace H : (if 3 < (t192.length : Int) then ((key_Parse.f k (strOfNums (rd_L1 t192 3))).bind fun bt199 => (if 2 < (t192.length : Int) then ((ltext_number.f k (rd_L1 t192 2)).bind fun t202 => (ltext_Lease.l0 k t192 t197 bt199.2 0 t196 0 t202 bt199.1)) else (none))) else (none)) = some (r1, r2, r3, r4, r5) := H
 have A6 := Aside0.mk A60
 clear A60
 by_cases c7 : 3 < (t192.length : Int)
 rotate_left
 · rw [if_neg c7] at H
   exact absurd H (by simp)
 rw [if_pos c7] at H
 have c7b0 : decide (3 < (t192.length : Int)) = true := decide_eq_true c7
 have c7b1 : decide (3 < t192.length) = true := decide_eq_true (by omega)
 clear c7
 replace H := Option.bind_eq_some_iff.mp H
 obtain ⟨⟨t199, t200⟩, A80, H⟩ := H
 replace H : (if 2 < (t192.length : Int) then ((ltext_number.f k (rd_L1 t192 2)).bind fun t202 => (ltext_Lease.l0 k t192 t197 t200 0 t196 0 t202 t199)) else (none)) = some (r1, r2, r3, r4, r5) := H
 have A8 := Aside0.mk A80
 clear A80
 by_cases c9 : 2 < (t192.length : Int)
 rotate_left
 · rw [if_neg c9] at H
   exact absurd H (by simp)
 rw [if_pos c9] at H
 have c9b0 : decide (2 < (t192.length : Int)) = true := decide_eq_true c9
 have c9b1 : decide (2 < t192.length) = true := decide_eq_true (by omega)
 clear c9
 replace H := Option.bind_eq_some_iff.mp H
 obtain ⟨t202, A100, H⟩ := H
 replace H : (ltext_Lease.l0 k t192 t197 t200 0 t196 0 t202 t199) = some (r1, r2, r3, r4, r5) := H
 have A10 := Aside0.mk A100
 clear A100
 have H' := Aside0.mk H
 clear H
 go_enter Tryd.func16, Tryd.ntmps16
 go_wp2_with (first | ((with_reducible refine gate_dst (N := 2) rfl ?_); refine box_event rfl (N := 2) rfl (cs := #[.int .i64 0, .int .i64 0, .int .i64 0, .string (⟨#[]⟩ : ByteArray)]) (t := 23) sqs ?_; intro gb188 hg w11 hbox hb; have BK188 := sqM (hbox); have GW188 := sqM (sqZ hg (sqB HB.out)); have GE188 := sqM (sqZ hg (sqB HB.out)); replace HB := sqM (below_step (sqB HB.out) hb); clear hb hbox hg) | ((with_reducible refine gate_dst (N := 13) rfl ?_); refine Kd.V_bytes _ 5 rfl (N := 13) rfl 9 59 _ rfl Tryd.underlying9 Tryd.underlying59 Tryd.underlying5 a0 rfl (by have h_ : (a0.size : Int) ≤ (281474976710656 : Int) := of_decide_eq_true sqH; omega) (ok := (fun k_ => k_ ≠ gb188)) (okp := (fun k_ => k_ ≠ gb188)) (fun _ hk => hk) ((show ∀ k_, w11.heap.size ≤ k_ → (fun k_ => k_ ≠ gb188) k_ from fun k_ hk => Kd.freshB (g := gb188) (o := .cells #[.int .i64 0, .int .i64 0, .int .i64 0, .string (⟨#[]⟩ : ByteArray)] 23 (0, 0)) (sqK BK188.out) k_ hk) _ (Nat.le_refl _)) (Below.refl _ _) (Nat.le_refl _) ?_; intro v190 w12 ho13 hb hg_ hnew_; clear hg_ hnew_; (first | rw [← Ny189.out] at ho13 | (simp only [Int.reduceToNat] at ho13; rw [← Ny189.out] at ho13)); have HO191 := sqM (Kd.V_lower ho13 (below_size (sqB1 HB.out GE188.out))); replace BK188 := sqM (blk_below (sqK BK188.out) hb); replace HB := sqM (below_step (sqB1 HB.out GE188.out) hb); clear hb ho13; obtain ⟨Ao14, co14, eo14⟩ := Kd.V_slice HO191.out; subst eo14) | ((with_reducible refine gate_callee (f := 43) rfl ?_); refine goesL_ (some 14) rfl rfl Tryd.func43 (by kernel_rfl) rfl #[.slice Ao14 y189.length co14, .int .u8 32] rfl sqA ?_; (with_reducible refine (ltext_split.calls _ (fun k_ => k_ ≠ gb188) _ _ _ _ _ _ ?side1 A3.out).mono ?_); (case side1 => exact HO191.out); rintro e w15 ⟨v193, rfl, ho0, hb⟩; refine ⟨_, rfl, ?_⟩; have HO194 := sqM (Kd.N_lower (Kd.N_mono (ok' := fun k_ => k_ ≠ gb188) ho0 (fun k_ hk_ => Or.elim hk_ (fun hs_ => hs_) (fun hn_ => (Kd.freshB (g := gb188) (o := .cells #[.int .i64 0, .int .i64 0, .int .i64 0, .string (⟨#[]⟩ : ByteArray)] 23 (0, 0)) (sqK BK188.out) k_ hn_)))) (below_size (sqB1 HB.out GE188.out))); replace HO191 := sqM (Kd.V_elder' (sqV HO191.out) (Kd.N_base ho0) hb); replace BK188 := sqM (blk_below (sqK BK188.out) hb); replace HB := sqM (below_step (sqB1 HB.out GE188.out) hb); (try clear hb); (try clear hb2); (try clear hk); (try clear hi); (try clear ho0); obtain ⟨Ao16, co16, eo16⟩ := Kd.N_slice HO194.out; subst eo16; have p195 : 0 ≤ (0 : Int) := (by omega); have q195 : 0 < (t192.length : Int) := of_decide_eq_true sqH; obtain ⟨ad195, A195_0, c195_0, e195, hx195_0, hl195_0, hi195_0⟩ := at_L1 (Kd.N_reads' HO194.out).2.2 0 p195 q195; cases e195; obtain ⟨ce195, hce195, hMe195, hcc195⟩ := Kd.N_get HO194.out [] 0 p195 (by first | exact q195 | exact of_decide_eq_true sqH | (have e_ := (Kd.N_reads' HO194.out).1; omega)); obtain ⟨ua195_0, uc195_0, rfl, ul195_0, ge195_0⟩ := Kd.FK_slice_open hMe195; have hv195_0 := hcc195 0 _ rfl; rw [Nat.add_zero, show ((Kd.slice 5 (Kd.int .u8))).sz = 1 from rfl, Nat.mul_one] at hv195_0; replace hv195_0 := Option.some.inj (hv195_0.symm.trans hx195_0); injection hv195_0 with hva_ hvn_ hvc_; rw [hva_] at ge195_0; rw [hvc_] at ul195_0; have HL195_0 := sqM (show Kd.V (Kd.int .u8) 5 _ w.heap.size _ _ (rd_L1 t192 0) from Kd.V_mk ul195_0 ge195_0); clear hva_ hvn_ hvc_ ge195_0 ul195_0; clear hcc195 hce195; have qi195 : (0 < t192.length) = True := eq_true (by omega); (try rw [show ((0 : Int)).toNat = 0 from rfl] at hx195_0); (try rw [Addr.add_zero'] at hx195_0); have HR195_0 := sqM hi195_0; have HC195_0 := sqM hl195_0; clear hi195_0 hl195_0; replace p195 := eq_true p195; replace q195 := eq_true q195; have hcv17 := Kd.C_string (P := Tryd.prog) (A := A195_0) (c := c195_0) Tryd.underlying59 Tryd.underlying5 Tryd.underlying9 (sqC HR195_0.out)) | ((with_reducible refine gate_callee (f := 44) rfl ?_); refine goesL_ (some 24) rfl rfl Tryd.func44 (by kernel_rfl) rfl #[.string (strOfNums (rd_L1 t192 0))] rfl sqA ?_; (with_reducible refine (addr_Parse.calls _ _ _ _ A6.out).mono ?_); rintro e w18 ⟨rfl, hb⟩; refine ⟨_, rfl, ?_⟩; replace HO191 := sqM (Kd.V_below (sqV HO191.out) hb); replace HO194 := sqM (Kd.N_below (sqN HO194.out) hb); replace HL195_0 := sqM (Kd.V_below (sqV HL195_0.out) hb); replace BK188 := sqM (blk_below (sqK BK188.out) hb); replace HR195_0 := sqM (Kd.C_below (sqC HR195_0.out) hb); replace HB := sqM (below_step (sqB1 HB.out GE188.out) hb); (try clear hb); (try clear hb2); (try clear hk); (try clear hi); have p198 : 0 ≤ (3 : Int) := (by omega); have q198 : 3 < (t192.length : Int) := of_decide_eq_true sqH; obtain ⟨ad198, A198_0, c198_0, e198, hx198_0, hl198_0, hi198_0⟩ := at_L1 (Kd.N_reads' HO194.out).2.2 3 p198 q198; obtain rfl : ad195 = ad198 := (by injection e198); obtain ⟨ce198, hce198, hMe198, hcc198⟩ := Kd.N_get HO194.out [] 3 p198 (by first | exact q198 | exact of_decide_eq_true sqH | (have e_ := (Kd.N_reads' HO194.out).1; omega)); obtain ⟨ua198_0, uc198_0, rfl, ul198_0, ge198_0⟩ := Kd.FK_slice_open hMe198; have hv198_0 := hcc198 0 _ rfl; rw [Nat.add_zero, show ((Kd.slice 5 (Kd.int .u8))).sz = 1 from rfl, Nat.mul_one] at hv198_0; replace hv198_0 := Option.some.inj (hv198_0.symm.trans hx198_0); injection hv198_0 with hva_ hvn_ hvc_; rw [hva_] at ge198_0; rw [hvc_] at ul198_0; have HL198_0 := sqM (show Kd.V (Kd.int .u8) 5 _ w.heap.size _ _ (rd_L1 t192 3) from Kd.V_mk ul198_0 ge198_0); clear hva_ hvn_ hvc_ ge198_0 ul198_0; clear hcc198 hce198; (try simp only [show (3 : Int).toNat = 3 from rfl, Nat.reduceMul, Nat.reduceEqDiff, Go.Addr.add, ↓reduceIte] at hx198_0); have qi198 : (3 < t192.length) = True := eq_true (by omega); (try rw [show ((3 : Int)).toNat = 3 from rfl] at hx198_0); have HR198_0 := sqM hi198_0; have HC198_0 := sqM hl198_0; clear hi198_0 hl198_0; replace p198 := eq_true p198; replace q198 := eq_true q198; have hcv19 := Kd.C_string (P := Tryd.prog) (A := A198_0) (c := c198_0) Tryd.underlying59 Tryd.underlying5 Tryd.underlying9 (sqC HR198_0.out)) | ((with_reducible refine gate_callee (f := 45) rfl ?_); refine goesL_ (some 32) rfl rfl Tryd.func45 (by kernel_rfl) rfl #[.string (strOfNums (rd_L1 t192 3))] rfl sqA ?_; (with_reducible refine (key_Parse.calls _ _ _ _ _ ?side1 A8.out).mono ?_); (case side1 => first | exact HT.out | exact TabW.below HT.out (sqB1 HB.out GE188.out) | exact TabW.drawn HT.out ⟨_, rfl⟩); rintro e w20 ⟨rfl, hb⟩; refine ⟨_, rfl, ?_⟩; replace HO191 := sqM (Kd.V_below (sqV HO191.out) hb); replace HO194 := sqM (Kd.N_below (sqN HO194.out) hb); replace HL195_0 := sqM (Kd.V_below (sqV HL195_0.out) hb); replace HL198_0 := sqM (Kd.V_below (sqV HL198_0.out) hb); replace BK188 := sqM (blk_below (sqK BK188.out) hb); replace HR195_0 := sqM (Kd.C_below (sqC HR195_0.out) hb); replace HR198_0 := sqM (Kd.C_below (sqC HR198_0.out) hb); replace HB := sqM (below_step (sqB1 HB.out GE188.out) hb); (try clear hb); (try clear hb2); (try clear hk); (try clear hi); have p201 : 0 ≤ (2 : Int) := (by omega); have q201 : 2 < (t192.length : Int) := of_decide_eq_true sqH; obtain ⟨ad201, A201_0, c201_0, e201, hx201_0, hl201_0, hi201_0⟩ := at_L1 (Kd.N_reads' HO194.out).2.2 2 p201 q201; obtain rfl : ad195 = ad201 := (by injection e201); obtain ⟨ce201, hce201, hMe201, hcc201⟩ := Kd.N_get HO194.out [] 2 p201 (by first | exact q201 | exact of_decide_eq_true sqH | (have e_ := (Kd.N_reads' HO194.out).1; omega)); obtain ⟨ua201_0, uc201_0, rfl, ul201_0, ge201_0⟩ := Kd.FK_slice_open hMe201; have hv201_0 := hcc201 0 _ rfl; rw [Nat.add_zero, show ((Kd.slice 5 (Kd.int .u8))).sz = 1 from rfl, Nat.mul_one] at hv201_0; replace hv201_0 := Option.some.inj (hv201_0.symm.trans hx201_0); injection hv201_0 with hva_ hvn_ hvc_; rw [hva_] at ge201_0; rw [hvc_] at ul201_0; have HL201_0 := sqM (show Kd.V (Kd.int .u8) 5 _ w.heap.size _ _ (rd_L1 t192 2) from Kd.V_mk ul201_0 ge201_0); clear hva_ hvn_ hvc_ ge201_0 ul201_0; clear hcc201 hce201; (try simp only [show (2 : Int).toNat = 2 from rfl, Nat.reduceMul, Nat.reduceEqDiff, Go.Addr.add, ↓reduceIte] at hx201_0); have qi201 : (2 < t192.length) = True := eq_true (by omega); (try rw [show ((2 : Int)).toNat = 2 from rfl] at hx201_0); have HR201_0 := sqM hi201_0; have HC201_0 := sqM hl201_0; clear hi201_0 hl201_0; replace p201 := eq_true p201; replace q201 := eq_true q201) | ((with_reducible refine gate_callee (f := 46) rfl ?_); refine goesL_ (some 39) rfl rfl Tryd.func46 (by kernel_rfl) rfl #[.slice A201_0 (rd_L1 t192 2).length c201_0] rfl sqA ?_; (with_reducible refine (ltext_number.calls _ _ _ _ _ _ ?side1 ?side2 A10.out).mono ?_); (case side1 => repeat (first | exact (sqC HR201_0.out) | (with_reducible refine Kd.C_alloc ?_ _) | (with_reducible refine Kd.C_drewN ?_ _) | (with_reducible refine Kd.C_drew ?_))); (case side2 => exact HC201_0.out); rintro e w' ⟨rfl, ⟨nd, rfl⟩⟩; refine ⟨_, rfl, ?_⟩; (try (rw [drewN_self w20]; generalize hq_ : World.drewN w20 _ = w20; have n0_ : Aside0 (Kd.V (Kd.int .u8) 5 w20 w.heap.size (fun k_ => some k_ ≠ (.slice (some ad195) t192.length co16 : Value).ownBlock ∧ k_ ≠ gb188) (.slice A195_0 (rd_L1 t192 0).length c195_0) (rd_L1 t192 0)) := ⟨by rw [← hq_]; exact (by refine sqV ?_; exact Kd.V_mono HL195_0.out (fun _ hk => ⟨hk.2, hk.1⟩))⟩; have n1_ : Aside0 (Kd.V (Kd.int .u8) 5 w20 w.heap.size (fun k_ => some k_ ≠ (.slice (some ad195) t192.length co16 : Value).ownBlock ∧ k_ ≠ gb188) (.slice A198_0 (rd_L1 t192 3).length c198_0) (rd_L1 t192 3)) := ⟨by rw [← hq_]; exact (by refine sqV ?_; exact Kd.V_mono HL198_0.out (fun _ hk => ⟨hk.2, hk.1⟩))⟩; have n2_ : Aside0 (Kd.V (Kd.int .u8) 5 w20 w.heap.size (fun k_ => some k_ ≠ (.slice (some ad195) t192.length co16 : Value).ownBlock ∧ k_ ≠ gb188) (.slice A201_0 (rd_L1 t192 2).length c201_0) (rd_L1 t192 2)) := ⟨by rw [← hq_]; exact (by refine sqV ?_; exact Kd.V_mono HL201_0.out (fun _ hk => ⟨hk.2, hk.1⟩))⟩; have n3_ : Aside0 (Kd.V (Kd.int .u8) 5 w20 w.heap.size (fun k_ => some k_ ≠ (.slice (some ad195) t192.length co16 : Value).ownBlock ∧ k_ ≠ gb188) (.slice Ao14 y189.length co14) y189) := ⟨by rw [← hq_]; exact (by refine sqV ?_; exact Kd.V_mono HO191.out (fun _ hk => ⟨hk.2, hk.1⟩))⟩; have n4_ : Aside0 (Kd.N (Kd.slice 5 (Kd.int .u8)) 59 w20 w.heap.size (fun k_ => k_ ≠ gb188) (.slice (some ad195) t192.length co16) t192) := ⟨by rw [← hq_]; exact (sqN HO194.out)⟩; have n5_ : Aside0 (w20.heap[gb188]? = some (.cells #[.int .i64 0, .int .i64 0, .int .i64 0, .string (⟨#[]⟩ : ByteArray)] 23 (0, 0))) := ⟨by rw [← hq_]; exact (sqK BK188.out)⟩; have n6_ : Aside0 (Below w.heap.size w w20) := ⟨by rw [← hq_]; exact (sqB1 HB.out GE188.out)⟩; have n7_ : Aside0 (Kd.C (Kd.int .u8) w20 A195_0 (rd_L1 t192 0).length (rd_L1 t192 0)) := ⟨by rw [← hq_]; exact (sqC HR195_0.out)⟩; have n8_ : Aside0 (Kd.C (Kd.int .u8) w20 A198_0 (rd_L1 t192 3).length (rd_L1 t192 3)) := ⟨by rw [← hq_]; exact (sqC HR198_0.out)⟩; have n9_ : Aside0 (Kd.C (Kd.int .u8) w20 A201_0 (rd_L1 t192 2).length (rd_L1 t192 2)) := ⟨by rw [← hq_]; exact (sqC HR201_0.out)⟩; clear HL195_0 HL198_0 HL201_0 HO191 HO194 BK188 HB HR195_0 HR198_0 HR201_0 hq_; have HL195_0 := n0_; have HL198_0 := n1_; have HL201_0 := n2_; have HO191 := n3_; have HO194 := n4_; have BK188 := n5_; have HB := n6_; have HR195_0 := n7_; have HR198_0 := n8_; have HR201_0 := n9_; clear n0_ n1_ n2_ n3_ n4_ n5_ n6_ n7_ n8_ n9_)); (try (have hcy188_0 : w20.cell? ⟨gb188, 0, none⟩ = some (.int .i64 0) := (blk_cell BK188.out 0).trans rfl)); (try (have hcy188_1 : w20.cell? ⟨gb188, 1, none⟩ = some (.int .i64 0) := (blk_cell BK188.out 1).trans rfl)); (try (have hcy188_2 : w20.cell? ⟨gb188, 2, none⟩ = some (.int .i64 0) := (blk_cell BK188.out 2).trans rfl)); (try (have hcy188_3 : w20.cell? ⟨gb188, 3, none⟩ = some (.string (⟨#[]⟩ : ByteArray)) := (blk_cell BK188.out 3).trans rfl))) | ((with_reducible refine gate_dst (N := 9) rfl ?_); refine box_event rfl (N := 9) rfl (cs := #[.int .i64 0, .int .i64 0, .int .i64 0, .string (⟨#[]⟩ : ByteArray)]) (t := 23) sqs ?_; intro gb203 hg w21 hbox hb; have BK203 := sqM (hbox); have GW203 := sqM (sqZ hg (sqB1 HB.out GE188.out)); have GE203 := sqM (sqZ hg (sqB1 HB.out GE188.out)); have NB188_203 := sqM (sqL hg (sqK BK188.out)); have NB203_188 := sqM (sqG hg (sqK BK188.out)); replace HO191 := sqM (sqVe (sqV HO191.out) hg hb); replace HO194 := sqM (sqNe (sqN HO194.out) hg hb); replace HL195_0 := sqM (sqVe (sqV HL195_0.out) hg hb); replace HL198_0 := sqM (sqVe (sqV HL198_0.out) hg hb); replace HL201_0 := sqM (sqVe (sqV HL201_0.out) hg hb); replace BK188 := sqM (blk_below (sqK BK188.out) hb); replace HR195_0 := sqM (Kd.C_below (sqC HR195_0.out) hb); replace HR198_0 := sqM (Kd.C_below (sqC HR198_0.out) hb); replace HR201_0 := sqM (Kd.C_below (sqC HR201_0.out) hb); replace HB := sqM (below_step (sqB1 HB.out GE188.out) hb); clear hb hbox hg; have hnb22 := NB203_188.out; have hnc22 := NB188_203.out; obtain ⟨hcz23_0, hcz23_1, hcz23_2, hcz23_3, hfz23_0, hfz23_1, hfz23_2, hfz23_3⟩ := sqF4 BK203.out; have hca24 := sqx HB.out (string_at_0_0 HRT0.out); have hca25 := sqx HB.out (string_at_0_1 HRT0.out); have hca26 := sqx HB.out (string_at_0_2 HRT0.out); have hgl27 : 0 < w.heap.size := World.block_lt_of_cell? w _ (string_at_lit HRT0.out 0 (by decide)); have hnl28 : gb188 ≠ 0 := (by have h1_ := GE188.out; have h2_ := hgl27; omega); have hnm28 : 0 ≠ gb188 := (by have h1_ := GE188.out; have h2_ := hgl27; omega); have hnl29 : gb203 ≠ 0 := (by have h1_ := GE203.out; have h2_ := hgl27; omega); have hnm29 : 0 ≠ gb203 := (by have h1_ := GE203.out; have h2_ := hgl27; omega); have hu60 := Tryd.underlying60))
 go_loopg [43] k (fun kq v43 w' => ∃ (x43_1 : Int) (x204001_1 : Int), v43 = .int .i64 x43_1 ∧ Aside0 (ltext_Lease.l0 kq t192 t197 t200 x43_1 t196 x204001_1 t202 t199 = some (r1, r2, r3, r4, r5)) ∧ Aside0 (kq ≤ k) ∧ Aside0 (Kd.N (Kd.slice 5 (Kd.int .u8)) 59 w' w.heap.size (fun k_ => k_ ≠ gb188 ∧ k_ ≠ gb203) (.slice (some ad195) t192.length co16) t192) ∧ Aside0 (w'.heap[gb188]? = some (.cells #[.int .i64 0, .int .i64 0, .int .i64 0, .string (⟨#[]⟩ : ByteArray)] 23 (0, 0))) ∧ Aside0 (w'.heap[gb203]? = some (.cells #[.int .i64 t196, .int .i64 x204001_1, .int .i64 t202, .string t199] 23 (0, 0))) ∧ Aside0 (Below w.heap.size w w'))
 case atStart => exact ⟨(0), (0), sqI, H', ⟨Nat.le_refl _⟩, ⟨by refine sqN ?_; exact Kd.N_mono (sqN4 (Kd.N_mono HO194.out (fun k_ hk => (⟨hk, hk.2⟩ : _ ∧ k_ ≠ gb203))) (fun _ hk => hk.2)) (fun _ hk => ⟨hk.1.1, hk.1.2⟩)⟩, ⟨(sqK (sqX4 BK188.out NB188_203.out))⟩, ⟨(sqK (sqP4 BK203.out))⟩, ⟨sqB2 HB.out GE188.out GE203.out⟩⟩
 clear H'
 try clear c1
 try clear p1
 try clear q1
 try clear hx1
 try clear hcv1
 try clear qi1
 try clear c2
 try clear c2b0
 try clear c2b1
 try clear p2
 try clear q2
 try clear hx2
 try clear qi2
 try clear c4
 try clear c4b0
 try clear c4b1
 try clear c5
 try clear c5b0
 try clear c5b1
 try clear c7
 try clear c7b0
 try clear c7b1
 try clear c9
 try clear c9b0
 try clear c9b1
 try clear c16
 try clear hcv17
 try clear c19
 try clear p19
 try clear q19
 try clear hx19
 try clear hcv19
 try clear qi19
 try clear c20
 try clear p20
 try clear q20
 try clear hx20
 try clear qi20
 try clear c22
 try clear hcz23_0 hcz23_1 hcz23_2 hcz23_3 hfz23_0 hfz23_1 hfz23_2 hfz23_3
 try clear hx195_0
 try clear hx198_0
 try clear hx201_0
 try clear p195
 try clear p198
 try clear p201
 try clear q195
 try clear q198
 try clear q201
 obtain ⟨x43_1, x204001_1, rfl, HA, HK1, HO_4, BK188, BK203, HB⟩ := hrel
 cases gk with
 | zero => exact absurd HA.out (by simp [ltext_Lease.l0])
 | succ k1 => ?_
 have H := HA.out
 clear HA
 simp only [ltext_Lease.l0] at H
 by_cases c30 : x43_1 < 3
 rotate_left
 · rw [if_neg c30] at H
   have c30b0 : decide (x43_1 < 3) = false := decide_eq_false c30
   clear c30
   by_cases c40 : t197 = 0
   rotate_left
   · rw [if_neg c40] at H
     have c40b0 : (t197 == 0) = false := beq_eq_false_iff_ne.mpr c40
     have c40b1 : (t197 != 0) = true := bne_iff_ne.mpr c40
     simp only [Option.some.injEq, Prod.mk.injEq] at H
     obtain ⟨rfl, rfl, rfl, rfl, rfl⟩ := H
     have hnb55 := NB188_203.out
     have hnc55 := NB203_188.out
     obtain ⟨hcz56_0, hcz56_1, hcz56_2, hcz56_3, hfz56_0, hfz56_1, hfz56_2, hfz56_3⟩ := sqF4 BK188.out
     go_wp2
     refine bodyPost_ret (results_ct rfl _ _ gb188 23 #[.int .i64 0, .int .i64 0, .int .i64 0, .string (⟨#[]⟩ : ByteArray)] (0, 0) _ rfl (by exact (sqK (sqP4 BK188.out))) Tryd.underlying23 rfl (by kernel_rfl)) rfl ?_
     exact ⟨sqE, sqB2 HB.out GE188.out GE203.out⟩
   rw [if_pos c40] at H
   have c40b0 : (t197 == 0) = true := beq_iff_eq.mpr c40
   have c40b1 : (t197 != 0) = false := bne_eq_false_iff_eq.mpr c40
   clear c40
   by_cases c41 : t200 = 0
   rotate_left
   · rw [if_neg c41] at H
     have c41b0 : (t200 == 0) = false := beq_eq_false_iff_ne.mpr c41
     have c41b1 : (t200 != 0) = true := bne_iff_ne.mpr c41
     simp only [Option.some.injEq, Prod.mk.injEq] at H
     obtain ⟨rfl, rfl, rfl, rfl, rfl⟩ := H
     have hnb53 := NB188_203.out
     have hnc53 := NB203_188.out
     obtain ⟨hcz54_0, hcz54_1, hcz54_2, hcz54_3, hfz54_0, hfz54_1, hfz54_2, hfz54_3⟩ := sqF4 BK188.out
     go_wp2
     refine bodyPost_ret (results_ct rfl _ _ gb188 23 #[.int .i64 0, .int .i64 0, .int .i64 0, .string (⟨#[]⟩ : ByteArray)] (0, 0) _ rfl (by exact (sqK (sqP4 BK188.out))) Tryd.underlying23 rfl (by kernel_rfl)) rfl ?_
     exact ⟨sqE, sqB2 HB.out GE188.out GE203.out⟩
   rw [if_pos c41] at H
   have c41b0 : (t200 == 0) = true := beq_iff_eq.mpr c41
   have c41b1 : (t200 != 0) = false := bne_eq_false_iff_eq.mpr c41
   clear c41
   replace H := Option.bind_eq_some_iff.mp H
   obtain ⟨t205, A420, H⟩ := H
   replace H : (if t205 = true then (some (t196, x204001_1, t202, t199, 0)) else (some (0, 0, 0, (⟨#[]⟩ : ByteArray), 2))) = some (r1, r2, r3, r4, r5) := H
   have A42 := Aside0.mk A420
   clear A420
   by_cases c43 : t205 = true
   · subst c43
     have H1 : (some (t196, x204001_1, t202, t199, 0)) = some (r1, r2, r3, r4, r5) := by rw [if_pos rfl] at H; exact H
     clear H
     have H := H1
     clear H1
     simp only [Option.some.injEq, Prod.mk.injEq] at H
     obtain ⟨rfl, rfl, rfl, rfl, rfl⟩ := H
     have hnb44 := NB203_188.out
     have hnc44 := NB188_203.out
     obtain ⟨hcz45_0, hcz45_1, hcz45_2, hcz45_3, hfz45_0, hfz45_1, hfz45_2, hfz45_3⟩ := sqF4 BK203.out
     go_wp2_with (first | (go_at_call 33; (with_reducible refine (record_Right.calls _ _ _ _ _ _ A42.out).mono ?_); rintro e w46 ⟨rfl, hb⟩; replace HO_4 := sqM (Kd.N_below (sqN HO_4.out) hb); replace BK188 := sqM (blk_below (sqK BK188.out) hb); replace BK203 := sqM (blk_below (sqK BK203.out) hb); replace HB := sqM (below_step (sqB2 HB.out GE188.out GE203.out) hb); (try clear hb); (try clear hb2); (try clear hk); (try clear hi); obtain ⟨hcz47_0, hcz47_1, hcz47_2, hcz47_3, hfz47_0, hfz47_1, hfz47_2, hfz47_3⟩ := sqF4 BK203.out; obtain ⟨hcz48_0, hcz48_1, hcz48_2, hcz48_3, hfz48_0, hfz48_1, hfz48_2, hfz48_3⟩ := sqF4 BK188.out))
     refine bodyPost_ret (results_ct rfl _ _ gb188 23 #[.int .i64 t196, .int .i64 x204001_1, .int .i64 t202, .string t199] (0, 0) _ rfl (by exact (sqK (sqP4 BK188.out))) Tryd.underlying23 rfl (by kernel_rfl)) rfl ?_
     exact ⟨sqE, sqB2 HB.out GE188.out GE203.out⟩
   replace c43 := Bool.eq_false_iff.mpr c43
   subst c43
   have H1 : (some (0, 0, 0, (⟨#[]⟩ : ByteArray), 2)) = some (r1, r2, r3, r4, r5) := by rw [if_neg (show ¬ (false = true) by decide)] at H; exact H
   clear H
   have H := H1
   clear H1
   simp only [Option.some.injEq, Prod.mk.injEq] at H
   obtain ⟨rfl, rfl, rfl, rfl, rfl⟩ := H
   have hnb49 := NB203_188.out
   have hnc49 := NB188_203.out
   obtain ⟨hcz50_0, hcz50_1, hcz50_2, hcz50_3, hfz50_0, hfz50_1, hfz50_2, hfz50_3⟩ := sqF4 BK203.out
   go_wp2_with (first | (go_at_call 33; (with_reducible refine (record_Right.calls _ _ _ _ _ _ A42.out).mono ?_); rintro e w51 ⟨rfl, hb⟩; replace HO_4 := sqM (Kd.N_below (sqN HO_4.out) hb); replace BK188 := sqM (blk_below (sqK BK188.out) hb); replace BK203 := sqM (blk_below (sqK BK203.out) hb); replace HB := sqM (below_step (sqB2 HB.out GE188.out GE203.out) hb); (try clear hb); (try clear hb2); (try clear hk); (try clear hi); obtain ⟨hcz52_0, hcz52_1, hcz52_2, hcz52_3, hfz52_0, hfz52_1, hfz52_2, hfz52_3⟩ := sqF4 BK188.out))
   refine bodyPost_ret (results_ct rfl _ _ gb188 23 #[.int .i64 0, .int .i64 0, .int .i64 0, .string (⟨#[]⟩ : ByteArray)] (0, 0) _ rfl (by exact (sqK (sqP4 BK188.out))) Tryd.underlying23 rfl (by kernel_rfl)) rfl ?_
   exact ⟨sqE, sqB2 HB.out GE188.out GE203.out⟩
 rw [if_pos c30] at H
 have c30b0 : decide (x43_1 < 3) = true := decide_eq_true c30
 clear c30
 by_cases c31 : 0 ≤ x43_1
 rotate_left
 · rw [if_neg c31] at H
   exact absurd H (by simp)
 rw [if_pos c31] at H
 have c31b0 : decide (0 ≤ x43_1) = true := decide_eq_true c31
 clear c31
 by_cases c32 : 1 < (t192.length : Int)
 rotate_left
 · rw [if_neg c32] at H
   exact absurd H (by simp)
 rw [if_pos c32] at H
 have c32b0 : decide (1 < (t192.length : Int)) = true := decide_eq_true c32
 have c32b1 : decide (1 < t192.length) = true := decide_eq_true (by omega)
 clear c32
 by_cases c33 : (strOfNums (rd_L1 t192 1)).toList = (rdOf ByteArray.empty tab0 x43_1).toList
 rotate_left
 · rw [if_neg c33] at H
   have c33b0 : ((strOfNums (rd_L1 t192 1)).toList == (rdOf ByteArray.empty tab0 x43_1).toList) = false := beq_eq_false_iff_ne.mpr c33
   have c33b1 : ((strOfNums (rd_L1 t192 1)).toList != (rdOf ByteArray.empty tab0 x43_1).toList) = true := bne_iff_ne.mpr c33
   have H' := Aside0.mk H
   clear H
   have p38 : 0 ≤ (x43_1 : Int) := of_decide_eq_true sqH
   have q38 : (x43_1 : Int) < (3 : Int) := of_decide_eq_true sqH
   have hai38 := arr_run_0 (x43_1) p38 q38
   replace p38 := eq_true p38
   replace q38 := eq_true q38
   have p204 : 0 ≤ (1 : Int) := (by omega)
   have q204 : 1 < (t192.length : Int) := of_decide_eq_true sqH
   obtain ⟨ad204, A204_0, c204_0, e204, hx204_0, hl204_0, hi204_0⟩ := at_L1 (Kd.N_reads' HO_4.out).2.2 1 p204 q204
   obtain rfl : ad195 = ad204 := (by injection e204)
   obtain ⟨ce204, hce204, hMe204, hcc204⟩ := Kd.N_get HO_4.out [] 1 p204 (by first | exact q204 | exact of_decide_eq_true sqH | (have e_ := (Kd.N_reads' HO_4.out).1; omega))
   obtain ⟨ua204_0, uc204_0, rfl, ul204_0, ge204_0⟩ := Kd.FK_slice_open hMe204
   have hv204_0 := hcc204 0 _ rfl
   rw [Nat.add_zero, show ((Kd.slice 5 (Kd.int .u8))).sz = 1 from rfl, Nat.mul_one] at hv204_0
   replace hv204_0 := Option.some.inj (hv204_0.symm.trans hx204_0)
   injection hv204_0 with hva_ hvn_ hvc_
   rw [hva_] at ge204_0
   rw [hvc_] at ul204_0
   have HL204_0 := sqM (show Kd.V (Kd.int .u8) 5 _ w.heap.size _ _ (rd_L1 t192 1) from Kd.V_mk ul204_0 ge204_0)
   clear hva_ hvn_ hvc_ ge204_0 ul204_0
   clear hcc204 hce204
   (try simp only [show (1 : Int).toNat = 1 from rfl, Nat.reduceMul, Nat.reduceEqDiff, Go.Addr.add, ↓reduceIte] at hx204_0)
   have qi204 : (1 < t192.length) = True := eq_true (by omega)
   (try rw [show ((1 : Int)).toNat = 1 from rfl] at hx204_0)
   have HR204_0 := Aside0.mk hi204_0
   have HC204_0 := Aside0.mk hl204_0
   clear hi204_0 hl204_0
   replace p204 := eq_true p204
   replace q204 := eq_true q204
   have hcv39 := Kd.C_string (P := Tryd.prog) (A := A204_0) (c := c204_0) Tryd.underlying59 Tryd.underlying5 Tryd.underlying9 (sqC HR204_0.out)
   go_wp2
   go_roundg k1
   case measure => have := HK1.out; omega
   case rel => exact ⟨(wrap64 (x43_1 + 1)), (x204001_1), sqI, H', ⟨by have := HK1.out; omega⟩, ⟨sqN HO_4.out⟩, ⟨sqK BK188.out⟩, ⟨sqK BK203.out⟩, ⟨sqB2 HB.out GE188.out GE203.out⟩⟩
 rw [if_pos c33] at H
 have c33b0 : ((strOfNums (rd_L1 t192 1)).toList == (rdOf ByteArray.empty tab0 x43_1).toList) = true := beq_iff_eq.mpr c33
 have c33b1 : ((strOfNums (rd_L1 t192 1)).toList != (rdOf ByteArray.empty tab0 x43_1).toList) = false := bne_eq_false_iff_eq.mpr c33
 clear c33
 have H' := Aside0.mk H
 clear H
 have p34 : 0 ≤ (x43_1 : Int) := of_decide_eq_true sqH
 have q34 : (x43_1 : Int) < (3 : Int) := of_decide_eq_true sqH
 have hai34 := arr_run_0 (x43_1) p34 q34
 replace p34 := eq_true p34
 replace q34 := eq_true q34
 have p204 : 0 ≤ (1 : Int) := (by omega)
 have q204 : 1 < (t192.length : Int) := of_decide_eq_true sqH
 obtain ⟨ad204, A204_0, c204_0, e204, hx204_0, hl204_0, hi204_0⟩ := at_L1 (Kd.N_reads' HO_4.out).2.2 1 p204 q204
 obtain rfl : ad195 = ad204 := (by injection e204)
 obtain ⟨ce204, hce204, hMe204, hcc204⟩ := Kd.N_get HO_4.out [] 1 p204 (by first | exact q204 | exact of_decide_eq_true sqH | (have e_ := (Kd.N_reads' HO_4.out).1; omega))
 obtain ⟨ua204_0, uc204_0, rfl, ul204_0, ge204_0⟩ := Kd.FK_slice_open hMe204
 have hv204_0 := hcc204 0 _ rfl
 rw [Nat.add_zero, show ((Kd.slice 5 (Kd.int .u8))).sz = 1 from rfl, Nat.mul_one] at hv204_0
 replace hv204_0 := Option.some.inj (hv204_0.symm.trans hx204_0)
 injection hv204_0 with hva_ hvn_ hvc_
 rw [hva_] at ge204_0
 rw [hvc_] at ul204_0
 have HL204_0 := sqM (show Kd.V (Kd.int .u8) 5 _ w.heap.size _ _ (rd_L1 t192 1) from Kd.V_mk ul204_0 ge204_0)
 clear hva_ hvn_ hvc_ ge204_0 ul204_0
 clear hcc204 hce204
 (try simp only [show (1 : Int).toNat = 1 from rfl, Nat.reduceMul, Nat.reduceEqDiff, Go.Addr.add, ↓reduceIte] at hx204_0)
 have qi204 : (1 < t192.length) = True := eq_true (by omega)
 (try rw [show ((1 : Int)).toNat = 1 from rfl] at hx204_0)
 have HR204_0 := Aside0.mk hi204_0
 have HC204_0 := Aside0.mk hl204_0
 clear hi204_0 hl204_0
 replace p204 := eq_true p204
 replace q204 := eq_true q204
 have hcv35 := Kd.C_string (P := Tryd.prog) (A := A204_0) (c := c204_0) Tryd.underlying59 Tryd.underlying5 Tryd.underlying9 (sqC HR204_0.out)
 have hnb36 := NB203_188.out
 have hnc36 := NB188_203.out
 obtain ⟨hcz37_0, hcz37_1, hcz37_2, hcz37_3, hfz37_0, hfz37_1, hfz37_2, hfz37_3⟩ := sqF4 BK203.out
 go_wp2
 go_roundg k1
 case measure => have := HK1.out; omega
 case rel => exact ⟨(wrap64 (x43_1 + 1)), (wrap64 (1 + x43_1)), sqI, H', ⟨by have := HK1.out; omega⟩, ⟨by refine sqN ?_; exact Kd.N_mono (Kd.N_far (p := ⟨gb203, 1, none⟩) (Kd.N_mono HO_4.out (fun k_ hk => (⟨hk, hk.2⟩ : _ ∧ k_ ≠ gb203))) (fun _ hk => hk.2) (.int .i64 (wrap64 (1 + x43_1)))) (fun _ hk => ⟨hk.1.1, hk.1.2⟩)⟩, ⟨by refine sqK ?_; refine blk_far ?_ NB188_203.out _; refine sqK ?_; exact BK188.out⟩, ⟨by refine sqK ?_; refine blk_put (cs := #[.int .i64 t196, .int .i64 x204001_1, .int .i64 t202, .string t199]) ?_ 1 _ rfl; refine sqK ?_; exact BK203.out⟩, ⟨sqB2 HB.out GE188.out GE203.out⟩⟩

end Go.Proofs.YtdajdpgnhjlbaaaDoor.PLease
