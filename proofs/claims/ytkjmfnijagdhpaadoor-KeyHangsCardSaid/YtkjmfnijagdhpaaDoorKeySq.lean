/- Short words for steps that the walks take often: each is its own premise, under its own conditions. -/
import Derived.Test.YtkjmfnijagdhpaaDoorWWords
import Derived.Test.YtkjmfnijagdhpaaDoorWMore
import Derived.Test.YtkjmfnijagdhpaaDoorWLast
import Derived.Test.YtkjmfnijagdhpaaDoorWShare
import Derived.Test.YtkjmfnijagdhpaaDoorWN
import Derived.Test.YtkjmfnijagdhpaaDoorWApart
set_option linter.unusedVariables false
set_option linter.unusedSimpArgs false
set_option autoImplicit false
namespace Go.Proofs.YtkjmfnijagdhpaaDoorW.PrintWords
open Go.RowKit Go.Proofs.YtkjmfnijagdhpaaDoorW.PrintWords Go.Proofs.YtkjmfnijagdhpaaDoorW.PrintLast Go.Proofs.YtkjmfnijagdhpaaDoorW.PrintMore

theorem sqB {P Q : Prop} (h : P) (g : P → Q := by intro h ; repeat (first | (with_reducible first | exact h | apply below_alloc | apply pw_below_drewN | apply below_drew1) | exact h)) : Q := g h 
theorem sqB1 {P Q E0 : Prop} (h : P) (e0 : E0) (g : P → E0 → Q := by intro h e0; repeat (first | (with_reducible first | exact h | apply below_alloc | apply pw_below_drewN | apply below_drew1 | refine below_set ?_ e0) | exact h)) : Q := g h e0
theorem sqB2 {P Q E0 E1 : Prop} (h : P) (e0 : E0) (e1 : E1) (g : P → E0 → E1 → Q := by intro h e0 e1; repeat (first | (with_reducible first | exact h | apply below_alloc | apply pw_below_drewN | apply below_drew1 | refine below_set ?_ e0 | refine below_set ?_ e1) | exact h)) : Q := g h e0 e1
theorem sqB3 {P Q E0 E1 E2 : Prop} (h : P) (e0 : E0) (e1 : E1) (e2 : E2) (g : P → E0 → E1 → E2 → Q := by intro h e0 e1 e2; repeat (first | (with_reducible first | exact h | apply below_alloc | apply pw_below_drewN | apply below_drew1 | refine below_set ?_ e0 | refine below_set ?_ e1 | refine below_set ?_ e2) | exact h)) : Q := g h e0 e1 e2
theorem sqK {P Q : Prop} (h : P) (g : P → Q := by intro h; (with_reducible repeat (first | refine blk_drewN ?_ _ | refine blk_drew ?_ | refine blk_alloc ?_ _)); exact h) : Q := g h
theorem sqR {P Q : Prop} (h : P) (g : P → Q := by intro h; (with_reducible repeat (first | apply Kd.R_alloc | apply Kd.R_drewN | apply Kd.R_drew)); exact h) : Q := g h
theorem sqV {P Q : Prop} (h : P) (g : P → Q := by intro h; (with_reducible repeat (first | apply Kd.V_alloc | apply Kd.V_drewN | apply Kd.V_drew)); exact h) : Q := g h
theorem sqA {P : Prop} (h : P := by (try simp only [List.map_toArray, List.map_cons, List.map_nil]); first | done | rfl | (simp only [List.length_drop, List.length_take]; rfl)) : P := h
theorem sqH {P : Prop} (h : P := by first | (with_reducible assumption) | assumption) : P := h
theorem sqD {P : Prop} (h : P := by repeat (first | exact Drawn0.refl _ | apply Drawn0.step)) : P := h
theorem sqM {P : Prop} (h : P) : Aside0 P := Aside0.mk h
theorem sqL {w : World} {g a : Nat} {o : Obj} (hg : a = w.heap.size) (h : w.heap[g]? = some o) : g ≠ a := by rw [hg]; exact Nat.ne_of_lt (blk_lt h)
theorem sqG {w : World} {g a : Nat} {o : Obj} (hg : a = w.heap.size) (h : w.heap[g]? = some o) : a ≠ g := by rw [hg]; exact Nat.ne_of_gt (blk_lt h)
theorem sqZ {w w1 : World} {a : Nat} (hg : a = w1.heap.size) (h : Below w.heap.size w w1) : w.heap.size ≤ a := by rw [hg]; exact below_size h
theorem sqs {P : Prop} (h : P := by first | (go_simp; done) | (go_simp; rfl)) : P := h
theorem sqE {P : Prop} (h : P := by first | rfl | (simp [errW_none, errW_some] <;> rfl) | (simp [*, errW_none, errW_some] <;> rfl)) : P := h
theorem sqI {P : Prop} (h : P := by first | rfl | (simp; done) | (simp [*]; done)) : P := h
theorem sqx {w w1 : World} {a : Addr} {v : Value} (hb : Below w.heap.size w w1) (h : w.cell? a = some v) : w1.cell? a = some v := (hb.cell (World.block_lt_of_cell? w _ h)).trans h
theorem sqVe {α : Type} {d : Kd α} {e : TypeId} {w w1 : World} {base a : Nat} {ok : Nat → Prop} {v : Value} {xs : List α} (h : Kd.V d e w base ok v xs) (hg : a = w.heap.size) (hb : Below w.heap.size w w1) : Kd.V d e w1 base (fun k => ok k ∧ k ≠ a) v xs := Kd.V_below (Kd.V_elderB h a (Nat.le_of_eq hg.symm)) hb
theorem sqV12 {α : Type} {d : Kd α} {e : TypeId} {w : World} {base : Nat} {ok : Nat → Prop} {v : Value} {xs : List α} (h : Kd.V d e w base ok v xs) {g : Nat} (hok : ∀ k, ok k → k ≠ g) {i0 i1 i2 i3 i4 i5 i6 i7 i8 i9 i10 i11 : Nat} {u0 u1 u2 u3 u4 u5 u6 u7 u8 u9 u10 u11 : Value} : Kd.V d e ((((((((((((w.setCell ⟨g, i0, none⟩ u0).setCell ⟨g, i1, none⟩ u1).setCell ⟨g, i2, none⟩ u2).setCell ⟨g, i3, none⟩ u3).setCell ⟨g, i4, none⟩ u4).setCell ⟨g, i5, none⟩ u5).setCell ⟨g, i6, none⟩ u6).setCell ⟨g, i7, none⟩ u7).setCell ⟨g, i8, none⟩ u8).setCell ⟨g, i9, none⟩ u9).setCell ⟨g, i10, none⟩ u10).setCell ⟨g, i11, none⟩ u11) base ok v xs := (Kd.V_far (Kd.V_far (Kd.V_far (Kd.V_far (Kd.V_far (Kd.V_far (Kd.V_far (Kd.V_far (Kd.V_far (Kd.V_far (Kd.V_far (Kd.V_far h (p := ⟨g, i0, none⟩) hok u0) (p := ⟨g, i1, none⟩) hok u1) (p := ⟨g, i2, none⟩) hok u2) (p := ⟨g, i3, none⟩) hok u3) (p := ⟨g, i4, none⟩) hok u4) (p := ⟨g, i5, none⟩) hok u5) (p := ⟨g, i6, none⟩) hok u6) (p := ⟨g, i7, none⟩) hok u7) (p := ⟨g, i8, none⟩) hok u8) (p := ⟨g, i9, none⟩) hok u9) (p := ⟨g, i10, none⟩) hok u10) (p := ⟨g, i11, none⟩) hok u11)
theorem sqF2 {w : World} {g : Nat} {t : TypeId} {c0 c1 : Value} (h : w.heap[g]? = some (.cells #[c0, c1] t (0, 0))) : w.cell? ⟨g, 0, none⟩ = some c0 ∧ w.cell? ⟨g, 1, none⟩ = some c1 ∧ w.frozen? ⟨g, 0, none⟩ = false ∧ w.frozen? ⟨g, 1, none⟩ = false := ⟨(blk_cell h 0).trans rfl, (blk_cell h 1).trans rfl, blk_frozen h 0, blk_frozen h 1⟩
theorem sqP2 {w : World} {g : Nat} {t : TypeId} {c0 c1 u0 u1 : Value} (h : w.heap[g]? = some (.cells #[c0, c1] t (0, 0))) : ((w.setCell ⟨g, 0, none⟩ u0).setCell ⟨g, 1, none⟩ u1).heap[g]? = some (.cells #[u0, u1] t (0, 0)) := (blk_put (cs := #[u0, c1]) (blk_put (cs := #[c0, c1]) h 0 u0 rfl) 1 u1 rfl)
end Go.Proofs.YtkjmfnijagdhpaaDoorW.PrintWords
