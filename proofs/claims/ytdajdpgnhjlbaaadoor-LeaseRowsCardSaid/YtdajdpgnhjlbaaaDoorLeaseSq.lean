/- Short words for steps that the walks take often: each is its own premise, under its own conditions. -/
import Derived.Test.YtdajdpgnhjlbaaaDoorWWords
import Derived.Test.YtdajdpgnhjlbaaaDoorWMore
import Derived.Test.YtdajdpgnhjlbaaaDoorWLast
import Derived.Test.YtdajdpgnhjlbaaaDoorWShare
import Derived.Test.YtdajdpgnhjlbaaaDoorWN
import Derived.Test.YtdajdpgnhjlbaaaDoorWApart
set_option linter.unusedVariables false
set_option linter.unusedSimpArgs false
set_option autoImplicit false
namespace Go.Proofs.YtdajdpgnhjlbaaaDoorW.PrintWords
open Go.RowKit Go.Proofs.YtdajdpgnhjlbaaaDoorW.PrintWords Go.Proofs.YtdajdpgnhjlbaaaDoorW.PrintLast Go.Proofs.YtdajdpgnhjlbaaaDoorW.PrintMore

theorem sqB {P Q : Prop} (h : P) (g : P → Q := by intro h ; repeat (first | (with_reducible first | exact h | apply below_alloc | apply pw_below_drewN | apply below_drew1) | exact h)) : Q := g h 
theorem sqB1 {P Q E0 : Prop} (h : P) (e0 : E0) (g : P → E0 → Q := by intro h e0; repeat (first | (with_reducible first | exact h | apply below_alloc | apply pw_below_drewN | apply below_drew1 | refine below_set ?_ e0) | exact h)) : Q := g h e0
theorem sqB2 {P Q E0 E1 : Prop} (h : P) (e0 : E0) (e1 : E1) (g : P → E0 → E1 → Q := by intro h e0 e1; repeat (first | (with_reducible first | exact h | apply below_alloc | apply pw_below_drewN | apply below_drew1 | refine below_set ?_ e0 | refine below_set ?_ e1) | exact h)) : Q := g h e0 e1
theorem sqK {P Q : Prop} (h : P) (g : P → Q := by intro h; (with_reducible repeat (first | refine blk_drewN ?_ _ | refine blk_drew ?_ | refine blk_alloc ?_ _)); exact h) : Q := g h
theorem sqR {P Q : Prop} (h : P) (g : P → Q := by intro h; (with_reducible repeat (first | apply Kd.R_alloc | apply Kd.R_drewN | apply Kd.R_drew)); exact h) : Q := g h
theorem sqN {P Q : Prop} (h : P) (g : P → Q := by intro h; (with_reducible repeat (first | apply Kd.N_alloc | apply Kd.N_drewN | apply Kd.N_drew)); exact h) : Q := g h
theorem sqV {P Q : Prop} (h : P) (g : P → Q := by intro h; (with_reducible repeat (first | apply Kd.V_alloc | apply Kd.V_drewN | apply Kd.V_drew)); exact h) : Q := g h
theorem sqC {P Q : Prop} (h : P) (g : P → Q := by intro h; repeat (first | (with_reducible exact h) | (with_reducible refine Kd.C_alloc ?_ _) | (with_reducible refine Kd.C_drewN ?_ _) | (with_reducible refine Kd.C_drew ?_) | exact h)) : Q := g h
theorem sqA {P : Prop} (h : P := by (try simp only [List.map_toArray, List.map_cons, List.map_nil]); first | done | rfl | (simp only [List.length_drop, List.length_take]; rfl)) : P := h
theorem sqH {P : Prop} (h : P := by first | (with_reducible assumption) | assumption) : P := h
theorem sqD {P : Prop} (h : P := by repeat (first | exact Drawn0.refl _ | apply Drawn0.step)) : P := h
theorem sqM {P : Prop} (h : P) : Aside0 P := Aside0.mk h
theorem sqL {w : World} {g a : Nat} {o : Obj} (hg : a = w.heap.size) (h : w.heap[g]? = some o) : g ≠ a := by rw [hg]; exact Nat.ne_of_lt (blk_lt h)
theorem sqG {w : World} {g a : Nat} {o : Obj} (hg : a = w.heap.size) (h : w.heap[g]? = some o) : a ≠ g := by rw [hg]; exact Nat.ne_of_gt (blk_lt h)
theorem sqZ {w w1 : World} {a : Nat} (hg : a = w1.heap.size) (h : Below w.heap.size w w1) : w.heap.size ≤ a := by rw [hg]; exact below_size h
theorem sqs {P : Prop} (h : P := by first | (go_simp; done) | (go_simp; rfl)) : P := h
theorem sqE {P : Prop} (h : P := by first | rfl | (simp [errW_none, errW_some] <;> rfl) | (simp [*, errW_none, errW_some] <;> rfl)) : P := h
theorem sqI {P : Prop} (h : P := by first | rfl | (simp; done) | (simp [*]; done)) : P := h
theorem sqx {w w1 : World} {a : Addr} {v : Value} (hb : Below w.heap.size w w1) (h : w.cell? a = some v) : w1.cell? a = some v := (hb.cell (World.block_lt_of_cell? w _ h)).trans h
theorem sqRe {α : Type} {d : Kd α} {e : TypeId} {w w1 : World} {base a : Nat} {ok : Nat → Prop} {v : Value} {xs : List α} (h : Kd.R d e w base ok v xs) (hg : a = w.heap.size) (hb : Below w.heap.size w w1) : Kd.R d e w1 base (fun k => ok k ∧ k ≠ a) v xs := Kd.R_below (Kd.R_elderB h a (Nat.le_of_eq hg.symm)) hb
theorem sqNe {α : Type} {d : Kd α} {e : TypeId} {w w1 : World} {base a : Nat} {ok : Nat → Prop} {v : Value} {xs : List α} (h : Kd.N d e w base ok v xs) (hg : a = w.heap.size) (hb : Below w.heap.size w w1) : Kd.N d e w1 base (fun k => ok k ∧ k ≠ a) v xs := Kd.N_below (Kd.N_elderB h a (Nat.le_of_eq hg.symm)) hb
theorem sqVe {α : Type} {d : Kd α} {e : TypeId} {w w1 : World} {base a : Nat} {ok : Nat → Prop} {v : Value} {xs : List α} (h : Kd.V d e w base ok v xs) (hg : a = w.heap.size) (hb : Below w.heap.size w w1) : Kd.V d e w1 base (fun k => ok k ∧ k ≠ a) v xs := Kd.V_below (Kd.V_elderB h a (Nat.le_of_eq hg.symm)) hb
theorem sqR4 {α : Type} {d : Kd α} {e : TypeId} {w : World} {base : Nat} {ok : Nat → Prop} {v : Value} {xs : List α} (h : Kd.R d e w base ok v xs) {g : Nat} (hok : ∀ k, ok k → k ≠ g) {i0 i1 i2 i3 : Nat} {u0 u1 u2 u3 : Value} : Kd.R d e ((((w.setCell ⟨g, i0, none⟩ u0).setCell ⟨g, i1, none⟩ u1).setCell ⟨g, i2, none⟩ u2).setCell ⟨g, i3, none⟩ u3) base ok v xs := (Kd.R_far (Kd.R_far (Kd.R_far (Kd.R_far h (p := ⟨g, i0, none⟩) hok u0) (p := ⟨g, i1, none⟩) hok u1) (p := ⟨g, i2, none⟩) hok u2) (p := ⟨g, i3, none⟩) hok u3)
theorem sqN4 {α : Type} {d : Kd α} {e : TypeId} {w : World} {base : Nat} {ok : Nat → Prop} {v : Value} {xs : List α} (h : Kd.N d e w base ok v xs) {g : Nat} (hok : ∀ k, ok k → k ≠ g) {i0 i1 i2 i3 : Nat} {u0 u1 u2 u3 : Value} : Kd.N d e ((((w.setCell ⟨g, i0, none⟩ u0).setCell ⟨g, i1, none⟩ u1).setCell ⟨g, i2, none⟩ u2).setCell ⟨g, i3, none⟩ u3) base ok v xs := (Kd.N_far (Kd.N_far (Kd.N_far (Kd.N_far h (p := ⟨g, i0, none⟩) hok u0) (p := ⟨g, i1, none⟩) hok u1) (p := ⟨g, i2, none⟩) hok u2) (p := ⟨g, i3, none⟩) hok u3)
theorem sqV4 {α : Type} {d : Kd α} {e : TypeId} {w : World} {base : Nat} {ok : Nat → Prop} {v : Value} {xs : List α} (h : Kd.V d e w base ok v xs) {g : Nat} (hok : ∀ k, ok k → k ≠ g) {i0 i1 i2 i3 : Nat} {u0 u1 u2 u3 : Value} : Kd.V d e ((((w.setCell ⟨g, i0, none⟩ u0).setCell ⟨g, i1, none⟩ u1).setCell ⟨g, i2, none⟩ u2).setCell ⟨g, i3, none⟩ u3) base ok v xs := (Kd.V_far (Kd.V_far (Kd.V_far (Kd.V_far h (p := ⟨g, i0, none⟩) hok u0) (p := ⟨g, i1, none⟩) hok u1) (p := ⟨g, i2, none⟩) hok u2) (p := ⟨g, i3, none⟩) hok u3)
theorem sqX4 {w : World} {g a : Nat} {t : TypeId} {cs : Array Value} (h : w.heap[g]? = some (.cells cs t (0, 0))) (hne : g ≠ a) {i0 i1 i2 i3 : Nat} {u0 u1 u2 u3 : Value} : (((((w.setCell ⟨a, i0, none⟩ u0).setCell ⟨a, i1, none⟩ u1).setCell ⟨a, i2, none⟩ u2).setCell ⟨a, i3, none⟩ u3)).heap[g]? = some (.cells cs t (0, 0)) := (blk_far (blk_far (blk_far (blk_far h (p := ⟨a, i0, none⟩) hne u0) (p := ⟨a, i1, none⟩) hne u1) (p := ⟨a, i2, none⟩) hne u2) (p := ⟨a, i3, none⟩) hne u3)
theorem sqF4 {w : World} {g : Nat} {t : TypeId} {c0 c1 c2 c3 : Value} (h : w.heap[g]? = some (.cells #[c0, c1, c2, c3] t (0, 0))) : w.cell? ⟨g, 0, none⟩ = some c0 ∧ w.cell? ⟨g, 1, none⟩ = some c1 ∧ w.cell? ⟨g, 2, none⟩ = some c2 ∧ w.cell? ⟨g, 3, none⟩ = some c3 ∧ w.frozen? ⟨g, 0, none⟩ = false ∧ w.frozen? ⟨g, 1, none⟩ = false ∧ w.frozen? ⟨g, 2, none⟩ = false ∧ w.frozen? ⟨g, 3, none⟩ = false := ⟨(blk_cell h 0).trans rfl, (blk_cell h 1).trans rfl, (blk_cell h 2).trans rfl, (blk_cell h 3).trans rfl, blk_frozen h 0, blk_frozen h 1, blk_frozen h 2, blk_frozen h 3⟩
theorem sqP4 {w : World} {g : Nat} {t : TypeId} {c0 c1 c2 c3 u0 u1 u2 u3 : Value} (h : w.heap[g]? = some (.cells #[c0, c1, c2, c3] t (0, 0))) : ((((w.setCell ⟨g, 0, none⟩ u0).setCell ⟨g, 1, none⟩ u1).setCell ⟨g, 2, none⟩ u2).setCell ⟨g, 3, none⟩ u3).heap[g]? = some (.cells #[u0, u1, u2, u3] t (0, 0)) := (blk_put (cs := #[u0, u1, u2, c3]) (blk_put (cs := #[u0, u1, c2, c3]) (blk_put (cs := #[u0, c1, c2, c3]) (blk_put (cs := #[c0, c1, c2, c3]) h 0 u0 rfl) 1 u1 rfl) 2 u2 rfl) 3 u3 rfl)
end Go.Proofs.YtdajdpgnhjlbaaaDoorW.PrintWords
