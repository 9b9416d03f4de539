/- What this claim rests on, part 0: abstract values, walks of the code over them, what the functions come to; each under its theorem's own conditions. -/
import Derived.Below
import Derived.Calls
import Derived.Deep.Quiet
import Derived.Great.BuildSlice
import Derived.Laws.BitsLemmas
import Derived.Laws.Cells
import Derived.Laws.CopyRow
import Derived.Laws.Entries
import Derived.Laws.Tables
import Derived.Maps.AppendAt
set_option linter.unusedVariables false
set_option linter.unusedSimpArgs false
namespace Go.Proofs.Ytdcabfonjmeajaa.Abs
open Go.RowKit
theorem add_plain (g j : Nat) : (⟨g, 0, none⟩ : Addr).add j = ⟨g, j, none⟩ := by unfold Addr.add; split <;> simp_all
theorem add_at (g i j : Nat) : (⟨g, i, none⟩ : Addr).add j = ⟨g, i + j, none⟩ := by unfold Addr.add; split <;> simp_all
theorem add_add (a : Addr) (i j : Nat) : (a.add i).add j = a.add (i + j) := by
  unfold Addr.add
  by_cases h1 : i = 0 <;> by_cases h2 : j = 0 <;> simp [h1, h2, Nat.add_assoc]
/-- An abstract value: anything; a value that leads nowhere; a struct by its cells; results; a pointer to cells that stay; a slice whose rows stay; a function with what it holds; a pointer into a region; a slice whose row may be appended to; a slice of a region. -/
inductive AV where
  | any
  | imm (v : Value)
  | agg (l : List AV)
  | tup (l : List AV)
  | ptr (l : List AV)
  | sl (n sz : Nat) (row : Nat → List AV)
  | fn (f : FuncId) (l : List AV)
  | loc (i j k : Nat)
  | own (i n sz : Nat) (row : Nat → List AV)
  | msl (i : Nat)
/-- A region: gone; the free part of a row that may be appended to; rows that may be written. -/
inductive Reg where
  | dead
  | arr (e : TypeId) (sz n : Nat)
  | mat (n sz : Nat) (row : Nat → List AV)
abbrev View := Addr → Option Value
inductive Rep0 (V : View) : AV → Value → Prop
  | any (v : Value) : Rep0 V .any v
  | imm (v : Value) : Rep0 V (.imm v) v
  | agg (l : List AV) (vs : List Value) (hl : vs.length = l.length) (h1 : ∀ v ∈ vs, v.oneCell' = true) (h : ∀ (i : Nat) (a : AV) (v : Value), l[i]? = some a → vs[i]? = some v → Rep0 V a v) : Rep0 V (.agg l) (.agg vs.toArray)
  | tup (l : List AV) (vs : List Value) (hl : vs.length = l.length) (h : ∀ (i : Nat) (a : AV) (v : Value), l[i]? = some a → vs[i]? = some v → Rep0 V a v) : Rep0 V (.tup l) (.tuple vs.toArray)
  | ptr (l : List AV) (ad : Addr) (vs : List Value) (hl : vs.length = l.length) (h1 : ∀ v ∈ vs, v.oneCell' = true) (hc : ∀ (i : Nat) (v : Value), vs[i]? = some v → V (ad.add i) = some v) (h : ∀ (i : Nat) (a : AV) (v : Value), l[i]? = some a → vs[i]? = some v → Rep0 V a v) : Rep0 V (.ptr l) (.pointer (some ad))
  | sl (n sz : Nat) (row : Nat → List AV) (A : Option Addr) (c : Nat) (ad : Addr) (vs : Nat → List Value) (hn : n ≤ c) (hA : 0 < n → A = some ad) (hl : ∀ j, j < n → (row j).length = sz ∧ (vs j).length = sz) (h1 : ∀ j, j < n → ∀ v ∈ vs j, v.oneCell' = true)
      (hc : ∀ (j i : Nat) (v : Value), j < n → (vs j)[i]? = some v → V (ad.add (j * sz + i)) = some v) (h : ∀ (j i : Nat) (a : AV) (v : Value), j < n → (row j)[i]? = some a → (vs j)[i]? = some v → Rep0 V a v) : Rep0 V (.sl n sz row) (.slice A n c)
  | fn (f : FuncId) (l : List AV) (vs : List Value) (hl : vs.length = l.length) (h : ∀ (i : Nat) (a : AV) (v : Value), l[i]? = some a → vs[i]? = some v → Rep0 V a v) : Rep0 V (.fn f l) (.func (.func f) #[] vs.toArray)
def VLe (V V' : View) : Prop := ∀ ad v, V ad = some v → V' ad = some v
theorem VLe.refl (V : View) : VLe V V := fun _ _ h => h
theorem VLe.trans {a b c : View} (h : VLe a b) (k : VLe b c) : VLe a c := fun ad v hv => k ad v (h ad v hv)
theorem Rep0.mv {V V' : View} {a : AV} {v : Value} (h : Rep0 V a v) (hb : VLe V V') : Rep0 V' a v := by
  induction h with
  | any v => exact .any v
  | imm v => exact .imm v
  | agg l vs hl h1 _ ih => exact .agg l vs hl h1 ih
  | tup l vs hl _ ih => exact .tup l vs hl ih
  | ptr l ad vs hl h1 hc _ ih => exact .ptr l ad vs hl h1 (fun i v hv => hb _ _ (hc i v hv)) ih
  | sl n sz row A c ad vs hn hA hl h1 hc _ ih => exact .sl n sz row A c ad vs hn hA hl h1 (fun j i v hj hv => hb _ _ (hc j i v hj hv)) ih
  | fn f l vs hl _ ih => exact .fn f l vs hl ih
theorem Rep0.imm_inv {V : View} {v x : Value} (h : Rep0 V (.imm v) x) : x = v := by cases h; rfl
theorem Rep0.ptr_inv {V : View} {l : List AV} {x : Value} (h : Rep0 V (.ptr l) x) : ∃ (ad : Addr) (vs : List Value), x = .pointer (some ad) ∧ vs.length = l.length ∧ (∀ v ∈ vs, v.oneCell' = true) ∧ (∀ (i : Nat) (v : Value), vs[i]? = some v → V (ad.add i) = some v) ∧ ∀ (i : Nat) (a : AV) (v : Value), l[i]? = some a → vs[i]? = some v → Rep0 V a v := by
  cases h with | ptr _ ad vs hl h1 hc h => exact ⟨ad, vs, rfl, hl, h1, hc, h⟩
theorem Rep0.sl_inv {V : View} {n sz : Nat} {row : Nat → List AV} {x : Value} (h : Rep0 V (.sl n sz row) x) : ∃ (A : Option Addr) (c : Nat) (ad : Addr) (vs : Nat → List Value), x = .slice A n c ∧ n ≤ c ∧ (0 < n → A = some ad) ∧ (∀ j, j < n → (row j).length = sz ∧ (vs j).length = sz) ∧ (∀ j, j < n → ∀ v ∈ vs j, v.oneCell' = true) ∧
    (∀ (j i : Nat) (v : Value), j < n → (vs j)[i]? = some v → V (ad.add (j * sz + i)) = some v) ∧ ∀ (j i : Nat) (a : AV) (v : Value), j < n → (row j)[i]? = some a → (vs j)[i]? = some v → Rep0 V a v := by
  cases h with | sl _ _ _ A c ad vs hn hA hl h1 hc h => exact ⟨A, c, ad, vs, rfl, hn, hA, hl, h1, hc, h⟩
abbrev Bnd := Nat → Option Nat
inductive Rep (w : World) (V : View) (β : Bnd) (R : List Reg) : AV → Value → Prop
  | st {a : AV} {v : Value} (h : Rep0 V a v) : Rep w V β R a v
  | agg (l : List AV) (vs : List Value) (hl : vs.length = l.length) (h1 : ∀ v ∈ vs, v.oneCell' = true) (h : ∀ (i : Nat) (a : AV) (v : Value), l[i]? = some a → vs[i]? = some v → Rep w V β R a v) : Rep w V β R (.agg l) (.agg vs.toArray)
  | tup (l : List AV) (vs : List Value) (hl : vs.length = l.length) (h : ∀ (i : Nat) (a : AV) (v : Value), l[i]? = some a → vs[i]? = some v → Rep w V β R a v) : Rep w V β R (.tup l) (.tuple vs.toArray)
  | fn (f : FuncId) (l : List AV) (vs : List Value) (hl : vs.length = l.length) (h : ∀ (i : Nat) (a : AV) (v : Value), l[i]? = some a → vs[i]? = some v → Rep w V β R a v) : Rep w V β R (.fn f l) (.func (.func f) #[] vs.toArray)
  | loc (i j k : Nat) (v : Value) (hi : i < R.length) (hp : v.oneCell' = true) (h : ∀ n sz row, R[i]? = some (.mat n sz row) → ∃ b, β i = some b ∧ v = .pointer (some ⟨b, j * sz + k, none⟩)) : Rep w V β R (.loc i j k) v
  | own (i n sz : Nat) (row : Nat → List AV) (v : Value) (hi : i < R.length) (h0 : Rep0 V (.sl n sz row) v) (h : ∀ e sz' n', R[i]? = some (.arr e sz' n') → sz' = sz ∧ n' = n ∧ v.ownBlock = β i ∧ ∃ xs, w.ownsRow 0 e sz v n xs) : Rep w V β R (.own i n sz row) v
  | msl (i : Nat) (v : Value) (hi : i < R.length) (hp : v.oneCell' = true) (h : ∀ n sz row, R[i]? = some (.mat n sz row) → ∃ b c, β i = some b ∧ v = .slice (some ⟨b, 0, none⟩) n c ∧ n ≤ c) : Rep w V β R (.msl i) v
/-- What follows of one world, view and list of regions for the next one. -/
structure Ext (w : World) (V : View) (β : Bnd) (R : List Reg) (w' : World) (V' : View) (β' : Bnd) (R' : List Reg) : Prop where
  hV : VLe V V'
  len : R.length ≤ R'.length
  arr : ∀ i e sz n, i < R.length → R'[i]? = some (.arr e sz n) → R[i]? = some (.arr e sz n) ∧ β' i = β i ∧ ∀ b, β i = some b → w'.heap[b]? = w.heap[b]?
  mat : ∀ i n sz row, i < R.length → R'[i]? = some (.mat n sz row) → β' i = β i ∧ ∃ row0, R[i]? = some (.mat n sz row0)
section
variable {w w' : World} {V V' : View} {β β' : Bnd} {R R' : List Reg}
theorem ownsRow_same {base : Nat} {e : TypeId} {sz : Nat} {v : Value} {n : Nat} {xs : List Value} (h : w.ownsRow base e sz v n xs) (hb : ∀ b, v.ownBlock = some b → w'.heap[b]? = w.heap[b]?) : w'.ownsRow base e sz v n xs := by
  refine ⟨h.1, ?_⟩
  rcases h.2 with h | ⟨g, cap, cur, rfl, h1, h2, h3⟩
  · exact .inl h
  · exact .inr ⟨g, cap, cur, rfl, h1, (hb g rfl).trans h2, h3⟩
theorem Rep.ext {a : AV} {v : Value} (h : Rep w V β R a v) (x : Ext w V β R w' V' β' R') : Rep w' V' β' R' a v := by
  induction h with
  | st h => exact .st (h.mv x.hV)
  | agg l vs hl h1 _ ih => exact .agg l vs hl h1 ih
  | tup l vs hl _ ih => exact .tup l vs hl ih
  | fn f l vs hl _ ih => exact .fn f l vs hl ih
  | loc i j k v hi hp h =>
    refine .loc i j k v (Nat.lt_of_lt_of_le hi x.len) hp (fun n sz row hr => ?_)
    obtain ⟨hb, row0, hr0⟩ := x.mat i n sz row hi hr
    rw [hb]
    exact h n sz row0 hr0
  | own i n sz row v hi h0 h =>
    refine .own i n sz row v (Nat.lt_of_lt_of_le hi x.len) (h0.mv x.hV) (fun e sz' n' hr => ?_)
    obtain ⟨hr0, hb, hs⟩ := x.arr i e sz' n' hi hr
    obtain ⟨h1, h2, h3, xs, h4⟩ := h e sz' n' hr0
    exact ⟨h1, h2, h3.trans hb.symm, xs, ownsRow_same h4 (fun b hb2 => hs b (h3 ▸ hb2))⟩
  | msl i v hi hp h =>
    refine .msl i v (Nat.lt_of_lt_of_le hi x.len) hp (fun n sz row hr => ?_)
    obtain ⟨hb, row0, hr0⟩ := x.mat i n sz row hi hr
    rw [hb]
    exact h n sz row0 hr0
theorem Rep.imm_inv {v x : Value} (h : Rep w V β R (.imm v) x) : x = v := by cases h with | st h => exact h.imm_inv
theorem Rep.agg_inv {l : List AV} {x : Value} (h : Rep w V β R (.agg l) x) : ∃ vs : List Value, x = .agg vs.toArray ∧ vs.length = l.length ∧ (∀ v ∈ vs, v.oneCell' = true) ∧ ∀ (i : Nat) (a : AV) (v : Value), l[i]? = some a → vs[i]? = some v → Rep w V β R a v := by
  cases h with
  | st h => cases h with | agg _ vs hl h1 h => exact ⟨vs, rfl, hl, h1, fun i a v p q => .st (h i a v p q)⟩
  | agg _ vs hl h1 h => exact ⟨vs, rfl, hl, h1, h⟩
theorem Rep.tup_inv {l : List AV} {x : Value} (h : Rep w V β R (.tup l) x) : ∃ vs : List Value, x = .tuple vs.toArray ∧ vs.length = l.length ∧ ∀ (i : Nat) (a : AV) (v : Value), l[i]? = some a → vs[i]? = some v → Rep w V β R a v := by
  cases h with
  | st h => cases h with | tup _ vs hl h => exact ⟨vs, rfl, hl, fun i a v p q => .st (h i a v p q)⟩
  | tup _ vs hl h => exact ⟨vs, rfl, hl, h⟩
theorem Rep.fn_inv {f : FuncId} {l : List AV} {x : Value} (h : Rep w V β R (.fn f l) x) : ∃ vs : List Value, x = .func (.func f) #[] vs.toArray ∧ vs.length = l.length ∧ ∀ (i : Nat) (a : AV) (v : Value), l[i]? = some a → vs[i]? = some v → Rep w V β R a v := by
  cases h with
  | st h => cases h with | fn _ _ vs hl h => exact ⟨vs, rfl, hl, fun i a v p q => .st (h i a v p q)⟩
  | fn _ _ vs hl h => exact ⟨vs, rfl, hl, h⟩
theorem Rep.ptr_inv {l : List AV} {x : Value} (h : Rep w V β R (.ptr l) x) : Rep0 V (.ptr l) x := by cases h with | st h => exact h
theorem Rep.sl_inv {n sz : Nat} {row : Nat → List AV} {x : Value} (h : Rep w V β R (.sl n sz row) x) : Rep0 V (.sl n sz row) x := by cases h with | st h => exact h
theorem Rep.own_inv {i n sz : Nat} {row : Nat → List AV} {x : Value} (h : Rep w V β R (.own i n sz row) x) : i < R.length ∧ Rep0 V (.sl n sz row) x ∧ ∀ e sz' n', R[i]? = some (.arr e sz' n') → sz' = sz ∧ n' = n ∧ x.ownBlock = β i ∧ ∃ xs, w.ownsRow 0 e sz x n xs := by
  cases h with
  | st h => cases h
  | own _ _ _ _ _ hi h0 h => exact ⟨hi, h0, h⟩
theorem Rep.loc_inv {i j k : Nat} {x : Value} (h : Rep w V β R (.loc i j k) x) : i < R.length ∧ x.oneCell' = true ∧ ∀ n sz row, R[i]? = some (.mat n sz row) → ∃ b, β i = some b ∧ x = .pointer (some ⟨b, j * sz + k, none⟩) := by
  cases h with
  | st h => cases h
  | loc _ _ _ _ hi hp h => exact ⟨hi, hp, h⟩
theorem Rep.msl_inv {i : Nat} {x : Value} (h : Rep w V β R (.msl i) x) : i < R.length ∧ x.oneCell' = true ∧ ∀ n sz row, R[i]? = some (.mat n sz row) → ∃ b c, β i = some b ∧ x = .slice (some ⟨b, 0, none⟩) n c ∧ n ≤ c := by
  cases h with
  | st h => cases h
  | msl _ _ hi hp h => exact ⟨hi, hp, h⟩
end
/-- What is left of a value when no region is looked at. -/
def strip : AV → AV
  | .own _ n sz row => .sl n sz row
  | .loc _ _ _ => .any
  | .msl _ => .any
  | .agg l => .agg (stripL l)
  | .tup l => .tup (stripL l)
  | .fn f l => .fn f (stripL l)
  | .any => .any
  | .imm v => .imm v
  | .ptr l => .ptr l
  | .sl n sz row => .sl n sz row
where stripL : List AV → List AV
  | [] => []
  | a :: l => strip a :: stripL l
theorem stripL_map : ∀ l : List AV, strip.stripL l = l.map strip
  | [] => rfl
  | a :: l => by rw [strip.stripL, stripL_map l]; rfl
section
variable {w w' : World} {V V' : View} {β β' : Bnd} {R R' : List Reg}
theorem Rep.strip {a : AV} {v : Value} (h : Rep w V β R a v) : Rep0 V (strip a) v := by
  have go : ∀ {l : List AV} {vs : List Value}, (∀ (i : Nat) (a : AV) (v : Value), l[i]? = some a → vs[i]? = some v → Rep0 V (Abs.strip a) v) → ∀ (i : Nat) (a : AV) (v : Value), (strip.stripL l)[i]? = some a → vs[i]? = some v → Rep0 V a v := by
    intro l vs h i a v h1 h2
    rw [stripL_map, List.getElem?_map] at h1
    obtain ⟨b, hb, rfl⟩ := Option.map_eq_some_iff.1 h1
    exact h i b v hb h2
  have lenS : ∀ l : List AV, (strip.stripL l).length = l.length := fun l => by rw [stripL_map, List.length_map]
  induction h with
  | st h =>
    induction h with
    | any v => exact .any v
    | imm v => exact .imm v
    | agg l vs hl h1 _ ih => exact .agg _ vs (by rw [lenS, hl]) h1 (go ih)
    | tup l vs hl _ ih => exact .tup _ vs (by rw [lenS, hl]) (go ih)
    | ptr l ad vs hl h1 hc h _ => exact .ptr l ad vs hl h1 hc h
    | sl n sz row A c ad vs hn hA hl h1 hc h _ => exact .sl n sz row A c ad vs hn hA hl h1 hc h
    | fn f l vs hl _ ih => exact .fn f _ vs (by rw [lenS, hl]) (go ih)
  | agg l vs hl h1 _ ih => exact .agg _ vs (by rw [lenS, hl]) h1 (go ih)
  | tup l vs hl _ ih => exact .tup _ vs (by rw [lenS, hl]) (go ih)
  | fn f l vs hl _ ih => exact .fn f _ vs (by rw [lenS, hl]) (go ih)
  | loc i j k v hi hp h => exact .any v
  | own i n sz row v hi h0 h => exact h0
  | msl i v hi hp h => exact .any v
end
end Go.Proofs.Ytdcabfonjmeajaa.Abs
set_option linter.unusedVariables false
set_option linter.unusedSimpArgs false
namespace Go.Proofs.Ytdcabfonjmeajaa.Abs
open Go.RowKit
/-- Of what was there at the call's beginning nothing has turned but the blocks X. -/
structure BelX (X : Nat → Prop) (w w' : World) : Prop where
  os : w'.os = w.os
  tape : w'.tape = w.tape
  output : w'.output = w.output
  size : w.heap.size ≤ w'.heap.size
  block : ∀ k, k < w.heap.size → ¬ X k → w'.heap[k]? = w.heap[k]?
theorem BelX.refl (X : Nat → Prop) (w : World) : BelX X w w := ⟨rfl, rfl, rfl, Nat.le_refl _, fun _ _ _ => rfl⟩
theorem BelX.trans {X Y : Nat → Prop} {a b c : World} (h : BelX X a b) (k : BelX Y b c) (hy : ∀ i, Y i → X i ∨ a.heap.size ≤ i) : BelX X a c :=
  ⟨k.os.trans h.os, k.tape.trans h.tape, k.output.trans h.output, Nat.le_trans h.size k.size, fun i hi hx => (k.block i (Nat.lt_of_lt_of_le hi h.size) (fun hy' => (hy i hy').elim hx (fun h2 => by omega))).trans (h.block i hi hx)⟩
theorem BelX.below {w w' : World} (h : BelX (fun _ => False) w w') : Below w.heap.size w w' := ⟨h.os, h.tape, h.output, h.size, fun k hk => h.block k hk (fun f => f)⟩
def Reg.live (R : List Reg) (i : Nat) : Prop := (∃ e sz n, R[i]? = some (.arr e sz n)) ∨ ∃ n sz row, R[i]? = some (.mat n sz row)
structure RegsOK (Bd : Nat → Prop) (w : World) (V : View) (β : Bnd) (R : List Reg) : Prop where
  dis : ∀ i j b, Reg.live R i → Reg.live R j → β i = some b → β j = some b → i = j
  arr : ∀ i e sz n, R[i]? = some (.arr e sz n) → ∀ b, β i = some b → Bd b ∧ b < w.heap.size ∧ ∀ ad : Addr, ad.block = b → n * sz ≤ ad.off → V ad = none
  mat : ∀ i n sz row, R[i]? = some (.mat n sz row) → ∃ (b : Nat) (vs : Array Value) (e : TypeId), β i = some b ∧ Bd b ∧ w.heap[b]? = some (.cells vs e (0, 0)) ∧ n * sz ≤ vs.size ∧ (∀ ad : Addr, ad.block = b → V ad = none) ∧
    ∀ j, j < n → (row j).length = sz ∧ ∀ k a, (row j)[k]? = some a → ∃ v, vs[j * sz + k]? = some v ∧ v.oneCell' = true ∧ Rep w V β R a v
/-- How a call began: its world, the blocks that it may turn, its view; how many regions it was given, and their blocks. -/
structure Ent where
  w0 : World
  X : Nat → Prop
  V0 : View
  m : Nat := 0
  pin : Bnd := fun _ => none
/-- What is known all the way of the world and the view. -/
structure Wld (E : Ent) (w : World) (V : View) : Prop where
  bel : BelX E.X E.w0 w
  sub : ∀ ad v, V ad = some v → w.cell? ad = some v
  up : VLe E.V0 V
  new : ∀ ad v, V ad = some v → E.V0 ad = some v ∨ E.X ad.block ∨ E.w0.heap.size ≤ ad.block
abbrev Ent.bd (E : Ent) : Nat → Prop := fun b => E.X b ∨ E.w0.heap.size ≤ b
abbrev Fr := Nat → AV
def upd (fr : Fr) (d : Nat) (x : AV) : Fr := fun t => cond (Nat.beq t d) x (fr t)
theorem upd_eq (fr : Fr) (d : Nat) (x : AV) (t : Nat) : upd fr d x t = if t = d then x else fr t := by
  unfold upd
  by_cases h : t = d
  · rw [if_pos h, (Nat.beq_eq ▸ h : Nat.beq t d = true)]; rfl
  · rw [if_neg h, show Nat.beq t d = false from by rw [← Bool.not_eq_true, Nat.beq_eq]; exact h]; rfl
def none_ : Fr := fun _ => .any
structure FrOK (N : Nat) (w : World) (V : View) (β : Bnd) (R : List Reg) (fr : Fr) (a : Act) : Prop where
  size : a.tmps.size = N
  defers : a.defers = []
  rep : ∀ t, Rep w V β R (fr t) (a.tmps.getD t undef)
theorem FrOK.ext {N : Nat} {w w' : World} {V V' : View} {β β' : Bnd} {R R' : List Reg} {fr : Fr} {a : Act} (h : FrOK N w V β R fr a) (x : Ext w V β R w' V' β' R') : FrOK N w' V' β' R' fr a := ⟨h.size, h.defers, fun t => (h.rep t).ext x⟩
def updO (fr : Fr) : Option Tmp → AV → Fr
  | some d, x => upd fr d x
  | none, _ => fr
def dstOK (N : Nat) : Option Tmp → Bool
  | some d => Nat.blt d N
  | none => true
section
variable {N : Nat} {w : World} {V : View} {β : Bnd} {R : List Reg} {fr : Fr} {a : Act}
theorem FrOK.put (h : FrOK N w V β R fr a) {d : Option Tmp} (hd : dstOK N d = true) {x : AV} {v : Value} (hr : Rep w V β R x v) : FrOK N w V β R (updO fr d x) (a.put d v) := by
  cases d with
  | none => exact h
  | some d =>
    have hd : d < N := by simpa [dstOK, Nat.blt_eq] using hd
    refine ⟨by simp [Act.put, h.size], by simp [Act.put, h.defers], fun t => ?_⟩
    have hs : d < a.tmps.size := by rw [h.size]; exact hd
    show Rep w V β R (upd fr d x t) ((a.tmps.setIfInBounds d v).getD t undef)
    rw [upd_eq]
    by_cases e : t = d
    · subst e
      rw [if_pos rfl]
      have : (a.tmps.setIfInBounds t v).getD t undef = v := by simp [Array.getD, hs]
      rw [this]; exact hr
    · rw [if_neg e]
      have : (a.tmps.setIfInBounds d v).getD t undef = a.tmps.getD t undef := by
        simp only [Array.getD_eq_getD_getElem?]
        rw [Array.getElem?_setIfInBounds_ne (fun e2 => e e2.symm)]
      rw [this]; exact h.rep t
end
/-- What stands for package-level variables. -/
abbrev Glo := Nat → AV
def look (G : Glo) (fr : Fr) : Operand → AV
  | .tmp t => fr t
  | .const v => .imm v
  | .global g => G g
  | .func f => .fn f []
def GloOK (G : Glo) (V : View) : Prop := ∀ g, Rep0 V (G g) (.pointer (some ⟨g, 0, none⟩))
theorem GloOK.mv {G : Glo} {V V' : View} (h : GloOK G V) (x : VLe V V') : GloOK G V' := fun g => (h g).mv x
/-- The regions that were given lie where they lay, as long as they are there. -/
def PinOK (E : Ent) (β : Bnd) (R : List Reg) : Prop := E.m ≤ R.length ∧ ∀ i b, E.pin i = some b → i < E.m ∧ (Reg.live R i → β i = some b)
theorem PinOK.next {E : Ent} {β β' : Bnd} {R R' : List Reg} (h : PinOK E β R) (hl : R.length ≤ R'.length) (hv : ∀ i, i < R.length → Reg.live R' i → Reg.live R i) (hb : ∀ i, i < R.length → β' i = β i) : PinOK E β' R' :=
  ⟨Nat.le_trans h.1 hl, fun i b hp => ⟨(h.2 i b hp).1, fun hi => by
    have hlt : i < R.length := Nat.lt_of_lt_of_le (h.2 i b hp).1 h.1
    rw [hb i hlt]
    exact (h.2 i b hp).2 (hv i hlt hi)⟩⟩
theorem live_snoc {R : List Reg} {r : Reg} {i : Nat} (hi : i < R.length) (h : Reg.live (R ++ [r]) i) : Reg.live R i := by
  rcases h with ⟨e, sz, n, h⟩ | ⟨n, sz, row, h⟩
  · rw [List.getElem?_append_left hi] at h; exact .inl ⟨e, sz, n, h⟩
  · rw [List.getElem?_append_left hi] at h; exact .inr ⟨n, sz, row, h⟩
/-- All that is known while a call runs. -/
structure Fits (G : Glo) (E : Ent) (N : Nat) (w : World) (V : View) (β : Bnd) (R : List Reg) (fr : Fr) (a : Act) : Prop where
  wld : Wld E w V
  glo : GloOK G V
  reg : RegsOK E.bd w V β R
  frm : FrOK N w V β R fr a
  pin : PinOK E β R
section
variable {G : Glo} {E : Ent} {N : Nat} {w w' : World} {V V' : View} {β β' : Bnd} {R R' : List Reg} {fr : Fr} {a : Act}
theorem look_rep (h : Fits G E N w V β R fr a) (x : Operand) : Rep w V β R (look G fr x) (a.eval x) := by
  cases x with
  | tmp t => exact h.frm.rep t
  | const v => exact .st (.imm v)
  | global g => exact .st (h.glo g)
  | func f => exact .st (.fn f [] [] rfl (fun i a v h => by simp at h))
theorem Fits.put (h : Fits G E N w V β R fr a) {d : Option Tmp} (hd : dstOK N d = true) {x : AV} {v : Value} (hr : Rep w V β R x v) : Fits G E N w V β R (updO fr d x) (a.put d v) := ⟨h.wld, h.glo, h.reg, h.frm.put hd hr, h.pin⟩
/-- Another world in which nothing that was there has turned, and a view that shows no old cell more. -/
structure Grow (w : World) (V : View) (w' : World) (V' : View) : Prop where
  bel : BelX (fun _ => False) w w'
  up : VLe V V'
  sub : ∀ ad v, V' ad = some v → w'.cell? ad = some v
  new : ∀ ad v, V' ad = some v → V ad = some v ∨ w.heap.size ≤ ad.block
theorem Grow.ext (g : Grow w V w' V') (h : RegsOK E.bd w V β R) : Ext w V β R w' V' β R :=
  ⟨g.up, Nat.le_refl _, fun i e sz n _ hr => ⟨hr, rfl, fun b hb => g.bel.block b (h.arr i e sz n hr b hb).2.1 (fun f => f)⟩, fun i n sz row _ hr => ⟨rfl, row, hr⟩⟩
theorem Grow.wld (g : Grow w V w' V') (h : Wld E w V) : Wld E w' V' :=
  ⟨h.bel.trans g.bel (fun _ f => f.elim), g.sub, h.up.trans g.up, fun ad v hv => (g.new ad v hv).elim (h.new ad v) (fun h2 => .inr (.inr (Nat.le_trans h.bel.size h2)))⟩
theorem hid_of_grow {b : Nat} (g : Grow w V w' V') (hb : b < w.heap.size) {ad : Addr} (he : ad.block = b) (h : V ad = none) : V' ad = none := by
  cases hv : V' ad with
  | none => rfl
  | some v =>
    rcases g.new ad v hv with h2 | h2
    · rw [h] at h2; cases h2
    · omega
theorem blk_lt {w : World} {b : Nat} {o : Obj} (h : w.heap[b]? = some o) : b < w.heap.size := (Array.getElem?_eq_some_iff.1 h).1
theorem Grow.reg (g : Grow w V w' V') (h : RegsOK E.bd w V β R) : RegsOK E.bd w' V' β R := by
  refine ⟨h.dis, fun i e sz n hr b hb => ?_, fun i n sz row hr => ?_⟩
  · obtain ⟨h1, h2, h3⟩ := h.arr i e sz n hr b hb
    exact ⟨h1, Nat.lt_of_lt_of_le h2 g.bel.size, fun ad he ho => hid_of_grow g h2 he (h3 ad he ho)⟩
  · obtain ⟨b, vs, e, h1, h2, h3, h4, h5, h6⟩ := h.mat i n sz row hr
    have hlt := blk_lt h3
    refine ⟨b, vs, e, h1, h2, (g.bel.block b hlt (fun f => f)).trans h3, h4, fun ad he => hid_of_grow g hlt he (h5 ad he), fun j hj => ⟨(h6 j hj).1, fun k a ha => ?_⟩⟩
    obtain ⟨v, p1, p2, p3⟩ := (h6 j hj).2 k a ha
    exact ⟨v, p1, p2, p3.ext (g.ext h)⟩
theorem Fits.grow (h : Fits G E N w V β R fr a) (g : Grow w V w' V') : Fits G E N w' V' β R fr a := ⟨g.wld h.wld, h.glo.mv g.up, g.reg h.reg, h.frm.ext (g.ext h.reg), h.pin⟩
theorem Grow.refl (h : ∀ ad v, V ad = some v → w.cell? ad = some v) : Grow w V w V := ⟨.refl _ _, .refl _, h, fun _ _ h => .inl h⟩
theorem Fits.drawn (h : Fits G E N w V β R fr a) (n : Nat) : Fits G E N { w with drawn := n } V β R fr a :=
  h.grow ⟨⟨rfl, rfl, rfl, Nat.le_refl _, fun _ _ _ => rfl⟩, .refl _, h.wld.sub, fun _ _ h => .inl h⟩
end
end Go.Proofs.Ytdcabfonjmeajaa.Abs
set_option linter.unusedVariables false
set_option linter.unusedSimpArgs false
namespace Go.Proofs.Ytdcabfonjmeajaa.Abs
open Go.RowKit
/-- What is asked of a type: is it a struct; its cells; its fields' places and sizes; its element's type, cells and bytes, if it is a slice; its kind, if it is one of integers; is it that of strings; is it that of bools; its fields' kinds (0 whole numbers, 1 strings, 2 bools), if its values are compared; the cells of its zero. -/
structure TI where
  agg : Bool := false
  size : Nat := 1
  offs : List Nat := []
  fsz : List Nat := []
  el : TypeId := 0
  elem : Nat := 0
  eby : Nat := 0
  kind : Option IntKind := none
  str : Bool := false
  bol : Bool := false
  eqk : List Nat := []
  zero : List Value := []
def veq : Value → Value → Bool
  | .bool a, .bool b => a == b
  | .int j a, .int k b => decide (j = k) && a == b
  | .string a, .string b => a.data.toList == b.data.toList
  | .pointer none, .pointer none => true
  | .slice none 0 0, .slice none 0 0 => true
  | .map none, .map none => true
  | .nilFunc, .nilFunc => true
  | .nilIface, .nilIface => true
  | _, _ => false
theorem data_inj {a b : ByteArray} (h : a.data.toList = b.data.toList) : a = b := by
  cases a; cases b
  exact congrArg ByteArray.mk (Array.toList_inj.1 h)
theorem veq_eq {a b : Value} (h : veq a b = true) : a = b := by
  unfold veq at h
  split at h
  · rename_i x y; rw [show x = y from by simpa using h]
  · simp only [Bool.and_eq_true, decide_eq_true_eq, beq_iff_eq] at h; rw [h.1, h.2]
  · rename_i x y; rw [data_inj (a := x) (b := y) (by simpa using h)]
  all_goals first | rfl | cases h
def veqL : List Value → List Value → Bool
  | [], [] => true
  | a :: l, b :: r => veq a b && veqL l r
  | _, _ => false
theorem veqL_eq : ∀ {l r : List Value}, veqL l r = true → l = r
  | [], [], _ => rfl
  | a :: l, b :: r, h => by
    simp only [veqL, Bool.and_eq_true] at h
    rw [veq_eq h.1, veqL_eq h.2]
  | [], _ :: _, h => by simp [veqL] at h
  | _ :: _, [], h => by simp [veqL] at h
theorem veq_one {a b : Value} (h : veq a b = true) : b.oneCell' = true := by
  unfold veq at h
  split at h <;> first | rfl | cases h
theorem veqL_one : ∀ {l r : List Value}, veqL l r = true → ∀ v ∈ r, v.oneCell' = true
  | [], [], _, v, hv => by simp at hv
  | a :: l, b :: r, h, v, hv => by
    simp only [veqL, Bool.and_eq_true] at h
    rcases List.mem_cons.1 hv with rfl | hv
    · exact veq_one h.1
    · exact veqL_one h.2 v hv
  | [], _ :: _, h, v, hv => by simp [veqL] at h
  | _ :: _, [], h, v, hv => by simp [veqL] at h
def sizeB (P : Program) (t : TypeId) (n : Nat) : Bool := (P.info? t).map (·.size) == some n
def elB (P : Program) (e : TypeId) (n b : Nat) : Bool := match P.info? e with
  | some i => decide (0 < n) && i.size == n && i.bytes == b && (match i.zero with | some z => z.cells.size == n && z.cells.toList.all (·.oneCell') | none => false)
  | none => false
def bolB (P : Program) (t : TypeId) (i : TI) : Bool := match P.underlying t with
  | some .bool => true
  | _ => !i.bol
def eqkB (P : Program) : Nat → List Field → List Nat → Bool
  | _, [], [] => true
  | o, f :: fs, k :: ks => (f.name != "_") && (f.offset == o) && (match P.underlying f.type with
    | some (.int _) => k == 0
    | some .string => k == 1
    | some .bool => k == 2
    | _ => false) && eqkB P (o + 1) fs ks
  | _, _, _ => false
def eqB (P : Program) (t : TypeId) (ks : List Nat) : Bool := match ks with
  | [] => true
  | _ => !P.stoodInHeld t && !P.eqGuardType P.depth t && match P.underlying t with
    | some (.struct fs) => eqkB P 0 fs.toList ks
    | _ => false
def tyB1 (P : Program) (t : TypeId) (i : TI) : Bool :=
  (sizeB P t i.size && (bolB P t i && eqB P t i.eqk)) && (match i.zero with | [] => true | l => match (P.info? t).bind (·.zero) with | some z => veqL z.cells.toList l | none => false) &&
  match P.underlying t with
  | some .string => !i.agg && i.elem == 0 && i.kind == none
  | _ => !i.str && match P.underlying t with
  | some (.struct fs) => i.agg && i.elem == 0 && i.kind == none && sizeB P t i.size && fs.toList.map (·.offset) == i.offs && fs.toList.all (fun f => match (P.info? f.type).map (·.size) with | some (_ + 1) => true | _ => false) && fs.toList.map (fun f => (P.info? f.type).map (·.size)) == i.fsz.map some
  | some (.slice e) => !i.agg && i.kind == none && e == i.el && elB P e i.elem i.eby
  | some (.int k) => !i.agg && i.elem == 0 && (i.kind == none || i.kind == some k)
  | some .bool => !i.agg && i.elem == 0 && i.kind == none
  | some (.pointer _) => !i.agg && i.elem == 0 && i.kind == none
  | some (.map _ _) => !i.agg && i.elem == 0 && i.kind == none
  | some (.func _ _ _) => !i.agg && i.elem == 0 && i.kind == none
  | some (.interface _) => !i.agg && i.elem == 0 && i.kind == none
  | _ => false
abbrev Tys := List (Nat × TI)
def ty (tys : Tys) (t : Nat) : Option TI := match tys with
  | [] => none
  | x :: l => cond (Nat.beq x.1 t) (some x.2) (ty l t)
def TyOK (P : Program) (tys : Tys) : Prop := ∀ t i, ty tys t = some i → tyB1 P t i = true
theorem TyOK.of {P : Program} : ∀ {tys : Tys}, tys.all (fun x => tyB1 P x.1 x.2) = true → TyOK P tys
  | [], _, t, i, h => by simp [ty] at h
  | x :: l, hA, t, i, h => by
    rw [List.all_cons, Bool.and_eq_true] at hA
    rw [ty] at h
    cases e : Nat.beq x.1 t with
    | true =>
      rw [e] at h
      have h1 : x.1 = t := Nat.eq_of_beq_eq_true e
      have h2 : x.2 = i := Option.some.inj h
      rw [← h1, ← h2]; exact hA.1
    | false => rw [e] at h; exact TyOK.of hA.2 t i h
def rowD : TypeDesc → Bool
  | .struct _ => true
  | .array _ _ => true
  | _ => false
section
variable {P : Program} {t : TypeId} {i : TI}
theorem sizeB_eq {n : Nat} (h : sizeB P t n = true) : (P.info? t).map (·.size) = some n := by simpa [sizeB] using h
theorem ty_rest (h : tyB1 P t i = true) : (match P.underlying t with
  | some .string => !i.agg && i.elem == 0 && i.kind == none
  | _ => !i.str && match P.underlying t with
  | some (.struct fs) => i.agg && i.elem == 0 && i.kind == none && sizeB P t i.size && fs.toList.map (·.offset) == i.offs && fs.toList.all (fun f => match (P.info? f.type).map (·.size) with | some (_ + 1) => true | _ => false) && fs.toList.map (fun f => (P.info? f.type).map (·.size)) == i.fsz.map some
  | some (.slice e) => !i.agg && i.kind == none && e == i.el && elB P e i.elem i.eby
  | some (.int k) => !i.agg && i.elem == 0 && (i.kind == none || i.kind == some k)
  | some .bool => !i.agg && i.elem == 0 && i.kind == none
  | some (.pointer _) => !i.agg && i.elem == 0 && i.kind == none
  | some (.map _ _) => !i.agg && i.elem == 0 && i.kind == none
  | some (.func _ _ _) => !i.agg && i.elem == 0 && i.kind == none
  | some (.interface _) => !i.agg && i.elem == 0 && i.kind == none
  | _ => false) = true := by
  unfold tyB1 at h
  exact (Bool.and_eq_true _ _ ▸ h).2
theorem ty_size (h : tyB1 P t i = true) : (P.info? t).map (·.size) = some i.size := by
  unfold tyB1 at h
  exact sizeB_eq (Bool.and_eq_true _ _ ▸ (Bool.and_eq_true _ _ ▸ (Bool.and_eq_true _ _ ▸ h).1).1).1
theorem ty_bool (h : tyB1 P t i = true) (hb : i.bol = true) : P.underlying t = some .bool := by
  unfold tyB1 at h
  have h := (Bool.and_eq_true _ _ ▸ (Bool.and_eq_true _ _ ▸ (Bool.and_eq_true _ _ ▸ (Bool.and_eq_true _ _ ▸ h).1).1).2).1
  unfold bolB at h
  split at h
  · assumption
  · rw [hb] at h; simp at h
theorem ty_eqk (h : tyB1 P t i = true) : eqB P t i.eqk = true := by
  unfold tyB1 at h
  exact (Bool.and_eq_true _ _ ▸ (Bool.and_eq_true _ _ ▸ (Bool.and_eq_true _ _ ▸ (Bool.and_eq_true _ _ ▸ h).1).1).2).2
theorem ty_zero (h : tyB1 P t i = true) (hz : i.zero ≠ []) : ∃ inf z, P.info? t = some inf ∧ inf.zero = some z ∧ z.cells.toList = i.zero ∧ ∀ v ∈ i.zero, v.oneCell' = true := by
  unfold tyB1 at h
  have h := (Bool.and_eq_true _ _ ▸ (Bool.and_eq_true _ _ ▸ h).1).2
  split at h
  · rename_i e; exact absurd e hz
  · split at h
    · rename_i z hb
      obtain ⟨inf, h1, h2⟩ := Option.bind_eq_some_iff.1 hb
      exact ⟨inf, z, h1, h2, veqL_eq h, veqL_one h⟩
    · cases h
theorem ty_agg (h : tyB1 P t i = true) (ha : i.agg = true) : ∃ fs, P.underlying t = some (.struct fs) ∧ (P.info? t).map (·.size) = some i.size ∧ fs.toList.map (·.offset) = i.offs ∧ (∀ f ∈ fs.toList, ∃ n, (P.info? f.type).map (·.size) = some (n + 1)) ∧ fs.toList.map (fun f => (P.info? f.type).map (·.size)) = i.fsz.map some := by
  have h := ty_rest h
  split at h
  · rw [ha] at h; simp at h
  rw [Bool.and_eq_true] at h
  replace h := h.2
  split at h
  · rename_i fs hu
    simp only [Bool.and_eq_true] at h
    obtain ⟨⟨⟨⟨⟨⟨h1, h2⟩, h3⟩, h4⟩, h5⟩, h6⟩, h8⟩ := h
    refine ⟨fs, hu, sizeB_eq h4, by simpa using h5, fun f hf => ?_, by simpa using h8⟩
    have h7 := List.all_eq_true.1 h6 f hf
    cases hs : (P.info? f.type).map (·.size) with
    | none => rw [hs] at h7; cases h7
    | some n =>
      cases n with
      | zero => rw [hs] at h7; cases h7
      | succ n => exact ⟨n, rfl⟩
  all_goals first | (rw [ha] at h; simp at h) | cases h
theorem ty_one (h : tyB1 P t i = true) (ha : i.agg = false) : ∃ d, P.underlying t = some d ∧ rowD d = false := by
  have h := ty_rest h
  split at h
  · rename_i hu; exact ⟨_, hu, rfl⟩
  rw [Bool.and_eq_true] at h
  replace h := h.2
  split at h
  · rw [ha] at h; simp at h
  all_goals first | (rename_i hu; exact ⟨_, hu, rfl⟩) | cases h
theorem ty_sl (h : tyB1 P t i = true) (he : 0 < i.elem) : ∃ inf z, P.underlying t = some (.slice i.el) ∧ P.info? i.el = some inf ∧ inf.size = i.elem ∧ inf.bytes = i.eby ∧ inf.zero = some z ∧ z.cells.size = i.elem ∧ ∀ v ∈ z.cells.toList, v.oneCell' = true := by
  have h := ty_rest h
  split at h
  · simp only [Bool.and_eq_true, beq_iff_eq] at h; omega
  rw [Bool.and_eq_true] at h
  replace h := h.2
  split at h
  · simp only [Bool.and_eq_true, beq_iff_eq] at h; omega
  · rename_i e hu
    simp only [Bool.and_eq_true, beq_iff_eq] at h
    obtain ⟨⟨_, rfl⟩, h2⟩ := h
    unfold elB at h2
    split at h2
    · rename_i inf hi
      simp only [Bool.and_eq_true, beq_iff_eq] at h2
      obtain ⟨⟨⟨_, h3⟩, h4⟩, h5⟩ := h2
      split at h5
      · rename_i z hz
        rw [Bool.and_eq_true] at h5
        exact ⟨inf, z, hu, hi, h3, h4, hz, by simpa using h5.1, fun v hv => List.all_eq_true.1 h5.2 v hv⟩
      · cases h5
    · cases h2
  all_goals first | (simp only [Bool.and_eq_true, beq_iff_eq] at h; omega) | cases h
theorem ty_str (h : tyB1 P t i = true) (hs : i.str = true) : P.underlying t = some .string := by
  have h := ty_rest h
  split at h
  · assumption
  · rw [hs] at h; simp at h
end
end Go.Proofs.Ytdcabfonjmeajaa.Abs
set_option linter.unusedVariables false
set_option linter.unusedSimpArgs false
namespace Go.Proofs.Ytdcabfonjmeajaa.Abs
open Go.RowKit
/-- A list of cells, each by its abstract value. -/
structure RepC (w : World) (V : View) (β : Bnd) (R : List Reg) (l : List AV) (vs : List Value) : Prop where
  len : vs.length = l.length
  one : ∀ v ∈ vs, v.oneCell' = true
  rep : ∀ (i : Nat) (a : AV) (v : Value), l[i]? = some a → vs[i]? = some v → Rep w V β R a v
/-- The cells of a value. -/
def cellsA : AV → Option (List AV)
  | .agg l => some l
  | .imm v => cond v.oneCell' (some [.imm v]) none
  | .any => none
  | .tup _ => none
  | a => some [a]
/-- A literal's cells: parts in their places over zeros. -/
def fillA (offs fsz : List Nat) : List AV → List (Nat × AV) → Option (List AV)
  | cells, [] => some cells
  | cells, (i, a) :: rest => match offs[i]? with
    | none => none
    | some o => match fsz[i]? with
      | none => none
      | some s => match cellsA a with
        | none => none
        | some l => match Nat.beq l.length s with
          | false => none
          | true => match Nat.ble (o + l.length) cells.length with
            | false => none
            | true => fillA offs fsz (cells.take o ++ (l ++ cells.drop (o + l.length))) rest
section
variable {w : World} {V : View} {β : Bnd} {R : List Reg}
theorem RepC.nil : RepC w V β R [] [] := ⟨rfl, fun v h => by simp at h, fun i a v h => by simp at h⟩
theorem RepC.cons {a : AV} {v : Value} {l : List AV} {vs : List Value} (h : Rep w V β R a v) (h1 : v.oneCell' = true) (t : RepC w V β R l vs) : RepC w V β R (a :: l) (v :: vs) :=
  ⟨by simp [t.len], fun u hu => (List.mem_cons.1 hu).elim (fun e => e ▸ h1) (t.one u), fun i a' v' p q => by
    cases i with
    | zero => simp at p q; subst p; subst q; exact h
    | succ i => exact t.rep i a' v' (by simpa using p) (by simpa using q)⟩
theorem RepC.append {l l' : List AV} {vs vs' : List Value} (h : RepC w V β R l vs) (t : RepC w V β R l' vs') : RepC w V β R (l ++ l') (vs ++ vs') :=
  ⟨by simp [h.len, t.len], fun u hu => (List.mem_append.1 hu).elim (h.one u) (t.one u), fun i a v p q => by
    by_cases hi : i < l.length
    · rw [List.getElem?_append_left hi] at p
      rw [List.getElem?_append_left (by rw [h.len]; exact hi)] at q
      exact h.rep i a v p q
    · rw [List.getElem?_append_right (by omega)] at p
      rw [List.getElem?_append_right (by rw [h.len]; omega), h.len] at q
      exact t.rep _ a v p q⟩
theorem RepC.take {l : List AV} {vs : List Value} (h : RepC w V β R l vs) (n : Nat) : RepC w V β R (l.take n) (vs.take n) :=
  ⟨by simp [h.len], fun u hu => h.one u (List.mem_of_mem_take hu), fun i a v p q => by
    rw [List.getElem?_take] at p q
    split at p
    · rename_i hi; rw [if_pos hi] at q; exact h.rep i a v p q
    · cases p⟩
theorem RepC.drop {l : List AV} {vs : List Value} (h : RepC w V β R l vs) (n : Nat) : RepC w V β R (l.drop n) (vs.drop n) :=
  ⟨by simp [h.len], fun u hu => h.one u (List.mem_of_mem_drop hu), fun i a v p q => h.rep (n + i) a v (by simpa using p) (by simpa using q)⟩
theorem RepC.agg {l : List AV} {vs : List Value} (h : RepC w V β R l vs) : Rep w V β R (.agg l) (.agg vs.toArray) := .agg l vs h.len h.one h.rep
theorem RepC.head {a : AV} {l : List AV} {vs : List Value} (h : RepC w V β R l vs) (e : l.head? = some a) : ∃ v t, vs = v :: t ∧ v.oneCell' = true ∧ Rep w V β R a v := by
  cases l with
  | nil => cases e
  | cons b l =>
    cases vs with
    | nil => have := h.len; simp at this
    | cons v t => exact ⟨v, t, rfl, h.one v (by simp), h.rep 0 a v (by simpa using e) rfl⟩
theorem one_of {a : AV} {l : List AV} {v : Value} (h : Rep w V β R a v) (hc : cellsA a = some l) : RepC w V β R l v.cells.toList := by
  have one : ∀ {v : Value}, v.oneCell' = true → (∀ cs, v ≠ .agg cs) ∧ v.cells.toList = [v] := fun {v} h => by cases v <;> simp_all [Value.oneCell', Value.cells]
  have mk : v.oneCell' = true → l = [a] → RepC w V β R l v.cells.toList := fun h1 h2 => by
    rw [h2, (one h1).2]
    exact RepC.cons h h1 RepC.nil
  cases a with
  | any => cases hc
  | tup l => cases hc
  | agg l' =>
    obtain ⟨vs, rfl, h1, h2, h3⟩ := h.agg_inv
    injection hc with hc; subst hc
    exact ⟨by simpa [Value.cells] using h1, by simpa [Value.cells] using h2, by simpa [Value.cells] using h3⟩
  | imm u =>
    obtain rfl := h.imm_inv
    have hc : cond v.oneCell' (some [AV.imm v]) none = some l := hc
    cases e : v.oneCell' with
    | true => rw [e] at hc; exact mk e (by injection hc with hc; exact hc.symm)
    | false => rw [e] at hc; cases hc
  | ptr l' => exact mk (by cases h.ptr_inv; rfl) (by injection hc with hc; exact hc.symm)
  | sl n sz row => exact mk (by cases h.sl_inv; rfl) (by injection hc with hc; exact hc.symm)
  | fn f l' => exact mk (by obtain ⟨vs, rfl, _⟩ := h.fn_inv; rfl) (by injection hc with hc; exact hc.symm)
  | loc i j k => exact mk h.loc_inv.2.1 (by injection hc with hc; exact hc.symm)
  | own i n sz row => exact mk (by cases h.own_inv.2.1; rfl) (by injection hc with hc; exact hc.symm)
  | msl i => exact mk h.msl_inv.2.1 (by injection hc with hc; exact hc.symm)
end
theorem foldl_set (off : Nat) : ∀ (vs : List Value) (i0 : Nat) (cells : Array Value), off + i0 + vs.length ≤ cells.size →
    ((vs.zipIdx i0).foldl (fun cs (p : Value × Nat) => cs.setIfInBounds (off + p.2) p.1) cells).toList = cells.toList.take (off + i0) ++ (vs ++ cells.toList.drop (off + i0 + vs.length))
  | [], i0, cells, h => by simp
  | v :: vs, i0, cells, h => by
    rw [List.length_cons] at h
    rw [List.zipIdx_cons, List.foldl_cons, foldl_set off vs (i0 + 1) _ (by rw [Array.size_setIfInBounds]; omega)]
    have hlt : off + i0 < cells.toList.length := by rw [Array.length_toList]; omega
    rw [Array.toList_setIfInBounds, List.set_eq_take_append_cons_drop, if_pos hlt]
    have h1 : (cells.toList.take (off + i0) ++ [v]).length = off + (i0 + 1) := by rw [List.length_append, List.length_take, List.length_singleton]; omega
    have e : cells.toList.take (off + i0) ++ v :: cells.toList.drop (off + i0 + 1) = (cells.toList.take (off + i0) ++ [v]) ++ cells.toList.drop (off + i0 + 1) := by simp
    show List.take (off + (i0 + 1)) (cells.toList.take (off + i0) ++ v :: cells.toList.drop (off + i0 + 1)) ++ _ = _
    rw [e, ← h1, List.take_left, List.drop_append, h1, List.drop_of_length_le (by rw [h1]; omega), List.drop_drop]
    simp only [List.nil_append, List.append_assoc, List.singleton_append, List.cons_append, List.length_cons]
    rw [show off + i0 + 1 + (off + (i0 + 1) + vs.length - (off + (i0 + 1))) = off + i0 + (vs.length + 1) by omega]
theorem fill_run {w : World} {V : View} {β : Bnd} {R : List Reg} {offs fsz : List Nat} {place : Nat → Option (Nat × Nat)} (hpl : ∀ (i o s : Nat), offs[i]? = some o → fsz[i]? = some s → place i = some (o, s)) :
    ∀ (ap : List (Nat × AV)) (parts : List (Nat × Value)) (l l' : List AV) (cs : Array Value), parts.length = ap.length → (∀ (j i : Nat) (a : AV), ap[j]? = some (i, a) → ∃ v, parts[j]? = some (i, v) ∧ Rep w V β R a v) →
      RepC w V β R l cs.toList → fillA offs fsz l ap = some l' → ∃ cs', Instr.fill place cs parts = some cs' ∧ RepC w V β R l' cs'.toList
  | [], parts, l, l', cs, hl, _, hc, hf => by
    obtain rfl : parts = [] := List.eq_nil_of_length_eq_zero hl
    injection hf with hf; subst hf
    exact ⟨cs, rfl, hc⟩
  | (i, a) :: ap, [], l, l', cs, hl, _, hc, hf => by simp at hl
  | (i, a) :: ap, (i', v) :: parts, l, l', cs, hl, hp, hc, hf => by
    obtain ⟨v', h1, hr⟩ := hp 0 i a rfl
    have h1' : (i', v) = (i, v') := Option.some.inj h1
    obtain ⟨rfl, rfl⟩ := Prod.mk.inj h1'
    unfold fillA at hf
    split at hf
    · cases hf
    rename_i o ho
    split at hf
    · cases hf
    rename_i s hs
    split at hf
    · cases hf
    rename_i l0 hl0
    split at hf
    · cases hf
    rename_i hsz
    split at hf
    · cases hf
    rename_i hle
    have hrc := one_of hr hl0
    have hn : v.cells.size = l0.length := by rw [← Array.length_toList, hrc.len]
    have e1 : l0.length = s := Nat.eq_of_beq_eq_true hsz
    have e2 := Nat.le_of_ble_eq_true hle
    have hcl := hc.len
    rw [Array.length_toList] at hcl
    unfold Instr.fill
    simp only [hpl i' o s ho hs]
    rw [if_neg (by simp; omega)]
    refine fill_run hpl ap parts _ l' _ (by simpa using hl) (fun j i a hj => hp (j + 1) i a hj) ?_ hf
    have e3 : (v.cells.zipIdx.foldl (fun cs (x : Value × Nat) => cs.setIfInBounds (o + x.2) x.1) cs).toList = cs.toList.take o ++ (v.cells.toList ++ cs.toList.drop (o + v.cells.toList.length)) := by
      have := foldl_set o v.cells.toList 0 cs (by rw [Array.length_toList]; omega)
      rw [← Array.foldl_toList, Array.toList_zipIdx]
      exact this
    show RepC w V β R _ (Array.toList (v.cells.zipIdx.foldl (fun cs (x : Value × Nat) => cs.setIfInBounds (o + x.2) x.1) cs))
    rw [e3, hrc.len]
    exact (hc.take o).append (hrc.append (hc.drop _))
end Go.Proofs.Ytdcabfonjmeajaa.Abs
set_option linter.unusedVariables false
set_option linter.unusedSimpArgs false
namespace Go.Proofs.Ytdcabfonjmeajaa.Abs
open Go.RowKit
/-- The same value, told by its kind. -/
def forceA : AV → Option AV
  | .any => some .any
  | .imm v => some (.imm v)
  | .agg l => some (.agg l)
  | .tup l => some (.tup l)
  | .ptr l => some (.ptr l)
  | .sl n sz row => some (.sl n sz row)
  | .fn f l => some (.fn f l)
  | .loc i j k => some (.loc i j k)
  | .own i n sz row => some (.own i n sz row)
  | .msl i => some (.msl i)
theorem forceA_eq {a x : AV} (h : forceA a = some x) : a = x := by cases a <;> exact Option.some.inj h
def loadA (l : List AV) (i : TI) : Option AV := match i.agg with
  | true => match Nat.ble i.size l.length with
    | true => some (.agg (l.take i.size))
    | false => none
  | false => match l with
    | [] => none
    | a :: _ => forceA a
/-- A row of a region. -/
def matR (R : List Reg) (r j : Nat) : Option (List AV) := match R[r]? with
  | some (.mat n _ row) => match Nat.blt j n with
    | true => some (row j)
    | false => none
  | _ => none
def opA (tys : Tys) (G : Glo) (fr : Fr) (R : List Reg) : Op → Option AV
  | .move x => forceA (look G fr x)
  | .assign x => forceA (look G fr x)
  | .pick c a b => match look G fr c with
    | .imm (.bool true) => forceA (look G fr a)
    | .imm (.bool false) => forceA (look G fr b)
    | _ => none
  | .load t p => match look G fr p with
    | .ptr l => match ty tys t with
      | some i => loadA l i
      | none => none
    | .loc r j k => match matR R r j with
      | some l => match ty tys t with
        | some i => loadA (l.drop k) i
        | none => none
      | none => none
    | _ => none
  | .fieldAddr s p f => match ty tys s with
    | some i => match i.agg with
      | true => match i.offs[f]? with
        | some n => match look G fr p with
          | .ptr l => some (.ptr (l.drop n))
          | .loc r j k => match matR R r j with
            | some _ => some (.loc r j (k + n))
            | none => none
          | _ => none
        | none => none
      | false => none
    | none => none
  | .extract x n => match look G fr x with
    | .tup l => match l[n]? with
      | some a => forceA a
      | none => none
    | _ => none
  | .unOp .not _ x => match look G fr x with
    | .imm (.bool b) => some (.imm (.bool (!b)))
    | _ => none
  | .binOp .add _ x y _ => match look G fr x with
    | .imm (.int .i64 a) => match look G fr y with
      | .imm (.int .i64 b) => some (.imm (.int .i64 (wrap64 (a + b))))
      | _ => none
    | _ => none
  | .binOp .sub _ x y _ => match look G fr x with
    | .imm (.int .i64 a) => match look G fr y with
      | .imm (.int .i64 b) => some (.imm (.int .i64 (wrap64 (a - b))))
      | _ => none
    | _ => none
  | .nilCheck x => match look G fr x with
    | .ptr l => some (.ptr l)
    | .loc r j k => match matR R r j with
      | some _ => some (.loc r j k)
      | none => none
    | .fn f l => some (.fn f l)
    | _ => none
  | .makeFunc (.func f) ⟨[]⟩ ⟨cs⟩ => some (.fn f (cs.map (look G fr)))
  | .build t ⟨parts⟩ => match ty tys t with
    | some i => match i.agg with
      | true => match Nat.beq i.zero.length i.size with
        | true => match i.zero with
          | [] => none
          | z :: zs => match fillA i.offs i.fsz ((z :: zs).map .imm) (parts.map (fun p => (p.1, look G fr p.2))) with
            | some l => some (.agg l)
            | none => none
        | false => none
      | false => none
    | none => none
  | .call ⟨.builtin .len, ⟨[x]⟩, ⟨[t]⟩⟩ => match ty tys t with
    | some i => match i.str with
      | true => match look G fr x with
        | .imm (.string s) => some (.imm (.int .i64 s.size))
        | _ => none
      | false => match i.elem with
        | 0 => none
        | _ + 1 => match look G fr x with
          | .sl n _ _ => some (.imm (.int .i64 n))
          | .own _ n _ _ => some (.imm (.int .i64 n))
          | .imm (.slice none 0 0) => some (.imm (.int .i64 (0 : Nat)))
          | .msl r => match R[r]? with
            | some (.mat n _ _) => some (.imm (.int .i64 n))
            | _ => none
          | _ => none
    | none => none
  | _ => none
section
variable {P : Program} {tys : Tys} {G : Glo} {E : Ent} {N : Nat} {w : World} {V : View} {β : Bnd} {R : List Reg} {fr : Fr} {a : Act}
theorem matR_some {r j : Nat} {l : List AV} (h : matR R r j = some l) : ∃ n sz row, R[r]? = some (.mat n sz row) ∧ j < n ∧ l = row j := by
  unfold matR at h
  split at h
  · rename_i n sz row hr
    split at h
    · rename_i hb
      exact ⟨n, sz, row, hr, by simpa [Nat.blt_eq] using hb, (Option.some.inj h).symm⟩
    · cases h
  · cases h
theorem run_load_one {t : TypeId} {d : TypeDesc} (hu : P.underlying t = some d) (hd : rowD d = false) {ad : Addr} {v : Value} {w' : World} (hc : w'.cell? ad = some v) : (Instr.loadAt t (.pointer (some ad))).run P w' = .ok v w' := by
  cases d <;> simp_all [rowD, Instr.loadAt, Instr.sureAddr, loadVar, isAgg, run_underlying hu, load, Sem.run]
theorem run_load_agg {t : TypeId} {fs : Array Field} (hu : P.underlying t = some (.struct fs)) {n : Nat} (hn : (P.info? t).map (·.size) = some n) {ad : Addr} {vs : List Value} (hl : vs.length = n) {w' : World} (hc : ∀ i v, vs[i]? = some v → w'.cell? (ad.add i) = some v) :
    (Instr.loadAt t (.pointer (some ad))).run P w' = .ok (.agg vs.toArray) w' := by
  obtain ⟨i, hi, hs⟩ := Option.map_eq_some_iff.1 hn
  have h := run_loadCells_list (P := P) w' ad vs (fun j v hv => hc j v hv)
  simp [Instr.loadAt, Instr.sureAddr, loadVar, isAgg, run_underlying hu, sizeOf, typeInfo, hi, hs, ← hl, h]
theorem run_field {s : TypeId} {fs : Array Field} (hu : P.underlying s = some (.struct fs)) {f n : Nat} (hf : (fs.toList.map (·.offset))[f]? = some n) (hz : ∀ f ∈ fs.toList, ∃ n, (P.info? f.type).map (·.size) = some (n + 1)) {ad : Addr} {w' : World} :
    (Instr.fieldAt s (.pointer (some ad)) f).run P w' = .ok (.pointer (some (ad.add n))) w' := by
  rw [List.getElem?_map] at hf
  obtain ⟨g, hg, rfl⟩ := Option.map_eq_some_iff.1 hf
  obtain ⟨m, hm⟩ := hz g (List.mem_of_getElem? hg)
  obtain ⟨i, hi, hs⟩ := Option.map_eq_some_iff.1 hm
  have hg2 : fs[f]? = some g := by rw [← Array.getElem?_toList]; exact hg
  simp [Instr.fieldAt, run_underlying hu, hg2, Instr.sureAddr, fieldPlace, sizeOf, typeInfo, hi, hs]
/-- Loading from cells that are there. -/
theorem load_run (hT : TyOK P tys) {t : TypeId} {i : TI} (hi : ty tys t = some i) {l : List AV} {vs : List Value} {ad : Addr} {x : AV} (hc : RepC w V β R l vs) (hcell : ∀ q v, vs[q]? = some v → w.cell? (ad.add q) = some v) (hx : loadA l i = some x) :
    ∃ v, Rep w V β R x v ∧ (Instr.loadAt t (.pointer (some ad))).run P w = .ok v w := by
  have hti := hT t i hi
  unfold loadA at hx
  split at hx
  · rename_i ha
    obtain ⟨fs, hu, hs, _, _⟩ := ty_agg hti ha
    split at hx
    · rename_i hle
      have hle := Nat.le_of_ble_eq_true hle
      injection hx with hx; subst hx
      refine ⟨_, (hc.take i.size).agg, run_load_agg hu hs (vs := vs.take i.size) (by rw [List.length_take, hc.len]; omega) (fun q v hv => hcell q v ?_)⟩
      rw [List.getElem?_take] at hv
      split at hv
      · exact hv
      · cases hv
    · cases hx
  · rename_i ha
    obtain ⟨d, hu, hd⟩ := ty_one hti ha
    have hx : l.head? = some x := by
      cases l with
      | nil => cases hx
      | cons a l => exact congrArg some (forceA_eq hx)
    obtain ⟨v, t', rfl, _, hr⟩ := hc.head hx
    have h0 := hcell 0 v rfl
    rw [Addr.add_zero'] at h0
    exact ⟨v, hr, run_load_one hu hd h0⟩
theorem ptr_cells (h : Wld E w V) {l : List AV} {v : Value} (hr : Rep w V β R (.ptr l) v) : ∃ ad vs, v = .pointer (some ad) ∧ RepC w V β R l vs ∧ ∀ q u, vs[q]? = some u → V (ad.add q) = some u := by
  cases hr.ptr_inv with
  | ptr _ ad vs hl h1 hc hrep => exact ⟨ad, vs, rfl, ⟨hl, h1, fun i a v p q => .st (hrep i a v p q)⟩, hc⟩
/-- The cells of a row of a region. -/
theorem mat_cells (h : RegsOK E.bd w V β R) {r : Nat} {n sz : Nat} {row : Nat → List AV} (hr : R[r]? = some (.mat n sz row)) {j : Nat} (hj : j < n) : ∃ b vs, β r = some b ∧ RepC w V β R (row j) vs ∧ vs.length = sz ∧ ∀ q u, vs[q]? = some u → w.cell? ⟨b, j * sz + q, none⟩ = some u := by
  obtain ⟨b, cs, e, h1, h2, h3, h4, h5, h6⟩ := h.mat r n sz row hr
  obtain ⟨hl, hk⟩ := h6 j hj
  have hle : j * sz + sz ≤ cs.size := by
    have : (j + 1) * sz ≤ n * sz := Nat.mul_le_mul_right _ hj
    rw [Nat.add_mul, Nat.one_mul] at this
    omega
  have hlen : ((cs.toList.drop (j * sz)).take sz).length = sz := by rw [List.length_take, List.length_drop, Array.length_toList]; omega
  have hget : ∀ q u, ((cs.toList.drop (j * sz)).take sz)[q]? = some u → cs[j * sz + q]? = some u := fun q u hu => by
    rw [List.getElem?_take] at hu
    split at hu
    · rw [List.getElem?_drop, Array.getElem?_toList] at hu; exact hu
    · cases hu
  refine ⟨b, (cs.toList.drop (j * sz)).take sz, h1, ⟨by rw [hlen, hl], fun v hv => ?_, fun q a v ha hv => ?_⟩, hlen, fun q u hu => ?_⟩
  · obtain ⟨q, hq⟩ := List.mem_iff_getElem?.1 hv
    have hql : q < sz := by rw [← hlen]; exact (List.getElem?_eq_some_iff.1 hq).1
    obtain ⟨u, p1, p2, _⟩ := hk q ((row j)[q]'(by omega)) (List.getElem?_eq_getElem _)
    rw [hget q v hq] at p1
    obtain rfl := Option.some.inj p1
    exact p2
  · obtain ⟨u, p1, _, p3⟩ := hk q a ha
    rw [hget q v hv] at p1
    obtain rfl := Option.some.inj p1
    exact p3
  · rw [cell_of_row w b (j * sz + q) cs e (0, 0) h3]
    exact hget q u hu
theorem places_of {P : Program} : ∀ (fs : List Field) (offs fsz : List Nat), fs.map (·.offset) = offs → fs.map (fun f => (P.info? f.type).map (·.size)) = fsz.map some →
    ∃ pl, fs.mapM (fun f => (P.info? f.type).map fun i => (f.offset, i.size)) = some pl ∧ ∀ (i o s : Nat), offs[i]? = some o → fsz[i]? = some s → pl[i]? = some (o, s)
  | [], offs, fsz, h1, h2 => by
    subst h1
    exact ⟨[], rfl, fun i o s h => by simp at h⟩
  | f :: fs, offs, [], h1, h2 => by simp at h2
  | f :: fs, offs, s :: fsz, h1, h2 => by
    subst h1
    simp only [List.map_cons, List.cons.injEq] at h2
    obtain ⟨pl, h3, h4⟩ := places_of fs _ fsz rfl h2.2
    obtain ⟨inf, hi, hs⟩ := Option.map_eq_some_iff.1 h2.1
    refine ⟨(f.offset, s) :: pl, by simp [List.mapM_cons, hi, hs, h3], fun i o s' h5 h6 => ?_⟩
    cases i with
    | zero => simp at h5 h6 ⊢; exact ⟨h5, h6⟩
    | succ i => exact h4 i o s' (by simpa using h5) (by simpa using h6)
theorem list_rep (h : Fits G E N w V β R fr a) : ∀ (cs : List Operand) (i : Nat) (x : AV) (v : Value), (cs.map (look G fr))[i]? = some x → (cs.map a.eval)[i]? = some v → Rep w V β R x v := by
  intro cs i x v h1 h2
  rw [List.getElem?_map] at h1 h2
  obtain ⟨o, ho, rfl⟩ := Option.map_eq_some_iff.1 h1
  rw [ho] at h2
  obtain rfl := Option.some.inj h2
  exact look_rep h o
theorem RepC.imms {w : World} {V : View} {β : Bnd} {R : List Reg} : ∀ l : List Value, (∀ v ∈ l, v.oneCell' = true) → RepC w V β R (l.map .imm) l
  | [], _ => .nil
  | v :: l, h => .cons (.st (.imm v)) (h v (by simp)) (RepC.imms l (fun u hu => h u (by simp [hu])))
theorem opA_run (hT : TyOK P tys) (h : Fits G E N w V β R fr a) {x : AV} (o : Oper) (hop : opA tys G fr R o.op = some x) :
    ∃ v, Rep w V β R x v ∧ (execOp a.eval o).run P w = .ok (.value v) w := by
  obtain ⟨dst, op, type, pos, after, guard⟩ := o
  simp only at hop
  unfold opA at hop
  split at hop
  case h_1 x => have hop := forceA_eq hop; subst hop; exact ⟨_, look_rep h x, by simp [execOp]⟩
  case h_2 x => have hop := forceA_eq hop; subst hop; exact ⟨_, look_rep h x, by simp [execOp]⟩
  case h_3 c p q =>
    split at hop
    · rename_i hc
      have hr := look_rep h c; rw [hc] at hr; have hr := hr.imm_inv
      have hop := forceA_eq hop; subst hop; exact ⟨_, look_rep h p, by simp [execOp, hr, asBool]⟩
    · rename_i hc
      have hr := look_rep h c; rw [hc] at hr; have hr := hr.imm_inv
      have hop := forceA_eq hop; subst hop; exact ⟨_, look_rep h q, by simp [execOp, hr, asBool]⟩
    · cases hop
  case h_4 t p =>
    have hr := look_rep h p
    split at hop
    · rename_i l hp
      rw [hp] at hr
      split at hop
      · rename_i i hi
        obtain ⟨ad, vs, e, hc, hV⟩ := ptr_cells h.wld hr
        obtain ⟨v, h1, h2⟩ := load_run hT hi hc (fun q u hq => h.wld.sub _ _ (hV q u hq)) hop
        exact ⟨v, h1, by simp [execOp, e, h2]⟩
      · cases hop
    · rename_i r j k hp
      rw [hp] at hr
      split at hop
      · rename_i l hm
        obtain ⟨n, sz, row, hrr, hj, rfl⟩ := matR_some hm
        obtain ⟨_, _, hl⟩ := hr.loc_inv
        obtain ⟨b, hb, e⟩ := hl n sz row hrr
        obtain ⟨b', vs, hb', hc, _, hcell⟩ := mat_cells h.reg hrr hj
        rw [hb] at hb'; injection hb' with hb'; subst hb'
        split at hop
        · rename_i i hi
          obtain ⟨v, h1, h2⟩ := load_run hT hi (ad := ⟨b, j * sz + k, none⟩) (hc.drop k) (fun q u hq => by
            rw [add_at, Nat.add_assoc]
            exact hcell (k + q) u (by simpa using hq)) hop
          exact ⟨v, h1, by simp [execOp, e, h2]⟩
        · cases hop
      · cases hop
    · cases hop
  case h_5 s p f =>
    have hr := look_rep h p
    split at hop
    case h_2 => cases hop
    rename_i i hi
    have hti := hT s i hi
    split at hop
    case h_2 => cases hop
    rename_i ha
    obtain ⟨fs, hu, hs, ho, hz, _⟩ := ty_agg hti ha
    split at hop
    case h_2 => cases hop
    rename_i n hn
    split at hop
    · rename_i l hp
      rw [hp] at hr
      injection hop with hop; subst hop
      obtain ⟨ad, vs, e, hl, h1, hc, hrep⟩ := hr.ptr_inv.ptr_inv
      · refine ⟨.pointer (some (ad.add n)), .st (.ptr _ _ (vs.drop n) (by simp [hl]) (fun v hv => h1 v (List.mem_of_mem_drop hv)) (fun j v hv => ?_) (fun j a' v hj hv => hrep (n + j) a' v (by simpa using hj) (by simpa using hv))), ?_⟩
        · rw [add_add]
          exact hc (n + j) v (by simpa using hv)
        · have hrun := run_field (P := P) hu (f := f) (n := n) (by rw [ho]; exact hn) hz (ad := ad) (w' := w)
          simp [execOp, e, hrun]
    · rename_i r j k hp
      rw [hp] at hr
      split at hop
      · rename_i l hm
        injection hop with hop; subst hop
        obtain ⟨n', sz, row, hrr, hj, _⟩ := matR_some hm
        obtain ⟨hi, _, hl⟩ := hr.loc_inv
        obtain ⟨b, hb, e⟩ := hl n' sz row hrr
        have hrun := run_field (P := P) hu (f := f) (n := n) (by rw [ho]; exact hn) hz (ad := ⟨b, j * sz + k, none⟩) (w' := w)
        refine ⟨.pointer (some ⟨b, j * sz + (k + n), none⟩), .loc _ _ _ _ hi rfl (fun n2 sz2 row2 h2 => ?_), ?_⟩
        · rw [hrr] at h2
          injection h2 with h2; injection h2 with h3 h4 h5
          subst h4
          exact ⟨b, hb, rfl⟩
        · rw [add_at] at hrun
          simp [execOp, e, hrun, Nat.add_assoc]
      · cases hop
    · cases hop
  case h_6 y n =>
    split at hop
    case h_2 => cases hop
    rename_i l hp
    have hr := look_rep h y; rw [hp] at hr
    obtain ⟨vs, e, hl, hrep⟩ := hr.tup_inv
    have hop : l[n]? = some x := by
      split at hop
      · rename_i a' e'; rw [e', forceA_eq hop]
      · cases hop
    have hlt : n < l.length := (List.getElem?_eq_some_iff.1 hop).1
    have hv : vs[n]? = some (vs[n]'(by omega)) := List.getElem?_eq_getElem _
    exact ⟨vs[n]'(by omega), hrep n x _ hop hv, by simp [execOp, e, Instr.extract, show n < vs.length by omega]⟩
  case h_7 t y =>
    split at hop
    case h_2 => cases hop
    rename_i b hp
    have hr := look_rep h y; rw [hp] at hr; have hr := hr.imm_inv
    injection hop with hop; subst hop
    exact ⟨_, .st (.imm _), by simp [execOp, hr, Op.unary]⟩
  case h_8 t y z _ =>
    split at hop
    case h_2 => cases hop
    rename_i b hp
    have hr := look_rep h y; rw [hp] at hr; have hr := hr.imm_inv
    split at hop
    case h_2 => cases hop
    rename_i c hq
    have hr2 := look_rep h z; rw [hq] at hr2; have hr2 := hr2.imm_inv
    injection hop with hop; subst hop
    exact ⟨_, .st (.imm _), by simp [execOp, hr, hr2, eqGuard, binOp, Op.intArith, wrap64, IntKind.wrap_i64]⟩
  case h_9 t y z _ =>
    split at hop
    case h_2 => cases hop
    rename_i b hp
    have hr := look_rep h y; rw [hp] at hr; have hr := hr.imm_inv
    split at hop
    case h_2 => cases hop
    rename_i c hq
    have hr2 := look_rep h z; rw [hq] at hr2; have hr2 := hr2.imm_inv
    injection hop with hop; subst hop
    exact ⟨_, .st (.imm _), by simp [execOp, hr, hr2, eqGuard, binOp, Op.intArith, wrap64, IntKind.wrap_i64]⟩
  case h_10 y =>
    have hr := look_rep h y
    split at hop
    · rename_i l hp
      rw [hp] at hr
      injection hop with hop; subst hop
      refine ⟨_, hr, ?_⟩
      obtain ⟨ad, vs, e, _⟩ := hr.ptr_inv.ptr_inv
      simp [execOp, e]
    · rename_i r j k hp
      rw [hp] at hr
      split at hop
      · rename_i l hm
        injection hop with hop; subst hop
        obtain ⟨n', sz, row, hrr, hj, _⟩ := matR_some hm
        obtain ⟨hi, _, hl⟩ := hr.loc_inv
        obtain ⟨b, hb, e⟩ := hl n' sz row hrr
        exact ⟨_, hr, by simp [execOp, e]⟩
      · cases hop
    · rename_i f l hp
      rw [hp] at hr
      injection hop with hop; subst hop
      obtain ⟨vs, e, _⟩ := hr.fn_inv
      exact ⟨_, hr, by simp [execOp, e]⟩
    · cases hop
  case h_11 f cs =>
    injection hop with hop; subst hop
    exact ⟨_, .fn f _ (cs.map a.eval) (by simp) (list_rep h cs), by simp [execOp, Instr.makeFunc]⟩
  case h_12 t parts =>
    split at hop
    case h_2 => cases hop
    rename_i i hi
    have hti := hT t i hi
    split at hop
    case h_2 => cases hop
    rename_i ha
    obtain ⟨fs, hu, hs, ho, hz, hfz⟩ := ty_agg hti ha
    split at hop
    case h_2 => cases hop
    rename_i hlen
    have hlen := Nat.eq_of_beq_eq_true hlen
    split at hop
    · cases hop
    rename_i z zs hzz
    split at hop
    case h_2 => cases hop
    rename_i l hf
    injection hop with hop; subst hop
    obtain ⟨inf, zv, hinf, hzv, hzc, hone⟩ := ty_zero hti (by rw [hzz]; simp)
    obtain ⟨pl, hpl, hpo⟩ := places_of (P := P) fs.toList i.offs i.fsz ho hfz
    have hc0 : RepC w V β R ((z :: zs).map .imm) zv.cells.toList := by
      rw [hzc, ← hzz]
      exact RepC.imms _ hone
    obtain ⟨cs', h1, h2⟩ := fill_run (place := (pl.toArray[·]?)) (fun i o s h3 h4 => by simpa using hpo i o s h3 h4) _ (parts.map (fun p => (p.1, a.eval p.2))) _ l zv.cells (by simp) (fun j i x hj => by
      rw [List.getElem?_map] at hj ⊢
      obtain ⟨p, hp, e⟩ := Option.map_eq_some_iff.1 hj
      obtain ⟨rfl, rfl⟩ := Prod.mk.inj e
      exact ⟨a.eval p.2, by rw [hp]; rfl, look_rep h p.2⟩) hc0 hf
    have hb : P.built t (parts.map (fun p => (p.1, a.eval p.2))) = some cs' := by
      unfold Program.built
      rw [hinf, hu]
      simp only [hzv, hpl]
      exact h1
    have hrun := run_build (P := P) w t (parts.map (fun p => (p.1, a.eval p.2))).toArray cs' (by simpa using hb)
    refine ⟨_, h2.agg, ?_⟩
    simp [execOp]
    rw [hrun]
    simp
  case h_13 y t =>
    split at hop
    case h_2 => cases hop
    rename_i i hi
    have hti := hT t i hi
    have hr := look_rep h y
    split at hop
    · rename_i hs
      have hu := ty_str hti hs
      split at hop
      · rename_i s hp
        rw [hp] at hr; have hr := hr.imm_inv
        injection hop with hop; subst hop
        exact ⟨_, .st (.imm _), by simp [execOp, resolve, invoke, builtin, hr, Builtin.len_, run_underlying hu, goInt]⟩
      · cases hop
    · split at hop
      · cases hop
      rename_i m hm
      obtain ⟨inf, z, hu, _⟩ := ty_sl hti (by omega)
      split at hop
      · rename_i n _ _ hp
        rw [hp] at hr
        injection hop with hop; subst hop
        obtain ⟨A, c, ad, vs, e, _⟩ := hr.sl_inv.sl_inv
        exact ⟨_, .st (.imm _), by simp [execOp, resolve, invoke, builtin, e, Builtin.len_, run_underlying hu, goInt]⟩
      · rename_i n _ _ hp
        rw [hp] at hr
        injection hop with hop; subst hop
        obtain ⟨A, c, ad, vs, e, _⟩ := hr.own_inv.2.1.sl_inv
        exact ⟨_, .st (.imm _), by simp [execOp, resolve, invoke, builtin, e, Builtin.len_, run_underlying hu, goInt]⟩
      · rename_i hp
        rw [hp] at hr; have hr := hr.imm_inv
        injection hop with hop; subst hop
        exact ⟨_, .st (.imm _), by simp [execOp, resolve, invoke, builtin, hr, Builtin.len_, run_underlying hu, goInt]⟩
      · rename_i r hp
        rw [hp] at hr
        split at hop
        · rename_i n sz row hrr
          injection hop with hop; subst hop
          obtain ⟨hi, _, hl⟩ := hr.msl_inv
          obtain ⟨b, c, hb, e, hc⟩ := hl n sz row hrr
          exact ⟨_, .st (.imm _), by simp [execOp, resolve, invoke, builtin, e, Builtin.len_, run_underlying hu, goInt]⟩
        · cases hop
      · cases hop
  case h_14 => cases hop
end
end Go.Proofs.Ytdcabfonjmeajaa.Abs
set_option linter.unusedVariables false
set_option linter.unusedSimpArgs false
namespace Go.Proofs.Ytdcabfonjmeajaa.Abs
open Go.RowKit
/-- What is a of any world is x of it too. -/
def Ref (a x : AV) : Prop := ∀ (w : World) (V : View) (β : Bnd) (R : List Reg) (v : Value), Rep w V β R a v → Rep w V β R x v
theorem Ref.rfl' (a : AV) : Ref a a := fun _ _ _ _ _ h => h
theorem Ref.any (a : AV) : Ref a .any := fun _ _ _ _ v _ => .st (.any v)
theorem Ref.trans {a b c : AV} (h : Ref a b) (k : Ref b c) : Ref a c := fun w V β R v hv => k w V β R v (h w V β R v hv)
theorem Ref.own (i n sz : Nat) (row : Nat → List AV) : Ref (.own i n sz row) (.sl n sz row) := fun _ _ _ _ _ h => .st h.own_inv.2.1
theorem Ref.nil (sz : Nat) (row : Nat → List AV) : Ref (.imm (.slice none 0 0)) (.sl 0 sz row) := fun _ _ _ _ v h => by
  rw [h.imm_inv]
  exact .st (.sl 0 sz row none 0 default (fun _ => []) (Nat.le_refl _) (fun h => by omega) (fun j h => by omega) (fun j h => by omega) (fun j i v h => by omega) (fun j i a v h => by omega))
theorem Rep0.rows {V : View} {n sz : Nat} {row row' : Nat → List AV} {v : Value} (h : Rep0 V (.sl n sz row) v) (e : ∀ j, j < n → row j = row' j) : Rep0 V (.sl n sz row') v := by
  obtain ⟨A, c, ad, vs, rfl, hn, hA, hl, h1, hc, hr⟩ := h.sl_inv
  exact .sl n sz row' A c ad vs hn hA (fun j hj => by rw [← e j hj]; exact hl j hj) h1 hc (fun j i a v hj ha hv => hr j i a v hj (by rw [e j hj]; exact ha) hv)
theorem Ref.rows {n sz : Nat} {row row' : Nat → List AV} (e : ∀ j, j < n → row j = row' j) : Ref (.sl n sz row) (.sl n sz row') := fun _ _ _ _ _ h => .st (h.sl_inv.rows e)
theorem Ref.orows {i n sz : Nat} {row row' : Nat → List AV} (e : ∀ j, j < n → row j = row' j) : Ref (.own i n sz row) (.own i n sz row') := fun _ _ _ _ v h =>
  let ⟨h1, h2, h3⟩ := h.own_inv
  .own i n sz row' v h1 (h2.rows e) h3
inductive RefL : List AV → List AV → Prop
  | nil : RefL [] []
  | cons {a x : AV} {l r : List AV} (h : Ref a x) (t : RefL l r) : RefL (a :: l) (x :: r)
theorem RefL.len : ∀ {l r : List AV}, RefL l r → l.length = r.length
  | _, _, .nil => rfl
  | _, _, .cons _ t => by rw [List.length_cons, List.length_cons, t.len]
theorem RefL.rep {w : World} {V : View} {β : Bnd} {R : List Reg} : ∀ {l r : List AV} {vs : List Value}, RefL l r → (∀ (i : Nat) (a : AV) (v : Value), l[i]? = some a → vs[i]? = some v → Rep w V β R a v) → ∀ (i : Nat) (a : AV) (v : Value), r[i]? = some a → vs[i]? = some v → Rep w V β R a v
  | _, _, vs, .nil, _, i, a, v, h1, _ => by simp at h1
  | _, _, vs, .cons h t, hr, i, a, v, h1, h2 => by
    cases i with
    | zero =>
      simp at h1; subst h1
      exact h _ _ _ _ _ (hr 0 _ v rfl h2)
    | succ i =>
      cases vs with
      | nil => simp at h2
      | cons u vs => exact t.rep (vs := vs) (fun i a v p q => hr (i + 1) a v (by simpa using p) (by simpa using q)) i a v (by simpa using h1) (by simpa using h2)
theorem Ref.agg {l r : List AV} (h : RefL l r) : Ref (.agg l) (.agg r) := fun _ _ _ _ _ hv => by
  obtain ⟨vs, rfl, hl, h1, hr⟩ := hv.agg_inv
  exact .agg r vs (by rw [hl, h.len]) h1 (h.rep hr)
theorem Ref.tup {l r : List AV} (h : RefL l r) : Ref (.tup l) (.tup r) := fun _ _ _ _ _ hv => by
  obtain ⟨vs, rfl, hl, hr⟩ := hv.tup_inv
  exact .tup r vs (by rw [hl, h.len]) (h.rep hr)
/-- Does a value lead into no region? -/
def rf : AV → Bool
  | .own _ _ _ _ => false
  | .loc _ _ _ => false
  | .msl _ => false
  | .agg l => rfL l
  | .tup l => rfL l
  | .fn _ l => rfL l
  | _ => true
where rfL : List AV → Bool
  | [] => true
  | a :: l => rf a && rfL l
theorem rfL_get : ∀ {l : List AV}, rf.rfL l = true → ∀ (i : Nat) (a : AV), l[i]? = some a → rf a = true
  | a :: l, h, 0, b, e => by simp at e; subst e; unfold rf.rfL at h; exact (Bool.and_eq_true _ _ ▸ h).1
  | a :: l, h, i + 1, b, e => by unfold rf.rfL at h; exact rfL_get (Bool.and_eq_true _ _ ▸ h).2 i b (by simpa using e)
theorem Rep.rf {w : World} {V : View} {β : Bnd} {R : List Reg} {a : AV} {v : Value} (h : Rep w V β R a v) : rf a = true → Rep0 V a v := by
  induction h with
  | st h => exact fun _ => h
  | agg l vs hl h1 _ ih => exact fun e => .agg l vs hl h1 (fun i a v p q => ih i a v p q (rfL_get e i a p))
  | tup l vs hl _ ih => exact fun e => .tup l vs hl (fun i a v p q => ih i a v p q (rfL_get e i a p))
  | fn f l vs hl _ ih => exact fun e => .fn f l vs hl (fun i a v p q => ih i a v p q (rfL_get e i a p))
  | loc i j k v hi hp h => exact fun e => by cases e
  | own i n sz row v hi h0 h => exact fun e => by cases e
  | msl i v hi hp h => exact fun e => by cases e
/-- A call's answer, wherever it is made: nothing that was there turns. -/
structure CallOK (P : Program) (G : Glo) (f : FuncId) (args : List AV) (x : AV) : Prop where
  ent : ∃ fn, P.funcs[f]? = some fn ∧ (fn.name == "runtime.NumGoroutine") = false ∧ fn.body.isSome = true
  run : ∀ (w : World) (V : View) (vs : List Value), (∀ ad v, V ad = some v → w.cell? ad = some v) → GloOK G V → vs.length = args.length → (∀ (i : Nat) (a : AV) (v : Value), args[i]? = some a → vs[i]? = some v → Rep0 V a v) →
    Calls P f vs.toArray w (fun e w' => ∃ v V', e = .returned v ∧ Grow w V w' V' ∧ Rep0 V' x v)
theorem CallOK.ref {P : Program} {G : Glo} {f : FuncId} {args : List AV} {x y : AV} (h : CallOK P G f args x) (hr : Ref x y) (hy : Abs.rf y = true) : CallOK P G f args y :=
  ⟨h.ent, fun w V vs h1 h2 h3 h4 => (h.run w V vs h1 h2 h3 h4).mono fun e w' ⟨v, V', he, hg, hx⟩ => ⟨v, V', he, hg, (hr w' V' (fun _ => none) [] v (.st hx)).rf hy⟩⟩
/-- What a comparison asks. -/
inductive CmpA (G : Glo) (fr : Fr) : Op → Prop → Prop
  | lss {t x y u k a b} (hx : look G fr x = .imm (.int k a)) (hy : look G fr y = .imm (.int k b)) : CmpA G fr (.binOp .lss t x y u) (a < b)
  | leq {t x y u k a b} (hx : look G fr x = .imm (.int k a)) (hy : look G fr y = .imm (.int k b)) : CmpA G fr (.binOp .leq t x y u) (a ≤ b)
  | gtr {t x y u k a b} (hx : look G fr x = .imm (.int k a)) (hy : look G fr y = .imm (.int k b)) : CmpA G fr (.binOp .gtr t x y u) (a > b)
  | geq {t x y u k a b} (hx : look G fr x = .imm (.int k a)) (hy : look G fr y = .imm (.int k b)) : CmpA G fr (.binOp .geq t x y u) (a ≥ b)
  | eql {t x y u k a b} (hx : look G fr x = .imm (.int k a)) (hy : look G fr y = .imm (.int k b)) : CmpA G fr (.binOp .eql t x y u) (a = b)
  | neq {t x y u k a b} (hx : look G fr x = .imm (.int k a)) (hy : look G fr y = .imm (.int k b)) : CmpA G fr (.binOp .neq t x y u) (a ≠ b)
  | seq {t x y u a b} (hx : look G fr x = .imm (.string a)) (hy : look G fr y = .imm (.string b)) : CmpA G fr (.binOp .eql t x y u) (a.toList = b.toList)
  | sne {t x y u a b} (hx : look G fr x = .imm (.string a)) (hy : look G fr y = .imm (.string b)) : CmpA G fr (.binOp .neq t x y u) (a.toList ≠ b.toList)
/-- Is this one of the operations on bits? -/
def bitsB : BinOp → Bool
  | .and => true
  | .or => true
  | .xor => true
  | .andNot => true
  | _ => false
/-- What an operation on whole numbers, or on strings, yields. -/
inductive BinA (G : Glo) (fr : Fr) : Op → Value → Prop
  | mul {t x y u a b} (hx : look G fr x = .imm (.int .i64 a)) (hy : look G fr y = .imm (.int .i64 b)) : BinA G fr (.binOp .mul t x y u) (.int .i64 (wrap64 (a * b)))
  | add8 {t x y u a b} (hx : look G fr x = .imm (.int .u8 a)) (hy : look G fr y = .imm (.int .u8 b)) : BinA G fr (.binOp .add t x y u) (.int .u8 ((a + b) % 256))
  | sub8 {t x y u a b} (hx : look G fr x = .imm (.int .u8 a)) (hy : look G fr y = .imm (.int .u8 b)) : BinA G fr (.binOp .sub t x y u) (.int .u8 ((a - b) % 256))
  | mul8 {t x y u a b} (hx : look G fr x = .imm (.int .u8 a)) (hy : look G fr y = .imm (.int .u8 b)) : BinA G fr (.binOp .mul t x y u) (.int .u8 ((a * b) % 256))
  | addK {t x y u k a b} (hx : look G fr x = .imm (.int k a)) (hy : look G fr y = .imm (.int k b)) : BinA G fr (.binOp .add t x y u) (.int k (k.wrap (a + b)))
  | subK {t x y u k a b} (hx : look G fr x = .imm (.int k a)) (hy : look G fr y = .imm (.int k b)) : BinA G fr (.binOp .sub t x y u) (.int k (k.wrap (a - b)))
  | mulK {t x y u k a b} (hx : look G fr x = .imm (.int k a)) (hy : look G fr y = .imm (.int k b)) : BinA G fr (.binOp .mul t x y u) (.int k (k.wrap (a * b)))
  | bits {t x y u op k a b} (hb : bitsB op = true) (hx : look G fr x = .imm (.int k a)) (hy : look G fr y = .imm (.int k b)) : BinA G fr (.binOp op t x y u) (.int k (Go.bits op k a b))
  | shl {t x y u k k2 a b} (hx : look G fr x = .imm (.int k a)) (hy : look G fr y = .imm (.int k2 b)) (h : 0 ≤ b) : BinA G fr (.binOp .shl t x y u) (.int k (k.wrap (a * 2 ^ min b.toNat k.bits)))
  | shr {t x y u k k2 a b} (hx : look G fr x = .imm (.int k a)) (hy : look G fr y = .imm (.int k2 b)) (h : 0 ≤ b) : BinA G fr (.binOp .shr t x y u) (.int k (a / 2 ^ min b.toNat k.bits))
  | quo {t x y u k a b} (hx : look G fr x = .imm (.int k a)) (hy : look G fr y = .imm (.int k b)) (h : b ≠ 0) : BinA G fr (.binOp .quo t x y u) (.int k (k.wrap (a.tdiv b)))
  | quo64 {t x y u a b} (hx : look G fr x = .imm (.int .i64 a)) (hy : look G fr y = .imm (.int .i64 b)) (h : b ≠ 0) : BinA G fr (.binOp .quo t x y u) (.int .i64 (wrap64 (a.tdiv b)))
  | rem {t x y u k a b} (hx : look G fr x = .imm (.int k a)) (hy : look G fr y = .imm (.int k b)) (h : b ≠ 0) : BinA G fr (.binOp .rem t x y u) (.int k (a.tmod b))
  | cat {t x y u a b} (hx : look G fr x = .imm (.string a)) (hy : look G fr y = .imm (.string b)) (h : a.size + b.size ≤ 9223372036854775807) : BinA G fr (.binOp .add t x y u) (.string (a ++ b))
  | neg {t x a} (hx : look G fr x = .imm (.int .i64 a)) : BinA G fr (.unOp .neg t x) (.int .i64 (wrap64 (0 - a)))
section
variable {P : Program} {tys : Tys} {G : Glo} {E : Ent} {N : Nat} {w : World} {V : View} {β : Bnd} {R : List Reg} {fr : Fr} {a : Act}
theorem bin_run (h : Fits G E N w V β R fr a) {o : Oper} {v : Value} (hop : BinA G fr o.op v) : (execOp a.eval o).run P w = .ok (.value v) w := by
  obtain ⟨dst, op, type, pos, after, guard⟩ := o
  simp only at hop
  cases hop with
  | @mul t x y u c d hx hy => have h1 := look_rep h x; rw [hx] at h1; have h2 := look_rep h y; rw [hy] at h2; simp [execOp, h1.imm_inv, h2.imm_inv, eqGuard, binOp, Op.intArith, wrap64, IntKind.wrap_i64]
  | @add8 t x y u c d hx hy => have h1 := look_rep h x; rw [hx] at h1; have h2 := look_rep h y; rw [hy] at h2; simp [execOp, h1.imm_inv, h2.imm_inv, eqGuard, binOp, Op.intArith, IntKind.wrap_u8]
  | @sub8 t x y u c d hx hy => have h1 := look_rep h x; rw [hx] at h1; have h2 := look_rep h y; rw [hy] at h2; simp [execOp, h1.imm_inv, h2.imm_inv, eqGuard, binOp, Op.intArith, IntKind.wrap_u8]
  | @mul8 t x y u c d hx hy => have h1 := look_rep h x; rw [hx] at h1; have h2 := look_rep h y; rw [hy] at h2; simp [execOp, h1.imm_inv, h2.imm_inv, eqGuard, binOp, Op.intArith, IntKind.wrap_u8]
  | @addK t x y u k c d hx hy => have h1 := look_rep h x; rw [hx] at h1; have h2 := look_rep h y; rw [hy] at h2; simp [execOp, h1.imm_inv, h2.imm_inv, eqGuard, binOp, Op.intArith]
  | @subK t x y u k c d hx hy => have h1 := look_rep h x; rw [hx] at h1; have h2 := look_rep h y; rw [hy] at h2; simp [execOp, h1.imm_inv, h2.imm_inv, eqGuard, binOp, Op.intArith]
  | @mulK t x y u k c d hx hy => have h1 := look_rep h x; rw [hx] at h1; have h2 := look_rep h y; rw [hy] at h2; simp [execOp, h1.imm_inv, h2.imm_inv, eqGuard, binOp, Op.intArith]
  | @bits t x y u op k c d hb hx hy => have h1 := look_rep h x; rw [hx] at h1; have h2 := look_rep h y; rw [hy] at h2; cases op <;> first | (cases hb; done) | simp [execOp, h1.imm_inv, h2.imm_inv, eqGuard, binOp, Op.intBits, Go.bits]
  | @shl t x y u k k2 c d hx hy hd => have h1 := look_rep h x; rw [hx] at h1; have h2 := look_rep h y; rw [hy] at h2; simp [execOp, h1.imm_inv, h2.imm_inv, eqGuard, binOp, Op.shift, show ¬ d < 0 by omega]
  | @shr t x y u k k2 c d hx hy hd => have h1 := look_rep h x; rw [hx] at h1; have h2 := look_rep h y; rw [hy] at h2; simp [execOp, h1.imm_inv, h2.imm_inv, eqGuard, binOp, Op.shift, show ¬ d < 0 by omega, Int.fdiv_eq_ediv_of_nonneg c (show (0 : Int) ≤ 2 ^ min d.toNat k.bits from Int.pow_nonneg (by omega))]
  | @quo t x y u k c d hx hy hd => have h1 := look_rep h x; rw [hx] at h1; have h2 := look_rep h y; rw [hy] at h2; simp [execOp, h1.imm_inv, h2.imm_inv, eqGuard, binOp, Op.intDiv, hd]
  | @quo64 t x y u c d hx hy hd => have h1 := look_rep h x; rw [hx] at h1; have h2 := look_rep h y; rw [hy] at h2; simp [execOp, h1.imm_inv, h2.imm_inv, eqGuard, binOp, Op.intDiv, hd, wrap64, IntKind.wrap_i64]
  | @rem t x y u k c d hx hy hd => have h1 := look_rep h x; rw [hx] at h1; have h2 := look_rep h y; rw [hy] at h2; simp [execOp, h1.imm_inv, h2.imm_inv, eqGuard, binOp, Op.intDiv, hd]
  | @cat t x y u c d hx hy hd => have h1 := look_rep h x; rw [hx] at h1; have h2 := look_rep h y; rw [hy] at h2; simp [execOp, h1.imm_inv, h2.imm_inv, eqGuard, binOp, Op.stringOp, IntKind.max, IntKind.bits, IntKind.signed]; omega
  | @neg t x c hx => have h1 := look_rep h x; rw [hx] at h1; simp [execOp, h1.imm_inv, Op.unary, Op.intArith, wrap64, IntKind.wrap_i64]
theorem cmp_run (h : Fits G E N w V β R fr a) {o : Oper} {p : Prop} (hop : CmpA G fr o.op p) : ∃ b : Bool, (b = true ↔ p) ∧ (execOp a.eval o).run P w = .ok (.value (.bool b)) w := by
  obtain ⟨dst, op, type, pos, after, guard⟩ := o
  simp only at hop
  cases hop with
  | @lss t x y u k c d hx hy => have h1 := look_rep h x; rw [hx] at h1; have h2 := look_rep h y; rw [hy] at h2; exact ⟨decide _, decide_eq_true_iff, by cases k <;> simp [execOp, h1.imm_inv, h2.imm_inv, eqGuard, binOp, Op.intCmp]⟩
  | @leq t x y u k c d hx hy => have h1 := look_rep h x; rw [hx] at h1; have h2 := look_rep h y; rw [hy] at h2; exact ⟨decide _, decide_eq_true_iff, by cases k <;> simp [execOp, h1.imm_inv, h2.imm_inv, eqGuard, binOp, Op.intCmp]⟩
  | @gtr t x y u k c d hx hy => have h1 := look_rep h x; rw [hx] at h1; have h2 := look_rep h y; rw [hy] at h2; exact ⟨decide _, decide_eq_true_iff, by cases k <;> simp [execOp, h1.imm_inv, h2.imm_inv, eqGuard, binOp, Op.intCmp]⟩
  | @geq t x y u k c d hx hy => have h1 := look_rep h x; rw [hx] at h1; have h2 := look_rep h y; rw [hy] at h2; exact ⟨decide _, decide_eq_true_iff, by cases k <;> simp [execOp, h1.imm_inv, h2.imm_inv, eqGuard, binOp, Op.intCmp]⟩
  | @eql t x y u k c d hx hy => have h1 := look_rep h x; rw [hx] at h1; have h2 := look_rep h y; rw [hy] at h2; exact ⟨(c == d), by simp, by cases k <;> simp [execOp, h1.imm_inv, h2.imm_inv, eqGuard, binOp, Op.intCmp]⟩
  | @neq t x y u k c d hx hy => have h1 := look_rep h x; rw [hx] at h1; have h2 := look_rep h y; rw [hy] at h2; exact ⟨(c != d), by simp, by cases k <;> simp [execOp, h1.imm_inv, h2.imm_inv, eqGuard, binOp, Op.intCmp]⟩
  | @seq t x y u c d hx hy => have h1 := look_rep h x; rw [hx] at h1; have h2 := look_rep h y; rw [hy] at h2; exact ⟨(c.toList == d.toList), by simp, by simp [execOp, h1.imm_inv, h2.imm_inv, eqGuard, binOp, Op.stringOp]⟩
  | @sne t x y u c d hx hy => have h1 := look_rep h x; rw [hx] at h1; have h2 := look_rep h y; rw [hy] at h2; exact ⟨(!(c.toList == d.toList)), by simp, by simp [execOp, h1.imm_inv, h2.imm_inv, eqGuard, binOp, Op.stringOp]⟩
def elemA (tys : Tys) (t : Nat) : Nat := match ty tys t with | some i => i.elem | none => 0
/-- A slice's length, its elements' cells, its rows. -/
def slV : AV → Option (Nat × Nat × (Nat → List AV))
  | .sl n sz row => some (n, sz, row)
  | .own _ n sz row => some (n, sz, row)
  | _ => none
theorem slV_rep {x : AV} {v : Value} {n sz : Nat} {row : Nat → List AV} (h : Rep w V β R x v) (e : slV x = some (n, sz, row)) : Rep0 V (.sl n sz row) v := by
  unfold slV at e
  split at e
  · injection e with e; injection e with e1 e2; injection e2 with e2 e3; subst e1; subst e2; subst e3; exact h.sl_inv
  · injection e with e; injection e with e1 e2; injection e2 with e2 e3; subst e1; subst e2; subst e3; exact h.own_inv.2.1
  · cases e
theorem elem_ty (hT : TyOK P tys) {t sz : Nat} (he : elemA tys t = sz + 1) : ∃ e inf, P.underlying t = some (.slice e) ∧ P.info? e = some inf ∧ inf.size = sz + 1 := by
  unfold elemA at he
  cases h : ty tys t with
  | none => rw [h] at he; cases he
  | some ti =>
    rw [h] at he
    have he : ti.elem = sz + 1 := he
    obtain ⟨inf, z, h1, h2, h3, _⟩ := ty_sl (hT t ti h) (by omega)
    exact ⟨_, inf, h1, h2, h3.trans he⟩
theorem idx_run (hT : TyOK P tys) (h : Fits G E N w V β R fr a) {o : Oper} {t : TypeId} {x i : Operand} {n sz : Nat} {row : Nat → List AV} {k : IntKind} {j : Int} (hop : o.op = .indexAddr t x i) (hx : slV (look G fr x) = some (n, sz + 1, row)) (hi : look G fr i = .imm (.int k j)) (he : elemA tys t = sz + 1) (h0 : 0 ≤ j) (h1 : j < (n : Int)) :
    ∃ v, Rep w V β R (.ptr (row j.toNat)) v ∧ (execOp a.eval o).run P w = .ok (.value v) w := by
  have hri := look_rep h i; rw [hi] at hri
  obtain ⟨e, inf, hu, hinf, hsz⟩ := elem_ty hT he
  obtain ⟨A, c, ad, vs, ev, hn, hA, hl, hone, hc, hrep⟩ := (slV_rep (look_rep h x) hx).sl_inv
  have hA := hA (by omega)
  subst hA
  have hjn : j.toNat < n := by omega
  obtain ⟨l1, l2⟩ := hl j.toNat hjn
  refine ⟨.pointer (some (ad.add (j.toNat * (sz + 1)))), .st (.ptr _ _ (vs j.toNat) (by rw [l1, l2]) (hone _ hjn) (fun q v hv => ?_) (fun q a' v h2 h3 => hrep j.toNat q a' v hjn h2 h3)), ?_⟩
  · rw [add_add]; exact hc j.toNat q v hjn hv
  · simp [execOp, hop, ev, hri.imm_inv, Instr.indexAt, asIntOf, run_underlying hu, h0, h1, sizeOf, typeInfo, hinf, hsz]
theorem idxM_run (hT : TyOK P tys) (h : Fits G E N w V β R fr a) {o : Oper} {t : TypeId} {x i : Operand} {r n sz : Nat} {row : Nat → List AV} {k : IntKind} {j : Int} (hop : o.op = .indexAddr t x i) (hx : look G fr x = .msl r) (hR : R[r]? = some (.mat n (sz + 1) row)) (hi : look G fr i = .imm (.int k j)) (he : elemA tys t = sz + 1) (h0 : 0 ≤ j) (h1 : j < (n : Int)) :
    ∃ v, Rep w V β R (.loc r j.toNat 0) v ∧ (execOp a.eval o).run P w = .ok (.value v) w := by
  have hri := look_rep h i; rw [hi] at hri
  have hrx := look_rep h x; rw [hx] at hrx
  obtain ⟨e, inf, hu, hinf, hsz⟩ := elem_ty hT he
  obtain ⟨hlt, _, hl⟩ := hrx.msl_inv
  obtain ⟨b, c, hb, ev, hc⟩ := hl _ _ _ hR
  refine ⟨.pointer (some ⟨b, j.toNat * (sz + 1) + 0, none⟩), .loc _ _ _ _ hlt rfl (fun n2 sz2 row2 h2 => ?_), ?_⟩
  · rw [hR] at h2
    injection h2 with h2; injection h2 with h3 h4 h5
    subst h4
    exact ⟨b, hb, rfl⟩
  · have := add_plain b (j.toNat * (sz + 1))
    simp [execOp, hop, ev, hri.imm_inv, Instr.indexAt, asIntOf, run_underlying hu, h0, h1, sizeOf, typeInfo, hinf, hsz, this]
theorem enters {f : FuncId} {fn : Func} (hf : P.funcs[f]? = some fn) (hname : (fn.name == "runtime.NumGoroutine") = false) (hb : fn.body.isSome = true) (args : Array Value) (w : World) : (callFunc f args).run P w = .ok (.enter f args) w := by
  have h1 : fn.name ≠ "runtime.NumGoroutine" := by simpa using hname
  obtain ⟨c, hc⟩ := Option.isSome_iff_exists.1 hb
  simp [callFunc, hf, h1, hc]
theorem call_run {o : Oper} {f : FuncId} {as : List Operand} {ts : Array TypeId} (hop : o.op = .call ⟨.value (.func f), ⟨as⟩, ts⟩) (he : ∃ fn, P.funcs[f]? = some fn ∧ (fn.name == "runtime.NumGoroutine") = false ∧ fn.body.isSome = true) : (execOp a.eval o).run P w = .ok (.enter f (as.map a.eval).toArray) w := by
  obtain ⟨fn, h1, h2, h3⟩ := he
  have he := enters h1 h2 h3 (as.map a.eval).toArray w
  unfold execOp
  simp [hop, resolve, Deferred.ofValue, invoke, Act.eval, he]
/-- A call of a function that is a value. -/
theorem callv_run {o : Oper} {f : FuncId} {q : Operand} {as : List Operand} {ts : Array TypeId} {cs : List Value} (hop : o.op = .call ⟨.value q, ⟨as⟩, ts⟩) (hq : a.eval q = .func (.func f) #[] cs.toArray) (he : ∃ fn, P.funcs[f]? = some fn ∧ (fn.name == "runtime.NumGoroutine") = false ∧ fn.body.isSome = true) : (execOp a.eval o).run P w = .ok (.enter f (as.map a.eval ++ cs).toArray) w := by
  obtain ⟨fn, h1, h2, h3⟩ := he
  have he := enters h1 h2 h3 (as.map a.eval ++ cs).toArray w
  unfold execOp
  simp [hop, resolve, hq, Deferred.ofValue, invoke]
  simpa using he
end
end Go.Proofs.Ytdcabfonjmeajaa.Abs
set_option linter.unusedVariables false
set_option linter.unusedSimpArgs false
namespace Go.Proofs.Ytdcabfonjmeajaa.Abs
open Go.RowKit
section
variable {P : Program} {tys : Tys} {G : Glo} {E : Ent} {N : Nat} {w : World} {V : View} {β : Bnd} {R : List Reg} {fr : Fr} {a : Act}
/-- The view with a new block's cells. -/
def vNew (V : View) (w : World) (b : Nat) : View := fun ad => if ad.block = b then w.cell? ad else V ad
theorem grow_new (h : Wld E w V) (c : Array Value) (t : TypeId) : Grow w V (w.alloc (.cells c t)) (vNew V (w.alloc (.cells c t)) w.heap.size) := by
  have old : ∀ ad : Addr, ad.block < w.heap.size → (w.alloc (.cells c t)).cell? ad = w.cell? ad := fun ad hl => World.cell?_of_block (heap_alloc_old w _ _ hl)
  have lt : ∀ ad v, V ad = some v → ad.block < w.heap.size := fun ad v hv => World.block_lt_of_cell? w ad (h.sub ad v hv)
  refine ⟨⟨rfl, rfl, rfl, by simp, fun k hk _ => heap_alloc_old w _ _ hk⟩, fun ad v hv => ?_, fun ad v hv => ?_, fun ad v hv => ?_⟩
  · unfold vNew
    rw [if_neg (by have := lt ad v hv; omega)]; exact hv
  · unfold vNew at hv
    split at hv
    · exact hv
    · rw [old ad (lt ad v hv)]; exact h.sub ad v hv
  · unfold vNew at hv
    split at hv
    · right; omega
    · exact .inl hv
theorem grow_hid (h : Wld E w V) (o : Obj) : Grow w V (w.alloc o) V := by
  have lt : ∀ ad v, V ad = some v → ad.block < w.heap.size := fun ad v hv => World.block_lt_of_cell? w ad (h.sub ad v hv)
  exact ⟨⟨rfl, rfl, rfl, by simp, fun k hk _ => heap_alloc_old w _ _ hk⟩, .refl V, fun ad v hv => (World.cell?_of_block (heap_alloc_old w _ _ (lt ad v hv))).trans (h.sub ad v hv), fun ad v hv => .inl hv⟩
theorem new_cell (w : World) (vs : List Value) (t : TypeId) {i : Nat} {v : Value} (h : vs[i]? = some v) : (w.alloc (.cells vs.toArray t)).cell? ⟨w.heap.size, i, none⟩ = some v := by
  rw [cell_of_row _ _ i _ t (0, 0) (heap_alloc_new w _)]
  simpa using h
/-- A block of its own whose cells stay. -/
theorem Fits.box (h : Fits G E N w V β R fr a) {l : List AV} {vs : List Value} (hc : RepC w V β R l vs) (hrf : rf.rfL l = true) (t : TypeId) :
    ∃ V', Fits G E N (w.alloc (.cells vs.toArray t)) V' β R fr a ∧ Rep (w.alloc (.cells vs.toArray t)) V' β R (.ptr l) (.pointer (some ⟨w.heap.size, 0, none⟩)) ∧ Grow w V (w.alloc (.cells vs.toArray t)) V' := by
  have g := grow_new h.wld vs.toArray t
  refine ⟨_, h.grow g, .st (.ptr l _ vs hc.len hc.one (fun i v hv => ?_) (fun i x v p q => ((hc.rep i x v p q).rf (rfL_get hrf i x p)).mv g.up)), g⟩
  rw [add_plain]
  unfold vNew
  rw [if_pos rfl]
  exact new_cell w vs t hv
/-- A new region at the end: what was there stays. -/
theorem ext_snoc {w' : World} {V' : View} {b : Nat} {r : Reg} (g : Grow w V w' V') (h : RegsOK E.bd w V β R) : Ext w V β R w' V' (fun k => if k = R.length then some b else β k) (R ++ [r]) := by
  have hx := g.ext h
  refine ⟨hx.hV, by simp, fun i e sz n hi hr => ?_, fun i n sz row hi hr => ?_⟩
  · rw [List.getElem?_append_left hi] at hr
    obtain ⟨h1, h2, h3⟩ := hx.arr i e sz n hi hr
    refine ⟨h1, ?_, h3⟩
    show (if i = R.length then some b else β i) = β i
    rw [if_neg (by omega)]
  · rw [List.getElem?_append_left hi] at hr
    refine ⟨?_, row, hr⟩
    show (if i = R.length then some b else β i) = β i
    rw [if_neg (by omega)]
theorem live_lt {i : Nat} (h : Reg.live R i) : i < R.length := by
  rcases h with ⟨e, sz, n, h⟩ | ⟨n, sz, row, h⟩ <;> exact (List.getElem?_eq_some_iff.1 h).1
theorem bound_lt (h : RegsOK E.bd w V β R) {i b : Nat} (hl : Reg.live R i) (hb : β i = some b) : b < w.heap.size := by
  rcases hl with ⟨e, sz, n, hr⟩ | ⟨n, sz, row, hr⟩
  · exact (h.arr i e sz n hr b hb).2.1
  · obtain ⟨b', vs, e, h1, _, h3, _⟩ := h.mat i n sz row hr
    rw [hb] at h1; injection h1 with h1; subst h1
    exact blk_lt h3
theorem snoc_get {r r' : Reg} {i : Nat} (h : (R ++ [r])[i]? = some r') : (i < R.length ∧ R[i]? = some r') ∨ (i = R.length ∧ r = r') := by
  rcases Nat.lt_or_ge i R.length with c | c
  · rw [List.getElem?_append_left c] at h; exact .inl ⟨c, h⟩
  · rw [List.getElem?_append_right c] at h
    rcases Nat.eq_or_lt_of_le c with c | c
    · rw [c, Nat.sub_self] at h; simp at h; exact .inr ⟨c.symm, h⟩
    · rw [List.getElem?_eq_none (by simp; omega)] at h; cases h
/-- A new block of rows that may be written. -/
theorem Fits.fresh (h : Fits G E N w V β R fr a) {l : List AV} {vs : List Value} (hc : RepC w V β R l vs) (t : TypeId) :
    ∃ β', Fits G E N (w.alloc (.cells vs.toArray t)) V β' (R ++ [.mat 1 l.length (fun _ => l)]) fr a ∧ Rep (w.alloc (.cells vs.toArray t)) V β' (R ++ [.mat 1 l.length (fun _ => l)]) (.loc R.length 0 0) (.pointer (some ⟨w.heap.size, 0, none⟩)) ∧
      Ext w V β R (w.alloc (.cells vs.toArray t)) V β' (R ++ [.mat 1 l.length (fun _ => l)]) := by
  have g := grow_hid h.wld (.cells vs.toArray t)
  have hx := ext_snoc (b := w.heap.size) (r := .mat 1 l.length (fun _ => l)) g h.reg
  have hreg := g.reg h.reg
  have lt : ∀ ad v, V ad = some v → ad.block < w.heap.size := fun ad v hv => World.block_lt_of_cell? w ad (h.wld.sub ad v hv)
  refine ⟨_, ⟨g.wld h.wld, h.glo, ⟨fun i j b hi hj hbi hbj => ?_, fun i e sz n hr b hb => ?_, fun i n sz row hr => ?_⟩, h.frm.ext hx, h.pin.next (by simp) (fun i hi hl => live_snoc hi hl) (fun i hi => by show (if i = R.length then _ else β i) = _; rw [if_neg (by omega)])⟩, .loc _ _ _ _ (by simp) rfl (fun n sz row hr => ?_), hx⟩
  · have key : ∀ i, Reg.live (R ++ [.mat 1 l.length (fun _ => l)]) i → i < R.length ∨ i = R.length := fun i hi => by have := live_lt hi; simp at this; omega
    have old : ∀ i, i < R.length → Reg.live (R ++ [.mat 1 l.length (fun _ => l)]) i → Reg.live R i := fun i hl hi => by
      rcases hi with ⟨e, sz, n, hi⟩ | ⟨n, sz, row, hi⟩
      · rw [List.getElem?_append_left hl] at hi; exact .inl ⟨e, sz, n, hi⟩
      · rw [List.getElem?_append_left hl] at hi; exact .inr ⟨n, sz, row, hi⟩
    rcases key i hi with c1 | c1 <;> rcases key j hj with c2 | c2
    · rw [if_neg (by omega)] at hbi hbj
      exact h.reg.dis i j b (old i c1 hi) (old j c2 hj) hbi hbj
    · rw [if_neg (by omega)] at hbi
      rw [if_pos c2] at hbj; injection hbj with hbj
      have := bound_lt h.reg (old i c1 hi) hbi; omega
    · rw [if_neg (by omega)] at hbj
      rw [if_pos c1] at hbi; injection hbi with hbi
      have := bound_lt h.reg (old j c2 hj) hbj; omega
    · omega
  · rcases snoc_get hr with ⟨hl, hr2⟩ | ⟨_, hr2⟩
    · rw [if_neg (by omega)] at hb
      exact hreg.arr i e sz n hr2 b hb
    · cases hr2
  · rcases snoc_get hr with ⟨hl, hr2⟩ | ⟨e0, hr2⟩
    · obtain ⟨b, us, e, h1, h2, h3, h4, h5, h6⟩ := h.reg.mat i n sz row hr2
      refine ⟨b, us, e, by rw [if_neg (by omega)]; exact h1, h2, (heap_alloc_old w _ _ (blk_lt h3)).trans h3, h4, h5, fun j hj => ⟨(h6 j hj).1, fun k x hk => ?_⟩⟩
      obtain ⟨v, p1, p2, p3⟩ := (h6 j hj).2 k x hk
      exact ⟨v, p1, p2, p3.ext hx⟩
    · subst e0
      injection hr2 with e1 e2 e3
      subst e1; subst e2; subst e3
      refine ⟨w.heap.size, vs.toArray, t, by simp, .inr h.wld.bel.size, heap_alloc_new w _, by simp [hc.len], fun ad he => ?_, fun j hj => ⟨rfl, fun k x hk => ?_⟩⟩
      · cases hv : V ad with
        | none => rfl
        | some v => have := lt ad v hv; omega
      · obtain rfl : j = 0 := by omega
        have hkl : k < vs.length := by rw [hc.len]; exact (List.getElem?_eq_some_iff.1 hk).1
        exact ⟨vs[k], by simp [hkl], hc.one _ (List.getElem_mem _), (hc.rep k x _ hk (List.getElem?_eq_getElem hkl)).ext hx⟩
  · rcases snoc_get hr with ⟨hl, hr2⟩ | ⟨_, hr2⟩
    · omega
    · injection hr2 with e1 e2 e3
      subst e2
      exact ⟨w.heap.size, by simp, by simp⟩
end
end Go.Proofs.Ytdcabfonjmeajaa.Abs
set_option linter.unusedVariables false
set_option linter.unusedSimpArgs false
namespace Go.Proofs.Ytdcabfonjmeajaa.Abs
open Go.RowKit
/-- Rows of which one is another one now. -/
def setR (n : Nat) (row : Nat → List AV) (j : Nat) (l : List AV) : Nat → List AV := match n with
  | 1 => fun _ => l
  | _ => fun t => cond (Nat.beq t j) l (row t)
theorem setR_at {n : Nat} {row : Nat → List AV} {j : Nat} {l : List AV} (hj : j < n) {t : Nat} (ht : t < n) : setR n row j l t = if t = j then l else row t := by
  unfold setR
  split
  · rw [if_pos (by omega)]
  · by_cases h : t = j
    · show cond (Nat.beq t j) l (row t) = _
      rw [if_pos h, (Nat.beq_eq ▸ h : Nat.beq t j = true)]; rfl
    · show cond (Nat.beq t j) l (row t) = _
      rw [if_neg h, show Nat.beq t j = false from by rw [← Bool.not_eq_true, Nat.beq_eq]; exact h]; rfl
section
variable {P : Program} {tys : Tys} {G : Glo} {E : Ent} {N : Nat} {w : World} {V : View} {β : Bnd} {R : List Reg} {fr : Fr} {a : Act}
theorem setRow_os (w : World) (g : Nat) (cs : Array Value) : (w.setRow g cs).os = w.os ∧ (w.setRow g cs).tape = w.tape ∧ (w.setRow g cs).output = w.output ∧ (w.setRow g cs).heap.size = w.heap.size := ⟨rfl, rfl, rfl, by simp [World.setRow]⟩
theorem mul_lt_of {j j' sz : Nat} (h : j' < j) : j' * sz + sz ≤ j * sz := by
  have : (j' + 1) * sz ≤ j * sz := Nat.mul_le_mul_right _ h
  rw [Nat.add_mul, Nat.one_mul] at this
  exact this
/-- A row's cells are written. -/
theorem Fits.write (h : Fits G E N w V β R fr a) {r n sz : Nat} {row : Nat → List AV} (hr : R[r]? = some (.mat n sz row)) {j k : Nat} (hj : j < n) {c : List AV} {cv : List Value} (hc : RepC w V β R c cv) (hk : k + c.length ≤ (row j).length) :
    ∃ (b : Nat) (w' : World), β r = some b ∧ (storeCells ⟨b, j * sz + k, none⟩ cv 0).run P w = .ok () w' ∧ Fits G E N w' V β (R.set r (.mat n sz (setR n row j ((row j).take k ++ (c ++ (row j).drop (k + c.length)))))) fr a := by
  obtain ⟨b, cs, e, hb, hbd, hh, hsz, hhid, hrow⟩ := h.reg.mat r n sz row hr
  have hrl := (hrow j hj).1
  have hle : j * sz + sz ≤ n * sz := mul_lt_of hj
  have hcl := hc.len
  let cs' : Array Value := (cs.toList.take (j * sz + k) ++ cv ++ cs.toList.drop (j * sz + k + cv.length)).toArray
  have hsize : cs'.size = cs.size := by
    show (_ : List Value).toArray.size = _
    simp only [List.size_toArray, List.length_append, List.length_take, List.length_drop, Array.length_toList]
    omega
  have hget : ∀ q, cs'[q]? = if q < j * sz + k then cs[q]? else if q < j * sz + k + cv.length then cv[q - (j * sz + k)]? else cs[q]? := fun q => by
    show (_ : List Value).toArray[q]? = _
    rw [List.getElem?_toArray]
    have hl1 : (cs.toList.take (j * sz + k)).length = j * sz + k := by rw [List.length_take, Array.length_toList]; omega
    have hl2 : (cs.toList.take (j * sz + k) ++ cv).length = j * sz + k + cv.length := by rw [List.length_append, hl1]
    by_cases c1 : q < j * sz + k
    · rw [if_pos c1, List.getElem?_append_left (by omega), List.getElem?_append_left (by omega), List.getElem?_take, if_pos c1, Array.getElem?_toList]
    · rw [if_neg c1]
      by_cases c2 : q < j * sz + k + cv.length
      · rw [if_pos c2, List.getElem?_append_left (by omega), List.getElem?_append_right (by omega), hl1]
      · rw [if_neg c2, List.getElem?_append_right (by omega), hl2, List.getElem?_drop, Array.getElem?_toList]
        congr 1
        omega
  have hrun := run_storeCells_at P b (j * sz + k) e cv 0 cs w hh (by omega) hc.one
  have hoth : ∀ k', k' ≠ b → (w.setRow b cs').heap[k']? = w.heap[k']? := fun k' hk' => setRow_other w b k' cs' hk'
  have hcell : ∀ ad : Addr, ad.block ≠ b → (w.setRow b cs').cell? ad = w.cell? ad := fun ad had => World.cell?_of_block (hoth _ had)
  have hlive : Reg.live R r := .inr ⟨n, sz, row, hr⟩
  have hrlt : r < R.length := (List.getElem?_eq_some_iff.1 hr).1
  have oth : ∀ i x, i ≠ r → (R.set r x)[i]? = R[i]? := fun i x hi => by rw [List.getElem?_set_ne (Ne.symm hi)]
  have self : ∀ x, (R.set r x)[r]? = some x := fun x => by rw [List.getElem?_set_self hrlt]
  have hx : Ext w V β R (w.setRow b cs') V β (R.set r (.mat n sz (setR n row j ((row j).take k ++ (c ++ (row j).drop (k + c.length)))))) := by
    refine ⟨.refl V, by simp, fun i e' sz' n' hi hri => ?_, fun i n' sz' row' hi hri => ?_⟩
    · by_cases hir : i = r
      · subst hir; rw [self] at hri; cases hri
      · rw [oth i _ hir] at hri
        refine ⟨hri, rfl, fun b' hb' => hoth b' (fun heq => hir ?_)⟩
        subst heq
        exact h.reg.dis i r b' (.inl ⟨e', sz', n', hri⟩) hlive hb' hb
    · by_cases hir : i = r
      · subst hir
        rw [self] at hri
        injection hri with hri; injection hri with e1 e2 e3
        subst e1; subst e2
        exact ⟨rfl, row, hr⟩
      · rw [oth i _ hir] at hri
        exact ⟨rfl, row', hri⟩
  have hsub : ∀ ad v, V ad = some v → (w.setRow b cs').cell? ad = some v := fun ad v hv => by
    rw [hcell ad (fun he => by rw [hhid ad he] at hv; cases hv)]
    exact h.wld.sub ad v hv
  have lvW : ∀ i, Reg.live (R.set r (.mat n sz (setR n row j ((row j).take k ++ (c ++ (row j).drop (k + c.length)))))) i → Reg.live R i := fun i hi => by
    by_cases hir : i = r
    · subst hir; exact hlive
    · rcases hi with ⟨x, y, z, hi⟩ | ⟨x, y, z, hi⟩
      · rw [oth i _ hir] at hi; exact .inl ⟨x, y, z, hi⟩
      · rw [oth i _ hir] at hi; exact .inr ⟨x, y, z, hi⟩
  refine ⟨b, w.setRow b cs', hb, hrun, ⟨⟨?_, hsub, h.wld.up, h.wld.new⟩, h.glo, ⟨fun i i' b' hi hi' => ?_, fun i e' sz' n' hri b' hb' => ?_, fun i n' sz' row' hri => ?_⟩, h.frm.ext hx, h.pin.next (by simp) (fun i _ hi => lvW i hi) (fun i _ => rfl)⟩⟩
  · refine h.wld.bel.trans (Y := fun i => i = b) ⟨rfl, rfl, rfl, by rw [(setRow_os w b cs').2.2.2]; exact Nat.le_refl _, fun i _ hi => hoth i hi⟩ (fun i hi => by subst hi; exact hbd)
  · have lv : ∀ i, Reg.live (R.set r (.mat n sz (setR n row j ((row j).take k ++ (c ++ (row j).drop (k + c.length)))))) i → Reg.live R i := fun i hi => by
      by_cases hir : i = r
      · subst hir; exact hlive
      · rcases hi with ⟨x, y, z, hi⟩ | ⟨x, y, z, hi⟩
        · rw [oth i _ hir] at hi; exact .inl ⟨x, y, z, hi⟩
        · rw [oth i _ hir] at hi; exact .inr ⟨x, y, z, hi⟩
    exact h.reg.dis i i' b' (lv i hi) (lv i' hi')
  · by_cases hir : i = r
    · subst hir; rw [self] at hri; cases hri
    · rw [oth i _ hir] at hri
      obtain ⟨p1, p2, p3⟩ := h.reg.arr i e' sz' n' hri b' hb'
      exact ⟨p1, by rw [(setRow_os w b cs').2.2.2]; exact p2, p3⟩
  · by_cases hir : i = r
    · subst hir
      rw [self] at hri
      injection hri with hri; injection hri with e1 e2 e3
      subst e1; subst e2; subst e3
      refine ⟨b, cs', e, hb, hbd, setRow_heap w b cs cs' e (0, 0) hh, by rw [hsize]; exact hsz, hhid, fun t ht => ?_⟩
      obtain ⟨rl, rk⟩ := hrow t ht
      rw [setR_at hj ht]
      by_cases htj : t = j
      · subst htj
        rw [if_pos rfl]
        have hl0 : ((row t).take k).length = k := by rw [List.length_take]; omega
        refine ⟨by simp only [List.length_append, List.length_take, List.length_drop]; omega, fun q x hq => ?_⟩
        rw [hget]
        by_cases c1 : q < k
        · rw [List.getElem?_append_left (by omega), List.getElem?_take, if_pos c1] at hq
          obtain ⟨v, p1, p2, p3⟩ := rk q x hq
          exact ⟨v, by rw [if_pos (by omega)]; exact p1, p2, p3.ext hx⟩
        · rw [List.getElem?_append_right (by omega), hl0] at hq
          by_cases c2 : q - k < c.length
          · rw [List.getElem?_append_left c2] at hq
            have hv : cv[q - k]? = some (cv[q - k]'(by omega)) := List.getElem?_eq_getElem _
            exact ⟨cv[q - k]'(by omega), by rw [if_neg (by omega), if_pos (by omega), show t * sz + q - (t * sz + k) = q - k by omega]; exact hv, hc.one _ (List.getElem_mem _), (hc.rep _ x _ hq hv).ext hx⟩
          · rw [List.getElem?_append_right (by omega), List.getElem?_drop, show k + c.length + (q - k - c.length) = q by omega] at hq
            obtain ⟨v, p1, p2, p3⟩ := rk q x hq
            exact ⟨v, by rw [if_neg (by omega), if_neg (by omega)]; exact p1, p2, p3.ext hx⟩
      · rw [if_neg htj]
        refine ⟨rl, fun q x hq => ?_⟩
        obtain ⟨v, p1, p2, p3⟩ := rk q x hq
        have hql : q < sz := by rw [← rl]; exact (List.getElem?_eq_some_iff.1 hq).1
        refine ⟨v, ?_, p2, p3.ext hx⟩
        rw [hget]
        rcases Nat.lt_or_gt_of_ne htj with c1 | c1
        · have := mul_lt_of (sz := sz) c1
          rw [if_pos (by omega)]; exact p1
        · have := mul_lt_of (sz := sz) c1
          rw [if_neg (by omega), if_neg (by omega)]; exact p1
    · rw [oth i _ hir] at hri
      obtain ⟨b', us, e', q1, q2, q3, q4, q5, q6⟩ := h.reg.mat i n' sz' row' hri
      have hne : b' ≠ b := fun heq => hir (by subst heq; exact h.reg.dis i r b' (.inr ⟨n', sz', row', hri⟩) hlive q1 hb)
      refine ⟨b', us, e', q1, q2, (hoth b' hne).trans q3, q4, q5, fun t ht => ⟨(q6 t ht).1, fun q x hq => ?_⟩⟩
      obtain ⟨v, p1, p2, p3⟩ := (q6 t ht).2 q x hq
      exact ⟨v, p1, p2, p3.ext hx⟩
/-- The operation. -/
theorem store_run (hT : TyOK P tys) (h : Fits G E N w V β R fr a) {o : Oper} {t : TypeId} {p x : Operand} {i : TI} {r n sz : Nat} {row : Nat → List AV} {j k : Nat} {c : List AV} (hop : o.op = .store t p x) (hp : look G fr p = .loc r j k) (hR : R[r]? = some (.mat n sz row)) (hj : j < n) (hi : ty tys t = some i) (hc : cellsA (look G fr x) = some c) (hs : c.length = i.size) (hk : k + c.length ≤ (row j).length) :
    ∃ w', (execOp a.eval o).run P w = .ok .skip w' ∧ Fits G E N w' V β (R.set r (.mat n sz (setR n row j ((row j).take k ++ (c ++ (row j).drop (k + c.length)))))) fr a := by
  have hrp := look_rep h p; rw [hp] at hrp
  have hrc := one_of (look_rep h x) hc
  obtain ⟨b, w', hb, hrun, hf⟩ := h.write (P := P) hR hj hrc hk
  obtain ⟨_, _, hl⟩ := hrp.loc_inv
  obtain ⟨b', hb', e⟩ := hl n sz row hR
  rw [hb] at hb'; injection hb' with hb'; subst hb'
  obtain ⟨inf, hinf, hsz⟩ := Option.map_eq_some_iff.1 (ty_size (hT t i hi))
  refine ⟨w', ?_, hf⟩
  have hn : (a.eval x).cells.size = inf.size := by rw [hsz, ← hs, ← hrc.len, Array.length_toList]
  simp [execOp, hop, e, Instr.storeAt, Instr.sureAddr, storeVar, sizeOf, typeInfo, hinf, hn, hrun]
end
end Go.Proofs.Ytdcabfonjmeajaa.Abs
set_option linter.unusedVariables false
set_option linter.unusedSimpArgs false
namespace Go.Proofs.Ytdcabfonjmeajaa.Abs
open Go.RowKit
section
variable {P : Program} {tys : Tys} {G : Glo} {E : Ent} {N : Nat} {w : World} {V : View} {β : Bnd} {R : List Reg} {fr : Fr} {a : Act}
theorem kill_get {R : List Reg} {i j : Nat} {r : Reg} (h : (R.set i .dead)[j]? = some r) (hr : r ≠ .dead) : j ≠ i ∧ R[j]? = some r := by
  by_cases e : j = i
  · subst e
    by_cases hl : j < R.length
    · rw [List.getElem?_set_self hl] at h
      exact absurd (Option.some.inj h).symm hr
    · rw [List.getElem?_eq_none (by simp; omega)] at h; cases h
  · rw [List.getElem?_set_ne (Ne.symm e)] at h
    exact ⟨e, h⟩
theorem kill_lt {R : List Reg} {i j : Nat} {r : Reg} (hr : r ≠ .dead) {r' : Reg} (h : ((R.set i .dead) ++ [r'])[j]? = some r) : (j < R.length ∧ j ≠ i ∧ R[j]? = some r) ∨ (j = R.length ∧ r' = r) := by
  rcases snoc_get h with ⟨hl, h2⟩ | ⟨e, h2⟩
  · obtain ⟨p, q⟩ := kill_get h2 hr
    exact .inl ⟨by simpa using hl, p, q⟩
  · exact .inr ⟨by simpa using e, h2⟩
/-- A row that may be appended to, in a new region; the region i (if there is one) is gone. -/
theorem Fits.snoc (h : Fits G E N w V β R fr a) (i : Nat) {n' sz e : Nat} {row' : Nat → List AV} {v' : Value} {w' : World} {V' : View} {xs : List Value} (hbel : ∃ Y : Nat → Prop, BelX Y w w' ∧ ∀ b, Y b → E.bd b) (hV : VLe V V') (hsub : ∀ ad v, V' ad = some v → w'.cell? ad = some v) (hnew : ∀ ad v, V' ad = some v → V ad = some v ∨ E.bd ad.block)
    (hold : ∀ k b, Reg.live R k → k ≠ i → β k = some b → w'.heap[b]? = w.heap[b]? ∧ v'.ownBlock ≠ some b ∧ ∀ ad : Addr, ad.block = b → V ad = none → V' ad = none)
    (hg : ∀ g, v'.ownBlock = some g → E.bd g ∧ g < w'.heap.size ∧ ∀ ad : Addr, ad.block = g → n' * sz ≤ ad.off → V' ad = none) (hrep : Rep0 V' (.sl n' sz row') v') (hown : w'.ownsRow 0 e sz v' n' xs) :
    ∃ β', Fits G E N w' V' β' ((R.set i .dead) ++ [.arr e sz n']) fr a ∧ Rep w' V' β' ((R.set i .dead) ++ [.arr e sz n']) (.own R.length n' sz row') v' := by
  obtain ⟨Y, hb, hY⟩ := hbel
  have hx : Ext w V β R w' V' (fun k => if k = R.length then v'.ownBlock else β k) ((R.set i .dead) ++ [.arr e sz n']) := by
    refine ⟨hV, by simp, fun k e' sz' n hk hr => ?_, fun k n sz' row hk hr => ?_⟩
    · rcases kill_lt (by simp) hr with ⟨_, hki, hr⟩ | ⟨hk2, _⟩
      · refine ⟨hr, ?_, fun b hb => (hold k b (.inl ⟨e', sz', n, hr⟩) hki hb).1⟩
        show (if k = R.length then _ else β k) = β k
        rw [if_neg (by omega)]
      · omega
    · rcases kill_lt (by simp) hr with ⟨_, hki, hr⟩ | ⟨hk2, _⟩
      · refine ⟨?_, row, hr⟩
        show (if k = R.length then _ else β k) = β k
        rw [if_neg (by omega)]
      · omega
  have old : ∀ k, Reg.live ((R.set i .dead) ++ [.arr e sz n']) k → k < R.length → Reg.live R k ∧ k ≠ i := fun k hk hl => by
    rcases hk with ⟨x, y, z, hk⟩ | ⟨x, y, z, hk⟩
    · rcases kill_lt (by simp) hk with ⟨_, p, q⟩ | ⟨p, _⟩
      · exact ⟨.inl ⟨x, y, z, q⟩, p⟩
      · omega
    · rcases kill_lt (by simp) hk with ⟨_, p, q⟩ | ⟨p, _⟩
      · exact ⟨.inr ⟨x, y, z, q⟩, p⟩
      · omega
  refine ⟨_, ⟨⟨h.wld.bel.trans hb hY, hsub, h.wld.up.trans hV, fun ad v hv => (hnew ad v hv).elim (h.wld.new ad v) .inr⟩, h.glo.mv hV, ⟨fun k k' b hk hk' hbk hbk' => ?_, fun k e' sz' n hr b hbk => ?_, fun k n sz' row hr => ?_⟩, h.frm.ext hx, h.pin.next (by simp) (fun k hk hl => (old k hl hk).1) (fun k hk => by show (if k = R.length then _ else β k) = _; rw [if_neg (by omega)])⟩, .own _ _ _ _ _ (by simp) hrep (fun e' sz' n hr => ?_)⟩
  · have l1 := live_lt hk
    have l2 := live_lt hk'
    simp at l1 l2
    by_cases c1 : k = R.length <;> by_cases c2 : k' = R.length
    · omega
    · rw [if_pos c1] at hbk; rw [if_neg c2] at hbk'
      obtain ⟨p, q⟩ := old k' hk' (by omega)
      exact absurd hbk (hold k' b p q hbk').2.1
    · rw [if_neg c1] at hbk; rw [if_pos c2] at hbk'
      obtain ⟨p, q⟩ := old k hk (by omega)
      exact absurd hbk' (hold k b p q hbk).2.1
    · rw [if_neg c1] at hbk; rw [if_neg c2] at hbk'
      exact h.reg.dis k k' b (old k hk (by omega)).1 (old k' hk' (by omega)).1 hbk hbk'
  · rcases kill_lt (by simp) hr with ⟨hl, hki, hr⟩ | ⟨hk2, hr⟩
    · rw [if_neg (by omega)] at hbk
      obtain ⟨p1, p2, p3⟩ := h.reg.arr k e' sz' n hr b hbk
      exact ⟨p1, Nat.lt_of_lt_of_le p2 hb.size, fun ad he ho => (hold k b (.inl ⟨e', sz', n, hr⟩) hki hbk).2.2 ad he (p3 ad he ho)⟩
    · rw [if_pos hk2] at hbk
      injection hr with e1 e2 e3
      subst e1; subst e2; subst e3
      exact hg b hbk
  · rcases kill_lt (by simp) hr with ⟨hl, hki, hr⟩ | ⟨hk2, hr⟩
    · obtain ⟨b, us, e', q1, q2, q3, q4, q5, q6⟩ := h.reg.mat k n sz' row hr
      obtain ⟨o1, o2, o3⟩ := hold k b (.inr ⟨n, sz', row, hr⟩) hki q1
      refine ⟨b, us, e', by rw [if_neg (by omega)]; exact q1, q2, o1.trans q3, q4, fun ad he => o3 ad he (q5 ad he), fun j hj => ⟨(q6 j hj).1, fun q x hq => ?_⟩⟩
      obtain ⟨v, p1, p2, p3⟩ := (q6 j hj).2 q x hq
      exact ⟨v, p1, p2, p3.ext hx⟩
    · cases hr
  · rcases kill_lt (by simp) hr with ⟨hl, _, _⟩ | ⟨_, hr⟩
    · omega
    · injection hr with e1 e2 e3
      subst e1; subst e2; subst e3
      exact ⟨rfl, rfl, by simp, xs, hown⟩
theorem flat_get {f : Nat → List Value} {sz : Nat} : ∀ {m : Nat}, (∀ j, j < m → (f j).length = sz) → ((List.range m).flatMap f).length = m * sz ∧ ∀ j i, j < m → i < sz → ((List.range m).flatMap f)[j * sz + i]? = (f j)[i]?
  | 0, _ => ⟨by simp, fun j i hj => by omega⟩
  | m + 1, h => by
    obtain ⟨h1, h2⟩ := flat_get (m := m) (fun j hj => h j (by omega))
    rw [List.range_succ, List.flatMap_append, List.flatMap_singleton]
    refine ⟨by rw [List.length_append, h1, h m (by omega), Nat.add_mul, Nat.one_mul], fun j i hj hi => ?_⟩
    by_cases c : j < m
    · have := mul_lt_of (sz := sz) c
      rw [List.getElem?_append_left (by omega)]
      exact h2 j i c hi
    · obtain rfl : j = m := by omega
      rw [List.getElem?_append_right (by omega), h1, Nat.add_sub_cancel_left]
theorem flat_inv {f : Nat → List Value} {sz m : Nat} (h : ∀ j, j < m → (f j).length = sz) (hs : 0 < sz) {q : Nat} {u : Value} (hq : ((List.range m).flatMap f)[q]? = some u) : ∃ j i, j < m ∧ i < sz ∧ q = j * sz + i ∧ (f j)[i]? = some u := by
  obtain ⟨h1, h2⟩ := flat_get h
  have hlt : q < m * sz := by rw [← h1]; exact (List.getElem?_eq_some_iff.1 hq).1
  have hd : q / sz * sz + q % sz = q := by rw [Nat.mul_comm]; exact Nat.div_add_mod q sz
  have hj : q / sz < m := by rw [Nat.div_lt_iff_lt_mul hs]; exact hlt
  refine ⟨q / sz, q % sz, hj, Nat.mod_lt _ hs, hd.symm, ?_⟩
  rw [← h2 _ _ hj (Nat.mod_lt _ hs), hd]; exact hq
end
end Go.Proofs.Ytdcabfonjmeajaa.Abs
set_option linter.unusedVariables false
set_option linter.unusedSimpArgs false
namespace Go.Proofs.Ytdcabfonjmeajaa.Abs
open Go.RowKit
section
variable {P : Program} {tys : Tys} {G : Glo} {E : Ent} {N : Nat} {w : World} {V : View} {β : Bnd} {R : List Reg} {fr : Fr} {a : Act}
/-- Rows of values that stand for rows of abstract values. -/
structure RowsOK (V : View) (n sz : Nat) (row : Nat → List AV) (vs : Nat → List Value) : Prop where
  len : ∀ j, j < n → (row j).length = sz ∧ (vs j).length = sz
  one : ∀ j, j < n → ∀ v ∈ vs j, v.oneCell' = true
  rep : ∀ (j i : Nat) (a : AV) (v : Value), j < n → (row j)[i]? = some a → (vs j)[i]? = some v → Rep0 V a v
/-- A new block, of which the first n rows are seen. -/
theorem Fits.newOwn (h : Fits G E N w V β R fr a) (i : Nat) {w1 : World} (hw1 : BelX (fun _ => False) w w1) (hh : w1.heap = w.heap) {C : Array Value} {e n sz cap : Nat} {row : Nat → List AV} {vs : Nat → List Value} (hr : RowsOK V n sz row vs) (hC : C.size = cap * sz) (hn : n ≤ cap) (hm : cap ≤ maxLen) (hs : 0 < sz)
    (hc : ∀ j q, j < n → q < sz → C[j * sz + q]? = (vs j)[q]?) :
    ∃ V' β', Fits G E N (w1.alloc (.cells C e)) V' β' ((R.set i .dead) ++ [.arr e sz n]) fr a ∧ Rep (w1.alloc (.cells C e)) V' β' ((R.set i .dead) ++ [.arr e sz n]) (.own R.length n sz row) (.slice (some ⟨w.heap.size, 0, none⟩) n cap) := by
  have hsz : w1.heap.size = w.heap.size := by rw [hh]
  have hnew : (w1.alloc (.cells C e)).heap[w.heap.size]? = some (.cells C e (0, 0)) := by rw [← hsz]; exact heap_alloc_new w1 _
  have hold : ∀ k, k < w.heap.size → (w1.alloc (.cells C e)).heap[k]? = w.heap[k]? := fun k hk => by rw [heap_alloc_old w1 _ k (by omega), hh]
  have lt : ∀ ad v, V ad = some v → ad.block < w.heap.size := fun ad v hv => World.block_lt_of_cell? w ad (h.wld.sub ad v hv)
  let V' : View := fun ad => if ad.block = w.heap.size then (if ad.off < n * sz then (w1.alloc (.cells C e)).cell? ad else none) else V ad
  have hV : VLe V V' := fun ad v hv => by
    show (if ad.block = w.heap.size then _ else V ad) = some v
    rw [if_neg (by have := lt ad v hv; omega)]; exact hv
  have hle : ∀ j q, j < n → q < sz → j * sz + q < n * sz := fun j q hj hq => by have := mul_lt_of (sz := sz) hj; omega
  have hB : BelX (fun _ => False) w (w1.alloc (.cells C e)) := ⟨hw1.os, hw1.tape, hw1.output, by simp [hsz], fun k hk _ => hold k hk⟩
  have hCl : C.toList.length = cap * sz := by rw [Array.length_toList]; exact hC
  have hnc : n * sz ≤ cap * sz := Nat.mul_le_mul_right _ hn
  refine Exists.elim (h.snoc i (n' := n) (sz := sz) (e := e) (row' := row) (v' := .slice (some ⟨w.heap.size, 0, none⟩) n cap) (w' := w1.alloc (.cells C e)) (V' := V') (xs := C.toList.take (n * sz)) ⟨_, hB, fun b f => f.elim⟩ hV (fun ad v hv => ?_) (fun ad v hv => ?_) (fun k b hk _ hb => ?_) (fun g hg => ?_) ?_ ?_) (fun β' hf => ⟨V', β', hf.1, hf.2⟩)
  · have hv : (if ad.block = w.heap.size then (if ad.off < n * sz then (w1.alloc (.cells C e)).cell? ad else none) else V ad) = some v := hv
    split at hv
    · split at hv
      · exact hv
      · cases hv
    · exact (World.cell?_of_block (hold _ (lt ad v hv))).trans (h.wld.sub ad v hv)
  · have hv : (if ad.block = w.heap.size then (if ad.off < n * sz then (w1.alloc (.cells C e)).cell? ad else none) else V ad) = some v := hv
    split at hv
    · rename_i e'; exact .inr (.inr (by rw [e']; exact h.wld.bel.size))
    · exact .inl hv
  · have hlt := bound_lt h.reg hk hb
    refine ⟨hold b hlt, fun e' => ?_, fun ad he hv => ?_⟩
    · simp [Value.ownBlock] at e'; omega
    · show (if ad.block = w.heap.size then _ else V ad) = none
      rw [if_neg (by omega)]; exact hv
  · have hg : w.heap.size = g := by simpa [Value.ownBlock] using hg
    subst hg
    refine ⟨.inr h.wld.bel.size, by simp [hsz], fun ad he ho => ?_⟩
    show (if ad.block = w.heap.size then (if ad.off < n * sz then _ else none) else V ad) = none
    rw [if_pos he, if_neg (by omega)]
  · refine .sl n sz row _ cap ⟨w.heap.size, 0, none⟩ vs hn (fun _ => rfl) hr.len hr.one (fun j q u hj hu => ?_) (fun j q x u hj hx hu => (hr.rep j q x u hj hx hu).mv hV)
    have hq : q < sz := by rw [← (hr.len j hj).2]; exact (List.getElem?_eq_some_iff.1 hu).1
    rw [add_plain]
    show (if w.heap.size = w.heap.size then (if j * sz + q < n * sz then _ else none) else _) = some u
    rw [if_pos rfl, if_pos (hle j q hj hq), cell_of_row _ _ _ C e (0, 0) hnew, hc j q hj hq]
    exact hu
  · refine ⟨by rw [List.length_take, hCl]; omega, .inr ⟨w.heap.size, cap, C, rfl, Nat.zero_le _, hnew, hn, hm, hC, rfl⟩⟩
/-- The same block, more of it seen. -/
theorem Fits.more (h : Fits G E N w V β R fr a) {i e n m sz cap g : Nat} {row row2 : Nat → List AV} {vs2 : Nat → List Value} {cur : Array Value} (hR : R[i]? = some (.arr e sz n)) (hs : Rep w V β R (.own i n sz row) (.slice (some ⟨g, 0, none⟩) n cap)) (hg : w.heap[g]? = some (.cells cur e (0, 0))) (hroom : n + m ≤ cap) (hcm : cap ≤ maxLen) (hcs : cur.size = cap * sz) (hsz : 0 < sz)
    (hr : RowsOK V m sz row2 vs2) :
    ∃ V' β', Fits G E N (w.setRow g (cur.toList.take (n * sz) ++ (List.range m).flatMap vs2 ++ cur.toList.drop (n * sz + ((List.range m).flatMap vs2).length)).toArray) V' β' ((R.set i .dead) ++ [.arr e sz (n + m)]) fr a ∧
      Rep (w.setRow g (cur.toList.take (n * sz) ++ (List.range m).flatMap vs2 ++ cur.toList.drop (n * sz + ((List.range m).flatMap vs2).length)).toArray) V' β' ((R.set i .dead) ++ [.arr e sz (n + m)]) (.own R.length (n + m) sz (fun j => if j < n then row j else row2 (j - n))) (.slice (some ⟨g, 0, none⟩) (n + m) cap) := by
  obtain ⟨hil, h0, hfull⟩ := hs.own_inv
  obtain ⟨_, _, hob, _⟩ := hfull e sz n hR
  have hbi : β i = some g := by rw [← hob]; rfl
  obtain ⟨hbd, hglt, hhid⟩ := h.reg.arr i e sz n hR g hbi
  obtain ⟨fl, fg⟩ := flat_get (f := vs2) (m := m) (sz := sz) (fun j hj => (hr.len j hj).2)
  have hnm : (n + m) * sz = n * sz + m * sz := Nat.add_mul n m sz
  have hcap : (n + m) * sz ≤ cap * sz := Nat.mul_le_mul_right _ hroom
  let C : Array Value := (cur.toList.take (n * sz) ++ (List.range m).flatMap vs2 ++ cur.toList.drop (n * sz + ((List.range m).flatMap vs2).length)).toArray
  have ht : (cur.toList.take (n * sz)).length = n * sz := by rw [List.length_take, Array.length_toList]; omega
  have hC : C.size = cap * sz := by
    show (_ : List Value).toArray.size = _
    simp only [List.size_toArray, List.length_append, List.length_drop, Array.length_toList, ht, fl]
    omega
  have hC1 : ∀ q, q < n * sz → C[q]? = cur[q]? := fun q hq => by
    show (_ : List Value).toArray[q]? = _
    rw [List.getElem?_toArray, List.append_assoc, List.getElem?_append_left (by omega), List.getElem?_take, if_pos hq, Array.getElem?_toList]
  have hC2 : ∀ j q, j < m → q < sz → C[(n + j) * sz + q]? = (vs2 j)[q]? := fun j q hj hq => by
    have := mul_lt_of (sz := sz) hj
    rw [Nat.add_mul]
    show (_ : List Value).toArray[n * sz + j * sz + q]? = _
    rw [List.getElem?_toArray, List.getElem?_append_left (by rw [List.length_append, ht, fl]; omega), List.getElem?_append_right (by omega), ht, show n * sz + j * sz + q - n * sz = j * sz + q by omega]
    exact fg j q hj hq
  have hoth : ∀ k, k ≠ g → (w.setRow g C).heap[k]? = w.heap[k]? := fun k hk => setRow_other w g k C hk
  have hnew : (w.setRow g C).heap[g]? = some (.cells C e (0, 0)) := setRow_heap w g cur C e (0, 0) hg
  have hcur : ∀ ad u, ad.block = g → V ad = some u → ad.off < n * sz ∧ cur[ad.off]? = some u ∧ ad.spot = none := fun ad u he hv => by
    have h1 := h.wld.sub ad u hv
    have h2 : ad.off < n * sz := by
      rcases Nat.lt_or_ge ad.off (n * sz) with c | c
      · exact c
      · rw [hhid ad he c] at hv; cases hv
    unfold World.cell? at h1
    rw [he, hg] at h1
    simp only at h1
    cases hsp : ad.spot with
    | none => rw [hsp] at h1; exact ⟨h2, by simpa using h1, rfl⟩
    | some s => rw [hsp] at h1; simp at h1
  let V' : View := fun ad => if ad.block = g ∧ n * sz ≤ ad.off ∧ ad.off < (n + m) * sz then (w.setRow g C).cell? ad else V ad
  have hsub : ∀ ad u, V ad = some u → (w.setRow g C).cell? ad = some u := fun ad u hv => by
    by_cases he : ad.block = g
    · obtain ⟨h1, h2, h3⟩ := hcur ad u he hv
      unfold World.cell?
      rw [he, hnew]
      simp only
      rw [h3]
      simp only [Option.isSome_none, Bool.false_eq_true, if_false]
      rw [hC1 _ h1]; exact h2
    · exact (World.cell?_of_block (hoth _ he)).trans (h.wld.sub ad u hv)
  have hV : VLe V V' := fun ad u hv => by
    show (if _ then _ else V ad) = some u
    split
    · exact hsub ad u hv
    · exact hv
  have hB : BelX (fun k => k = g) w (w.setRow g C) := ⟨rfl, rfl, rfl, by rw [(setRow_os w g C).2.2.2]; exact Nat.le_refl _, fun k _ hk => hoth k hk⟩
  obtain ⟨A, c, ad0, vs, ev, hn0, hA, hl, h1, hcel, hrep⟩ := h0.sl_inv
  have hA' : A = some ⟨g, 0, none⟩ := by injection ev with e1 e2 e3; exact e1.symm
  refine Exists.elim (h.snoc i (n' := n + m) (sz := sz) (e := e) (row' := fun j => if j < n then row j else row2 (j - n)) (v' := .slice (some ⟨g, 0, none⟩) (n + m) cap) (w' := w.setRow g C) (V' := V') (xs := C.toList.take ((n + m) * sz)) ⟨_, hB, fun b hb => hb ▸ hbd⟩ hV (fun ad v hv => ?_) (fun ad v hv => ?_) (fun k b hk hki hb => ?_) (fun g' hg' => ?_) ?_ ?_) (fun β' hf => ⟨V', β', hf.1, hf.2⟩)
  · have hv : (if ad.block = g ∧ n * sz ≤ ad.off ∧ ad.off < (n + m) * sz then (w.setRow g C).cell? ad else V ad) = some v := hv
    split at hv
    · exact hv
    · exact hsub ad v hv
  · have hv : (if ad.block = g ∧ n * sz ≤ ad.off ∧ ad.off < (n + m) * sz then (w.setRow g C).cell? ad else V ad) = some v := hv
    split at hv
    · rename_i hc; exact .inr (hc.1 ▸ hbd)
    · exact .inl hv
  · have hne : b ≠ g := fun e' => hki (h.reg.dis k i b hk (.inl ⟨e, sz, n, hR⟩) hb (e' ▸ hbi))
    refine ⟨hoth b hne, fun e' => hne (by simpa [Value.ownBlock] using e'.symm), fun ad he hv => ?_⟩
    show (if _ then _ else V ad) = none
    rw [if_neg (fun hc => hne (he.symm.trans hc.1))]; exact hv
  · have hg' : g = g' := by simpa [Value.ownBlock] using hg'
    subst hg'
    refine ⟨hbd, by rw [(setRow_os w g C).2.2.2]; exact hglt, fun ad he ho => ?_⟩
    show (if _ then _ else V ad) = none
    rw [if_neg (fun hc => by omega)]
    exact hhid ad he (by omega)
  · refine .sl (n + m) sz _ _ cap ⟨g, 0, none⟩ (fun j => if j < n then vs j else vs2 (j - n)) hroom (fun _ => rfl) (fun j hj => ?_) (fun j hj => ?_) (fun j q u hj hu => ?_) (fun j q x u hj hx hu => ?_)
    · by_cases c1 : j < n
      · simp only [if_pos c1]; exact hl j c1
      · simp only [if_neg c1]; exact hr.len _ (by omega)
    · by_cases c1 : j < n
      · simp only [if_pos c1]; exact h1 j c1
      · simp only [if_neg c1]; exact hr.one _ (by omega)
    · by_cases c1 : j < n
      · simp only [if_pos c1] at hu
        have hA2 := hA (by omega)
        rw [hA'] at hA2
        injection hA2 with hA2
        have := hV _ _ (hcel j q u c1 hu)
        rw [← hA2] at this
        exact this
      · simp only [if_neg c1] at hu
        have hq : q < sz := by rw [← (hr.len (j - n) (by omega)).2]; exact (List.getElem?_eq_some_iff.1 hu).1
        have h2 := hC2 (j - n) q (by omega) hq
        rw [show n + (j - n) = j by omega] at h2
        have hjm := mul_lt_of (sz := sz) hj
        have hjn : n * sz ≤ j * sz := Nat.mul_le_mul_right _ (by omega)
        rw [add_plain]
        show (if g = g ∧ n * sz ≤ j * sz + q ∧ j * sz + q < (n + m) * sz then _ else _) = some u
        rw [if_pos ⟨rfl, by omega, by omega⟩, cell_of_row _ _ _ C e (0, 0) hnew, h2]
        exact hu
    · by_cases c1 : j < n
      · simp only [if_pos c1] at hx hu; exact (hrep j q x u c1 hx hu).mv hV
      · simp only [if_neg c1] at hx hu; exact (hr.rep _ q x u (by omega) hx hu).mv hV
  · exact ⟨by rw [List.length_take, Array.length_toList, hC]; omega, .inr ⟨g, cap, C, rfl, Nat.zero_le _, hnew, hroom, hcm, hC, rfl⟩⟩
end
end Go.Proofs.Ytdcabfonjmeajaa.Abs
set_option linter.unusedVariables false
set_option linter.unusedSimpArgs false
namespace Go.Proofs.Ytdcabfonjmeajaa.Abs
open Go.RowKit
/-- Rows, and others behind them. -/
def appR (n : Nat) (row row2 : Nat → List AV) : Nat → List AV := fun j => if j < n then row j else row2 (j - n)
section
variable {P : Program} {tys : Tys} {G : Glo} {E : Ent} {N : Nat} {w : World} {V : View} {β : Bnd} {R : List Reg} {fr : Fr} {a : Act}
theorem rows_of {m sz : Nat} {row2 : Nat → List AV} {u : Value} (h : Rep0 V (.sl m sz row2) u) : ∃ (A : Option Addr) (c : Nat) (ad : Addr) (vs : Nat → List Value), u = .slice A m c ∧ (0 < m → A = some ad) ∧ RowsOK V m sz row2 vs ∧ ∀ j i v, j < m → (vs j)[i]? = some v → V (ad.add (j * sz + i)) = some v := by
  obtain ⟨A, c, ad, vs, rfl, hn, hA, hl, h1, hc, hr⟩ := h.sl_inv
  exact ⟨A, c, ad, vs, rfl, hA, ⟨hl, h1, hr⟩, hc⟩
theorem same_append (h : Fits G E N w V β R fr a) (i : Nat) {e n m sz : Nat} {row row2 : Nat → List AV} {v : Value} {xs : List Value} (hm : m = 0) (h0 : Rep0 V (.sl n sz row) v) (hown : w.ownsRow 0 e sz v n xs)
    (hv : v.ownBlock = none ∨ (R[i]? = some (.arr e sz n) ∧ v.ownBlock = β i)) :
    ∃ V' β', Fits G E N w V' β' ((R.set i .dead) ++ [.arr e sz (n + m)]) fr a ∧ Rep w V' β' ((R.set i .dead) ++ [.arr e sz (n + m)]) (.own R.length (n + m) sz (appR n row row2)) v := by
  subst hm
  refine Exists.elim (h.snoc i (n' := n) (sz := sz) (e := e) (row' := appR n row row2) (v' := v) (w' := w) (V' := V) (xs := xs) ⟨_, BelX.refl (fun _ => False) w, fun b f => f.elim⟩ (.refl V) h.wld.sub (fun ad u hu => .inl hu) (fun k b hk hki hb => ⟨rfl, fun e' => ?_, fun ad _ hu => hu⟩) (fun g hg => ?_) (h0.rows (fun j hj => ?_)) hown) (fun β' hf => ⟨V, β', hf.1, hf.2⟩)
  · rcases hv with hv | ⟨hR, hv⟩
    · rw [hv] at e'; cases e'
    · exact hki (h.reg.dis k i b hk (.inl ⟨e, sz, n, hR⟩) hb (hv ▸ e'))
  · rcases hv with hv | ⟨hR, hv⟩
    · rw [hv] at hg; cases hg
    · exact h.reg.arr i e sz n hR g (hv ▸ hg)
  · unfold appR; rw [if_pos hj]
theorem run_append_zero {t ty e : TypeId} {inf : TypeInfo} (ht : P.underlying t = some (.slice e)) (hi : P.info? e = some inf) {n c : Nat} {A A2 : Option Addr} {c2 : Nat} (hn : n ≤ c) : (Builtin.append_ #[t, t] ty #[.slice A n c, .slice A2 0 c2]).run P w = .ok (.slice A n c) w := by
  cases A <;> cases A2 <;> simp [Builtin.append_, run_underlying ht, sizeOf, typeInfo, hi, Builtin.lenOf, Builtin.firstCells, hn, loadCells, loadCellsFrom, storeCells]
theorem zeroCells_size (z : Array Value) (n : Nat) : (Builtin.zeroCells z n).size = n * z.size := by simp [Builtin.zeroCells]
/-- Cells of a row, one behind the other, in front of others. -/
theorem flat_front {m sz : Nat} {vs : Nat → List Value} (hl : ∀ j, j < m → (vs j).length = sz) {D : Array Value} {j q : Nat} (hj : j < m) (hq : q < sz) : (((List.range m).flatMap vs).toArray ++ D)[j * sz + q]? = (vs j)[q]? := by
  obtain ⟨h1, h2⟩ := flat_get hl
  have := mul_lt_of (sz := sz) hj
  rw [Array.getElem?_append_left (by simp only [List.size_toArray]; omega), List.getElem?_toArray]
  exact h2 j q hj hq
theorem flat_congr {α : Type} {f g : α → List Value} : ∀ {l : List α}, (∀ x ∈ l, f x = g x) → l.flatMap f = l.flatMap g
  | [], _ => rfl
  | x :: l, h => by rw [List.flatMap_cons, List.flatMap_cons, h x (by simp), flat_congr (fun y hy => h y (by simp [hy]))]
theorem appendV_run (h : Fits G E N w V β R fr a) {t ty e : TypeId} {inf : TypeInfo} {z : Value} {sz bytes : Nat} (ht : P.underlying t = some (.slice e)) (hi : P.info? e = some inf) (hz : inf.zero = some z) (hsize : inf.size = sz) (hby : inf.bytes = bytes) (hzs : z.cells.size = sz) (hs0 : 0 < sz)
    {i n m : Nat} {row row2 : Nat → List AV} {v u : Value} (hv : (n = 0 ∧ v = .slice none 0 0) ∨ (R[i]? = some (.arr e sz n) ∧ Rep w V β R (.own i n sz row) v)) (hx : Rep0 V (.sl m sz row2) u) (h63 : n + m ≤ maxLen) (hbytes : (n + m) * bytes ≤ 140737488355328) :
    ∃ v' w' V' β', (Builtin.append_ #[t, t] ty #[v, u]).run P w = .ok v' w' ∧ Fits G E N w' V' β' ((R.set i .dead) ++ [.arr e sz (n + m)]) fr a ∧ Rep w' V' β' ((R.set i .dead) ++ [.arr e sz (n + m)]) (.own R.length (n + m) sz (appR n row row2)) v' := by
  subst hsize
  subst hby
  obtain ⟨A2, c2, ad2, vs2, rfl, hA2, hr2, hc2⟩ := rows_of hx
  have key : (n = 0 ∧ v = .slice none 0 0) ∨ ∃ g cap cur, v = .slice (some ⟨g, 0, none⟩) n cap ∧ w.heap[g]? = some (.cells cur e (0, 0)) ∧ n ≤ cap ∧ cap ≤ maxLen ∧ cur.size = cap * inf.size ∧ R[i]? = some (.arr e inf.size n) ∧ Rep w V β R (.own i n inf.size row) v := by
    rcases hv with hv | ⟨hR, hv⟩
    · exact .inl hv
    · obtain ⟨_, _, hf⟩ := hv.own_inv
      obtain ⟨_, _, _, xs, hown⟩ := hf e inf.size n hR
      rcases hown.2 with ⟨h1, h2⟩ | ⟨g, cap, cur, h1, _, h3, h4, h5, h6, _⟩
      · exact .inl ⟨h2, h1⟩
      · exact .inr ⟨g, cap, cur, h1, h3, h4, h5, h6, hR, hv⟩
  have h0 : Rep0 V (.sl n inf.size row) v := by
    rcases hv with ⟨h1, h2⟩ | ⟨_, hv⟩
    · subst h1; subst h2
      exact .sl 0 _ row none 0 default (fun _ => []) (Nat.le_refl _) (fun h => by omega) (fun j h => by omega) (fun j h => by omega) (fun j i v h => by omega) (fun j i a v h => by omega)
    · exact hv.own_inv.2.1
  by_cases hm : m = 0
  · have hrun : (Builtin.append_ #[t, t] ty #[v, .slice A2 m c2]).run P w = .ok v w := by
      subst hm
      obtain ⟨A, c, ad, vs, rfl, hn, _⟩ := h0.sl_inv
      exact run_append_zero ht hi hn
    obtain ⟨V', β', h1, h2⟩ := same_append h i (e := e) (row := row) (row2 := row2) (xs := match key with | _ => (match v with | .slice none _ _ => [] | .slice (some ad) _ _ => (match w.heap[ad.block]? with | some (.cells cur _ _) => cur.toList.take (n * inf.size) | _ => []) | _ => [])) hm h0 (by
      rcases key with ⟨rfl, rfl⟩ | ⟨g, cap, cur, rfl, k1, k2, k3, k4, _⟩
      · exact ⟨by simp, .inl ⟨rfl, rfl⟩⟩
      · have : n * inf.size ≤ cap * inf.size := Nat.mul_le_mul_right _ k2
        simp only [k1]
        exact ⟨by rw [List.length_take, Array.length_toList]; omega, .inr ⟨g, cap, cur, rfl, Nat.zero_le _, k1, k2, k3, k4, rfl⟩⟩) (by
      rcases key with ⟨rfl, rfl⟩ | ⟨g, cap, cur, rfl, k1, k2, k3, k4, k5, k6⟩
      · exact .inl rfl
      · obtain ⟨_, _, hf⟩ := k6.own_inv
        exact .inr ⟨k5, (hf e inf.size n k5).2.2.1⟩)
    exact ⟨v, w, V', β', hrun, h1, h2⟩
  · have hA2 := hA2 (by omega)
    subst hA2
    obtain ⟨fl, fg⟩ := flat_get (f := vs2) (m := m) (sz := inf.size) (fun j hj => (hr2.len j hj).2)
    have hnews : ∀ q x, ((List.range m).flatMap vs2)[q]? = some x → w.cell? (ad2.add q) = some x := fun q x hq => by
      obtain ⟨j, i', hj, hi', rfl, hv⟩ := flat_inv (fun j hj => (hr2.len j hj).2) hs0 hq
      exact h.wld.sub _ _ (hc2 j i' x hj hv)
    have hone : ∀ x ∈ (List.range m).flatMap vs2, x.oneCell' = true := fun x hx => by
      obtain ⟨j, hj, hx⟩ := List.mem_flatMap.1 hx
      exact hr2.one j (List.mem_range.1 hj) x hx
    have hsm : n + m ≤ 9223372036854775807 := by simp only [maxLen] at h63; omega
    have hdrew : BelX (fun _ => False) w w.drew := ⟨rfl, rfl, rfl, Nat.le_refl _, fun _ _ _ => rfl⟩
    rcases key with ⟨rfl, rfl⟩ | ⟨g, cap, cur, rfl, k1, k2, k3, k4, k5, k6⟩
    · have hrun := run_append_nil (P := P) w t ty e inf z ht hi hz ad2 m c2 _ fl hnews (by omega) (by omega) (by simp only [Nat.zero_add] at hbytes; omega)
      have hge := grownCap_ge w m 0 e
      have hle := grownCap_le_maxLen w m 0 e (by omega)
      obtain ⟨V', β', h1, h2⟩ := h.newOwn i (w1 := w.drew) hdrew rfl (C := (((List.range m).flatMap vs2).toArray ++ Builtin.zeroCells z.cells (grownCap w m 0 e - m))) (e := e) (n := m) (sz := inf.size) (cap := grownCap w m 0 e) (row := row2) (vs := vs2) hr2 (by
        rw [Array.size_append, zeroCells_size, hzs, List.size_toArray, fl, ← Nat.add_mul]
        congr 1
        omega) hge hle hs0 (fun j q hj hq => flat_front (fun j hj => (hr2.len j hj).2) hj hq)
      refine ⟨_, _, V', β', hrun, ?_, ?_⟩
      · rw [Nat.zero_add]; exact h1
      · rw [Nat.zero_add]
        exact Ref.orows (fun j hj => by simp [appR]) _ _ _ _ _ h2
    · by_cases hroom : n + m ≤ cap
      · have hfit : n * inf.size + ((List.range m).flatMap vs2).length ≤ cur.size := by
          rw [fl, k4, ← Nat.add_mul]
          exact Nat.mul_le_mul_right _ hroom
        have hrun := run_append_room (P := P) w t ty e inf ht hi g n cap cur k1 ad2 m c2 _ fl hnews hone hroom hfit
        obtain ⟨V', β', h1, h2⟩ := h.more k5 k6 k1 hroom k3 k4 hs0 hr2
        exact ⟨_, _, V', β', hrun, h1, h2⟩
      · obtain ⟨A, c, ad, vs, ev, hn, hA, hl, h1', hcel, hrep⟩ := h0.sl_inv
        obtain ⟨ofl, ofg⟩ := flat_get (f := vs) (m := n) (sz := inf.size) (fun j hj => (hl j hj).2)
        have hA' : A = some ⟨g, 0, none⟩ := by injection ev with e1 e2 e3; exact e1.symm
        have holds : ∀ q x, ((List.range n).flatMap vs)[q]? = some x → w.cell? ((⟨g, 0, none⟩ : Addr).add q) = some x := fun q x hq => by
          obtain ⟨j, i', hj, hi', rfl, hv⟩ := flat_inv (fun j hj => (hl j hj).2) hs0 hq
          have hA2 := hA (by omega)
          rw [hA'] at hA2; injection hA2 with hA2
          rw [hA2]
          exact h.wld.sub _ _ (hcel j i' x hj hv)
        have hrun := run_append_grow (P := P) w t ty e inf z ht hi hz ⟨g, 0, none⟩ n cap _ ofl holds ad2 m c2 _ fl hnews (by omega) (by omega) (growslice_fits (by omega) hbytes)
        have hge := grownCap_ge w (n + m) cap e
        have hle := grownCap_le_maxLen w (n + m) cap e h63
        have hall : (List.range (n + m)).flatMap (fun j => if j < n then vs j else vs2 (j - n)) = (List.range n).flatMap vs ++ (List.range m).flatMap vs2 := by
          rw [List.range_add, List.flatMap_append]
          congr 1
          · exact flat_congr (fun j hj => by rw [if_pos (List.mem_range.1 hj)])
          · rw [List.flatMap_map]
            exact flat_congr (fun j hj => by rw [if_neg (by omega), Nat.add_sub_cancel_left])
        have hrows : RowsOK V (n + m) inf.size (appR n row row2) (fun j => if j < n then vs j else vs2 (j - n)) := by
          refine ⟨fun j hj => ?_, fun j hj => ?_, fun j q x u hj hx hu => ?_⟩
          · unfold appR
            by_cases c1 : j < n
            · simp only [if_pos c1]; exact hl j c1
            · simp only [if_neg c1]; exact hr2.len _ (by omega)
          · by_cases c1 : j < n
            · simp only [if_pos c1]; exact h1' j c1
            · simp only [if_neg c1]; exact hr2.one _ (by omega)
          · unfold appR at hx
            by_cases c1 : j < n
            · simp only [if_pos c1] at hx hu; exact hrep j q x u c1 hx hu
            · simp only [if_neg c1] at hx hu; exact hr2.rep _ q x u (by omega) hx hu
        obtain ⟨V', β', q1, q2⟩ := h.newOwn i (w1 := w.drew) hdrew rfl (C := (((List.range n).flatMap vs).toArray ++ ((List.range m).flatMap vs2).toArray ++ Builtin.zeroCells z.cells (grownCap w (n + m) cap e - (n + m)))) (e := e) (n := n + m) (sz := inf.size) (cap := grownCap w (n + m) cap e) hrows (by
          rw [Array.size_append, Array.size_append, zeroCells_size, hzs, List.size_toArray, List.size_toArray, ofl, fl, ← Nat.add_mul, ← Nat.add_mul]
          congr 1
          omega) hge hle hs0 (fun j q hj hq => by
          rw [show ((List.range n).flatMap vs).toArray ++ ((List.range m).flatMap vs2).toArray = ((List.range (n + m)).flatMap (fun j => if j < n then vs j else vs2 (j - n))).toArray from by rw [hall]; simp]
          exact flat_front (fun j hj => (hrows.len j hj).2) hj hq)
        exact ⟨_, _, V', β', hrun, q1, q2⟩
end
end Go.Proofs.Ytdcabfonjmeajaa.Abs
set_option linter.unusedVariables false
set_option linter.unusedSimpArgs false
namespace Go.Proofs.Ytdcabfonjmeajaa.Abs
open Go.RowKit
/-- The cells of a slice's literal. -/
def litA (sz len : Nat) (parts : List (Nat × AV)) : Option (List AV) := fillA ((List.range len).map (· * sz)) (List.replicate len sz) (List.replicate (len * sz) .any) parts
def litR (sz : Nat) (l : List AV) : Nat → List AV := fun j => (l.drop (j * sz)).take sz
section
variable {P : Program} {tys : Tys} {G : Glo} {E : Ent} {N : Nat} {w : World} {V : View} {β : Bnd} {R : List Reg} {fr : Fr} {a : Act}
theorem RepC.anys {w : World} {V : View} {β : Bnd} {R : List Reg} (vs : List Value) (h1 : ∀ v ∈ vs, v.oneCell' = true) : RepC w V β R (List.replicate vs.length .any) vs :=
  ⟨by simp, h1, fun i a v hi hv => by
    have := (List.getElem?_eq_some_iff.1 hi).2
    rw [List.getElem_replicate] at this
    subst this
    exact .st (.any v)⟩
theorem rows_list {sz len : Nat} (hs : 0 < sz) {l : List AV} {vs : List Value} (hc : RepC w V β R l vs) (hrf : rf.rfL l = true) (hl : l.length = len * sz) : RowsOK V len sz (litR sz l) (fun j => (vs.drop (j * sz)).take sz) := by
  have hle : ∀ j, j < len → j * sz + sz ≤ len * sz := fun j hj => mul_lt_of hj
  refine ⟨fun j hj => ?_, fun j hj v hv => hc.one v (List.mem_of_mem_drop (List.mem_of_mem_take hv)), fun j i x v hj hx hv => ?_⟩
  · have := hle j hj
    have := hc.len
    unfold litR
    simp only [List.length_take, List.length_drop]
    omega
  · have h := (hc.drop (j * sz)).take sz
    have h2 := h.rep i x v hx hv
    refine h2.rf (rfL_get hrf (j * sz + i) x ?_)
    unfold litR at hx
    rw [List.getElem?_take] at hx
    split at hx
    · rw [List.getElem?_drop] at hx; exact hx
    · cases hx
theorem lit_run (hT : TyOK P tys) (h : Fits G E N w V β R fr a) {t : TypeId} {i : TI} (hi : ty tys t = some i) (he : 0 < i.elem) {len : Nat} {parts : List (Nat × Operand)} {l : List AV} (hl : litA i.elem len (parts.map (fun p => (p.1, look G fr p.2))) = some l) (hlen : len * i.elem ≤ 16777216) :
    ∃ cs : Array Value, RepC w V β R l cs.toList ∧ l.length = len * i.elem ∧ (Instr.buildSlice t len (parts.map (fun p => (p.1, a.eval p.2))).toArray).run P w = .ok (.slice (some ⟨w.heap.size, 0, none⟩) len len) (w.alloc (.cells cs i.el)) := by
  obtain ⟨inf, z, hu, hinf, hsz, _, hz, hzs, hone⟩ := ty_sl (hT t i hi) he
  have hzc : z.cells.size = inf.size := by rw [hzs, hsz]
  let C0 : Array Value := if len * inf.size = 0 then #[] else (Array.range (len * inf.size)).map (z.cells[· % z.cells.size]!)
  have hC0 : C0.size = len * i.elem := by
    show (if _ then _ else _ : Array Value).size = _
    rw [hsz]
    split
    · rename_i e; rw [e]; rfl
    · simp
  have hone0 : ∀ v ∈ C0.toList, v.oneCell' = true := fun v hv => by
    have hv : v ∈ (if len * inf.size = 0 then #[] else (Array.range (len * inf.size)).map (z.cells[· % z.cells.size]!) : Array Value).toList := hv
    split at hv
    · simp at hv
    · rw [Array.toList_map] at hv
      obtain ⟨q, _, rfl⟩ := List.mem_map.1 hv
      have hq : q % z.cells.size < z.cells.size := Nat.mod_lt _ (by omega)
      rw [getElem!_pos z.cells _ hq]
      exact hone _ (by rw [← Array.getElem_toList hq]; exact List.getElem_mem _)
  have hr0 : RepC w V β R (List.replicate (len * i.elem) .any) C0.toList := by
    have := RepC.anys (w := w) (V := V) (β := β) (R := R) C0.toList hone0
    rw [Array.length_toList, hC0] at this
    exact this
  obtain ⟨cs, h1, h2⟩ := fill_run (place := fun i => some (i * inf.size, inf.size)) (fun q o s h3 h4 => by
    rw [List.getElem?_map] at h3
    obtain ⟨q', hq', rfl⟩ := Option.map_eq_some_iff.1 h3
    have e1 := (List.getElem?_eq_some_iff.1 hq').2
    rw [List.getElem_range] at e1
    have e2 := (List.getElem?_eq_some_iff.1 h4).2
    rw [List.getElem_replicate] at e2
    rw [← e1, ← e2, hsz]) _ (parts.map (fun p => (p.1, a.eval p.2))) _ l C0 (by simp) (fun j q x hj => by
      rw [List.getElem?_map] at hj ⊢
      obtain ⟨p, hp, e⟩ := Option.map_eq_some_iff.1 hj
      obtain ⟨rfl, rfl⟩ := Prod.mk.inj e
      exact ⟨a.eval p.2, by rw [hp]; rfl, look_rep h p.2⟩) hr0 hl
  have hfl : ∀ (offs fsz : List Nat) (ap : List (Nat × AV)) (l0 l1 : List AV), fillA offs fsz l0 ap = some l1 → l1.length = l0.length := by
    intro offs fsz ap
    induction ap with
    | nil => intro l0 l1 h; injection h with h; rw [h]
    | cons p ap ih =>
      intro l0 l1 h
      obtain ⟨q, x⟩ := p
      unfold fillA at h
      split at h
      · cases h
      split at h
      · cases h
      split at h
      · cases h
      split at h
      · cases h
      split at h
      · cases h
      rename_i hle
      have hle := Nat.le_of_ble_eq_true hle
      rw [ih _ _ h]
      simp only [List.length_append, List.length_take, List.length_drop]
      omega
  have hll := hfl _ _ _ _ _ hl
  rw [List.length_replicate] at hll
  refine ⟨cs, h2, hll, ?_⟩
  have hsm : ¬ (len * inf.size > 2 ^ 24) := by rw [hsz]; omega
  unfold Instr.buildSlice
  by_cases h0 : len * inf.size = 0
  · have e0 : C0 = #[] := if_pos h0
    rw [e0] at h1
    simp [run_underlying hu, sizeOf, typeInfo, hinf, hsm, h0, newRow]
    rw [show Array.map (fun _ => (default : Value)) (Array.range 0) = #[] from by apply Array.ext <;> simp, h1]
    simp
  · have e0 : C0 = (Array.range (len * inf.size)).map (z.cells[· % z.cells.size]!) := if_neg h0
    rw [e0] at h1
    simp [run_underlying hu, sizeOf, typeInfo, zeroValue, hinf, hz, hsm, h0, newRow]
    rw [h1]
    simp
theorem alloc_run (hT : TyOK P tys) (h : Fits G E N w V β R fr a) {t : TypeId} {i : TI} (hi : ty tys t = some i) {z : Value} {zs : List Value} (hz : i.zero = z :: zs) :
    ∃ (cs : Array Value), cs.toList = z :: zs ∧ (∀ v ∈ z :: zs, v.oneCell' = true) ∧ (Instr.alloc t true (.tuple #[])).run P w = .ok (.pointer (some ⟨w.heap.size, 0, none⟩)) (w.alloc (.cells cs t)) := by
  obtain ⟨inf, zv, hinf, hzv, hzc, hone⟩ := ty_zero (hT t i hi) (by rw [hz]; simp)
  refine ⟨zv.cells, hzc.trans hz, by rw [← hz]; exact hone, ?_⟩
  simp [Instr.alloc, zeroValue, typeInfo, hinf, hzv, newVar, newRow]
end
end Go.Proofs.Ytdcabfonjmeajaa.Abs
