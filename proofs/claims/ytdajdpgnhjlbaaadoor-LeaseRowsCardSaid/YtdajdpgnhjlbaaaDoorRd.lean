/- What can be read as data is read by the print's kinds: whole numbers, bools, strings, slices, structs; each under its theorem's own conditions. -/
import Derived.Test.YtdajdpgnhjlbaaaDoorWWords
import Derived.Test.YtdajdpgnhjlbaaaDoorWMore
import Derived.Deep.Slices
import Derived.Deep.Fields
import Derived.ChangeSame
import Derived.WideShapes
set_option linter.unusedVariables false
set_option linter.unusedSimpArgs false
namespace Go.Proofs.YtdajdpgnhjlbaaaDoor.Com
open Go.RowKit Go.Deep Go.Proofs.YtdajdpgnhjlbaaaDoorW.PrintWords Go.Proofs.YtdajdpgnhjlbaaaDoorW.PrintLast Go.Proofs.YtdajdpgnhjlbaaaDoorW.PrintMore

/-- Cells that are read as data of a type are an element of this kind, of which F holds. -/
def RdT {α : Type} (d : Kd α) (F : α → Prop) (w : World) (cs : List Value) : Prop := ∃ a : α, d.K w a cs ∧ F a
def Rd (P : Program) {α : Type} (d : Kd α) (F : α → Prop) (t : TypeId) : Prop :=
  ∀ (H : Type) (enc : TypeId × Value → H) (w : World) (fuel : Nat) (cs : List Value) (x : DataW H × List MemPlace), DataW.trod enc P w 0 (fun _ => true) true fuel t cs = some x → RdT d F w cs
section
variable {P : Program} {α β : Type} {d : Kd α} {d2 : Kd β} {F : α → Prop} {F2 : β → Prop} {t e : TypeId} {w : World} {cs : List Value}
theorem rd_int {k : IntKind} (ht : P.underlying t = some (.int k)) : Rd P (Kd.int k) (fun n => (Lit.int k n).wf = true) t := by
  intro H enc w fuel cs x h
  obtain ⟨n, rfl, _, hw⟩ := DataW.trod_int ht h
  exact ⟨n, rfl, hw⟩
theorem rd_bool (ht : P.underlying t = some .bool) : Rd P Kd.bool (fun _ => True) t := by
  intro H enc w fuel cs x h
  obtain ⟨n, rfl, _⟩ := DataW.trod_bool ht h
  exact ⟨n, rfl, trivial⟩
theorem rd_string (ht : P.underlying t = some .string) : Rd P Kd.string (fun s => s.size ≤ maxLen) t := by
  intro H enc w fuel cs x h
  obtain ⟨n, rfl, _, hw⟩ := DataW.trod_string ht h
  exact ⟨n, rfl, hw⟩
theorem rd_slice (ht : P.underlying t = some (.slice e)) (hC : P.cellsOf e = d.sz) (hr : Rd P d F e) : Rd P (Kd.slice e d) (fun xs => xs.length ≤ maxLen ∧ ∀ x ∈ xs, F x) t := by
  intro H enc w fuel cs x h
  rcases open_slice ht h with ⟨rfl, _⟩ | ⟨a, len, cap, m, n, D, Pl, rfl, _, hl, hm, hmm, _, hi⟩
  · exact ⟨[], ⟨none, 0, rfl, Nat.le_refl _, Kd.C_nil _ _⟩, by simp [maxLen], fun x hx => by simp at hx⟩
  · have hcap : m = cap := by rw [hmm]; rfl
    have hex : ∀ i : Fin len, ∃ (p : α) (c : List Value), d.K w p c ∧ F p ∧ ∀ j u, c[j]? = some u → w.cell? (a.add (i.val * d.sz + j)) = some u := by
      intro i
      obtain ⟨c, hc, htr⟩ := hi i.val (by omega)
      obtain ⟨p, hp, hF⟩ := hr H enc w n c _ htr
      obtain ⟨_, hcl, hat⟩ := World.cells?_some hc
      refine ⟨p, c, hp, hF, fun j u hj => ?_⟩
      have hjl : j < c.length := (List.getElem?_eq_some_iff.1 hj).1
      have := hat j (by omega)
      rw [hj, hC, Go.Deep.add_add] at this
      exact this
    let f : Fin len → α := fun i => Classical.choose (hex i)
    have hf : ∀ i : Fin len, ∃ c : List Value, d.K w (f i) c ∧ F (f i) ∧ ∀ j u, c[j]? = some u → w.cell? (a.add (i.val * d.sz + j)) = some u := fun i => Classical.choose_spec (hex i)
    have hlen : (List.ofFn f).length = len := by simp
    refine ⟨List.ofFn f, ⟨some a, cap, by rw [hlen], by omega, ⟨rfl, ?_, fun _ => ⟨a, rfl, fun j p hj => ?_⟩⟩⟩, by omega, fun x hx => ?_⟩
    · rw [hlen]; simp only [maxLen] at hm; omega
    · obtain ⟨hjl, hjp⟩ := List.getElem?_eq_some_iff.1 hj
      rw [List.getElem_ofFn] at hjp
      obtain ⟨c, hc, _, hcell⟩ := hf ⟨j, by omega⟩
      subst hjp
      exact ⟨c, d.K_len hc, hc, hcell⟩
    · obtain ⟨i, rfl⟩ := List.mem_ofFn.1 hx
      obtain ⟨c, _, hF, _⟩ := hf i
      exact hF
/-! A struct: its fields' cells, one behind the other. -/
theorem rdt_field {H : Type} {enc : TypeId × Value → H} {n : Nat} {xs : List (DataW H × List MemPlace)} {fs : Array Field} (hl : xs.length = fs.size)
    (hf : ∀ (i : Nat) (f : Field), fs[i]? = some f → DataW.trod enc P w 0 (fun _ => true) true n f.type ((cs.drop f.offset).take (P.cellsOf f.type)) = xs[i]?)
    (i : Nat) (f : Field) (hi : fs[i]? = some f) (o s : Nat) (ho : f.offset = o) (hs : P.cellsOf f.type = s) (hr : Rd P d F f.type) : RdT d F w ((cs.drop o).take s) := by
  have hil : i < fs.size := (Array.getElem?_eq_some_iff.1 hi).1
  have h := hf i f hi
  rw [List.getElem?_eq_getElem (by omega), ho, hs] at h
  exact hr H enc w n _ _ h
theorem rdt_cons (o s : Nat) (h1 : RdT d F w ((cs.drop o).take s)) (h2 : RdT d2 F2 w (cs.drop (o + s))) : RdT (Kd.pair d d2) (fun x => F x.1 ∧ F2 x.2) w (cs.drop o) := by
  obtain ⟨a, ha, hF⟩ := h1
  obtain ⟨b, hb, hG⟩ := h2
  refine ⟨(a, b), ⟨_, _, ?_, ha, hb⟩, hF, hG⟩
  rw [← List.drop_drop, List.take_append_drop]
theorem rdt_last (o s : Nat) (hl : cs.length = o + s) (h1 : RdT d F w ((cs.drop o).take s)) : RdT d F w (cs.drop o) := by
  rw [List.take_of_length_le (by rw [List.length_drop]; omega)] at h1
  exact h1
theorem rdt_iso {f : β → α} {g : α → β} (hg : ∀ a, f (g a) = a) (h : RdT d F w cs) : RdT (Kd.iso d f) (fun x => F (f x)) w cs := by
  obtain ⟨a, ha, hF⟩ := h
  refine ⟨g a, ?_, ?_⟩
  · show d.K w (f (g a)) cs
    rw [hg]; exact ha
  · show F (f (g a))
    rw [hg]; exact hF
theorem rdt_imp {F' : α → Prop} (hF : ∀ a, F a → F' a) (h : RdT d F w cs) : RdT d F' w cs := by
  obtain ⟨a, ha, h⟩ := h
  exact ⟨a, ha, hF a h⟩
end
end Go.Proofs.YtdajdpgnhjlbaaaDoor.Com
