/- A store of a whole value into a variable's block, as one event; each under its theorem's own conditions. -/
import Derived.Test.YtdajdpgnhjlbaaaDoorWWords
set_option linter.unusedVariables false
set_option linter.unusedSimpArgs false
namespace Go.Proofs.YtdajdpgnhjlbaaaDoorW.PrintWords
open Go.RowKit
section
variable {P : Program} {ops : Array Oper} {rest : List Oper} {o : Oper} {a : Act} {Q : Exit → Act → World → Prop}
theorem put_event {W : World} (hgd : o.guard = none) (hN : o.dst = none) {t : TypeId} {p x : Operand} (ho : o.op = .store t p x) {g off : Nat} {e : TypeId} {cur : Array Value} (cur' : Array Value) {u : Value} {seg : List Value}
    (hp : a.eval p = .pointer (some ⟨g, off, none⟩)) (hx : a.eval x = u) (hh : W.heap[g]? = some (.cells cur e (0, 0))) (hu : u.cells.toList = seg) (ht : (P.info? t).map (·.size) = some seg.length) (hfit : off + seg.length ≤ cur.size) (h1 : ∀ q ∈ seg, q.oneCell' = true)
    (hc : cur.toList.take off ++ seg ++ cur.toList.drop (off + seg.length) = cur'.toList)
    (h : ∀ w1, w1.heap[g]? = some (.cells cur' e (0, 0)) → (∀ k, k ≠ g → w1.heap[k]? = W.heap[k]?) → (∀ w0 : World, Below w0.heap.size w0 W → w0.heap.size ≤ g → Below w0.heap.size w0 w1) → wpList P ops Q rest a w1) : wpList P ops Q (o :: rest) a W := by
  refine wpList_plain hgd fun K hK => ?_
  have hrun := run_store_run (P := P) t u seg hh hu ht hfit h1
  unfold Oper.wp execOp
  simp only [ho, hp, hx, Sem.run_bind, Sem.run_pure, Result.andThen_ok, hrun]
  show K (a.put o.dst undef) _
  rw [hN]
  obtain ⟨c2, r1, _, r3⟩ := setCells_row seg off W cur hh hfit
  rw [hc] at r3
  obtain rfl : c2 = cur' := by cases c2; cases cur'; simp only at r3; rw [r3]
  refine hK _ _ (h _ r1 (fun k hk => setCells_far seg off k hk) (fun w0 hb hg => ?_))
  obtain ⟨s1, s2, s3, s4⟩ := setCells_same g seg off W
  exact ⟨s1.trans hb.os, s2.trans hb.tape, s3.trans hb.output, by rw [s4]; exact hb.size, fun k hk => (setCells_far seg off k (by omega)).trans (hb.block k hk)⟩
end
end Go.Proofs.YtdajdpgnhjlbaaaDoorW.PrintWords
