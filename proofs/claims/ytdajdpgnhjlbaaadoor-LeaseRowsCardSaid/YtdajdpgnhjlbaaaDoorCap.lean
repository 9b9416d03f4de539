/- A slice cut to its own length ('xs[:n:n]') and an append to it, which always makes new memory; each under its theorem's own conditions. -/
import Derived.Test.YtdajdpgnhjlbaaaDoorWWords
import Derived.Test.YtdajdpgnhjlbaaaDoorWMore
import Derived.ArgAppend
set_option linter.unusedVariables false
set_option linter.unusedSimpArgs false
namespace Go.Proofs.YtdajdpgnhjlbaaaDoor.Com
open Go.RowKit Go.Proofs.YtdajdpgnhjlbaaaDoorW.PrintWords Go.Proofs.YtdajdpgnhjlbaaaDoorW.PrintLast Go.Proofs.YtdajdpgnhjlbaaaDoorW.PrintMore

section
variable {P : Program}
/-- 'xs[:j:j]'. -/
theorem cut_cap (t e : TypeId) (kh : IntKind) {i : TypeInfo} (ht : P.underlying t = some (.slice e)) (hi : P.info? e = some i) (A : Option Addr) (n c : Nat) (j : Int) (h0 : 0 ≤ j) (hm : j ≤ n) (hc : n ≤ c) :
    ∀ W : World, (Instr.slice t (.slice A n c) none (some (.int kh j)) (some (.int kh j))).run P W = .ok (.slice A j.toNat j.toNat) W := by
  intro W
  have ha : (A.map fun x => x.add 0) = A := by cases A <;> simp [Addr.add]
  have hjc : j ≤ (c : Int) := by omega
  have q1 : (Instr.sliceBound (.int kh j) c .slice3Acap).run P W = .ok j.toNat W := by simp [run_sliceBound, h0, hjc]
  have q2 : (Instr.sliceBound (.int kh j) j.toNat .slice3B).run P W = .ok j.toNat W := run_sliceBound _ _ _ _ _ h0 (by omega)
  simp [Instr.slice, run_underlying ht, Instr.sliceBounds, q1, q2, sizeOf, typeInfo, hi, Result.andThen, ha]
/-- 'xs[i:j:j]'. -/
theorem cut_cap2 (t e : TypeId) (kl kh : IntKind) {i : TypeInfo} (ht : P.underlying t = some (.slice e)) (hi : P.info? e = some i) (size : Nat) (hsz : i.size = size) (A : Option Addr) (n c : Nat) (lo j : Int) (h0 : 0 ≤ lo) (h1 : lo ≤ j) (hm : j ≤ n) (hc : n ≤ c) :
    ∀ W : World, (Instr.slice t (.slice A n c) (some (.int kl lo)) (some (.int kh j)) (some (.int kh j))).run P W = .ok (.slice (if j.toNat = lo.toNat then A else A.map (·.add (lo.toNat * size))) (j.toNat - lo.toNat) (j.toNat - lo.toNat)) W := by
  intro W
  have hjc : j ≤ (c : Int) := by omega
  have h0j : 0 ≤ j := by omega
  have q1 : (Instr.sliceBound (.int kh j) c .slice3Acap).run P W = .ok j.toNat W := by simp [run_sliceBound, h0j, hjc]
  have q2 : (Instr.sliceBound (.int kh j) j.toNat .slice3B).run P W = .ok j.toNat W := run_sliceBound _ _ _ _ _ h0j (by omega)
  have q3 : (Instr.sliceBound (.int kl lo) j.toNat .slice3C).run P W = .ok lo.toNat W := run_sliceBound _ _ _ _ _ h0 (by omega)
  simp [Instr.slice, run_underlying ht, Instr.sliceBounds, q1, q2, q3, sizeOf, typeInfo, hi, Result.andThen, hsz]
end
end Go.Proofs.YtdajdpgnhjlbaaaDoor.Com
namespace Go.Proofs.YtdajdpgnhjlbaaaDoorW.PrintWords.Kd
open Go.RowKit Go.Proofs.YtdajdpgnhjlbaaaDoorW.PrintWords Go.Proofs.YtdajdpgnhjlbaaaDoorW.PrintLast Go.Proofs.YtdajdpgnhjlbaaaDoorW.PrintMore
section
variable {P : Program} {α : Type}
/-- An append of one element to a slice that has no room: new memory. -/
theorem run_append_cap (d : Kd α) {w0 W : World} (base : Nat) (t ty e : TypeId) (z : Value) (bytes : Nat)
    (ht : P.underlying t = some (.slice e)) (hinfo : (P.info? e).map (fun i => (i.zero, i.size, i.bytes)) = some (some z, d.sz, bytes)) (hz : z.cells.size = d.sz) (hs0 : 0 < d.sz) (hb0 : 0 < bytes)
    (A : Option Addr) (xs : List α) (p : α) (cs : List Value) (ok : Nat → Prop) (hplain : ∀ (w w' : World) (b : Nat) (o : Nat → Prop) (x : α) (c : List Value), d.K w x c → d.M w' b o x c)
    (hp : d.K W p cs) (hfresh : ∀ k, W.heap.size ≤ k → ok k)
    (HC : d.C W A xs.length xs) (HB : Below base w0 W) (hbase : base ≤ W.heap.size) (hl : (xs.length + 1) * bytes ≤ 140737488355328) :
    ∃ v1 w1, (Builtin.append_ #[t, t] ty #[.slice A xs.length xs.length, .slice (some ⟨W.heap.size, 0, none⟩) 1 1]).run P (W.alloc (.cells cs.toArray e)) = .ok v1 w1 ∧
      d.R e w1 base ok v1 (xs ++ [p]) ∧ Below base w0 w1 ∧ W.grownBy w1 none ∧ ∃ b, v1.ownBlock = some b ∧ W.heap.size ≤ b := by
  obtain ⟨i0, hi, hzz⟩ := Option.map_eq_some_iff.1 hinfo
  simp only [Prod.mk.injEq] at hzz
  obtain ⟨hz0, hz1, hz2⟩ := hzz
  have hlen : xs.length + 1 ≤ 140737488355328 := Nat.le_trans (Nat.le_mul_of_pos_right _ hb0) hl
  have hcl : cs.length = d.sz := d.K_len hp
  have hnews : ∀ j u, cs[j]? = some u → (W.alloc (.cells cs.toArray e)).cell? ((⟨W.heap.size, 0, none⟩ : Addr).add j) = some u := by
    simpa using World.news_of_block (cs := cs.toArray) (t := e) (fr := (0, 0)) (heap_alloc_new W (.cells cs.toArray e))
  have hone : ∀ u ∈ cs, u.oneCell' = true := d.K_one hp
  have fin : ∀ v1 w1 (inner : List Value), Reps (d.K W) d.sz xs inner → w1.ownsRow (W.alloc (.cells cs.toArray e)).heap.size e d.sz v1 (xs.length + 1) (inner ++ cs) → (W.alloc (.cells cs.toArray e)).grownBy w1 none →
      d.R e w1 base ok v1 (xs ++ [p]) ∧ Below base w0 w1 ∧ W.grownBy w1 none ∧ ∃ b, v1.ownBlock = some b ∧ W.heap.size ≤ b := by
    intro v1 w1 inner hr hown hg
    have hsz : (W.alloc (.cells cs.toArray e)).heap.size = W.heap.size + 1 := by simp
    have hb1 : ∀ k, v1.ownBlock = some k → W.heap.size ≤ k := fun k hk => by have := own_base hown k hk; omega
    obtain ⟨g, cap, hv, _, _⟩ := World.ownsRow.form hown (by omega)
    refine ⟨⟨fun k hk => hfresh k (hb1 k hk), inner ++ cs, ?_, ?_⟩, (HB.alloc hbase _).grown hg (by omega) (fun k hk => by cases hk), World.grownBy.trans (World.grownBy_alloc W _ _) hg, g, ?_, ?_⟩
    · rw [List.length_append, List.length_singleton]; exact own_weaken hown (by omega)
    · exact (hr.imp_ (fun x c hx => hplain _ _ _ _ x c hx)).snoc (hplain _ _ _ _ p cs hp) hcl
    · rw [hv]; rfl
    · exact hb1 g (by rw [hv]; rfl)
  rcases A with _ | ad
  · have h0 : xs.length = 0 := by
      rcases Nat.eq_zero_or_pos xs.length with h0 | h0
      · exact h0
      · obtain ⟨ad, h, _⟩ := HC.2.2 h0
        cases h
    obtain rfl : xs = [] := List.eq_nil_of_length_eq_zero h0
    obtain ⟨v1, w1, hrun, hown, hg, _⟩ := run_append_own (P := P) (W.alloc (.cells cs.toArray e)) (W.alloc (.cells cs.toArray e)).heap.size t ty e i0 z d.sz bytes ht hi hz0 hz1 hz2 hz hs0 (.slice none 0 0) 0 [] (World.ownsRow_nil _ _ e d.sz) ⟨W.heap.size, 0, none⟩ 1 1 cs (by rw [hcl, Nat.one_mul]) hnews hone (by simp only [maxLen]; omega) (by simpa using hl) (Nat.le_refl _)
    exact ⟨v1, w1, hrun, fin v1 w1 [] (Reps.none _ _) (by simpa using hown) (by simpa [Value.ownBlock] using hg)⟩
  · obtain ⟨inner, hir, hic⟩ := ReadsRow.inner_ (Kd.C_alloc HC (.cells cs.toArray e))
    obtain ⟨v1, w1, hrun, hown, hg⟩ := run_append_arg_grows (P := P) (W.alloc (.cells cs.toArray e)) t ty e i0 z d.sz bytes ht hi hz0 hz1 hz2 hz hs0 ad xs.length xs.length inner hir.1 hic ⟨W.heap.size, 0, none⟩ 1 1 cs (by rw [hcl, Nat.one_mul]) hnews (by omega) (by simp only [maxLen]; omega) hl
    exact ⟨v1, w1, hrun, fin v1 w1 inner (hir.imp_ (fun x c hx => d.K_of_M (hplain _ W 0 (fun _ => True) x c hx))) hown hg⟩
end
section
variable {P : Program} {ops : Array Oper} {rest : List Oper} {o : Oper} {a : Act} {Q : Exit → Act → World → Prop} {Kc : Act → World → Prop} {α : Type}
theorem R_append_cap (d : Kd α) {w0 W : World} (base : Nat) (hgd : o.guard = none) (s x : Operand) (t e : TypeId) (z : Value) (bytes : Nat)
    (ho : o.op = .call { callee := .builtin .append, args := #[s, x], argTypes := #[t, t] })
    (ht : P.underlying t = some (.slice e)) (hinfo : (P.info? e).map (fun i => (i.zero, i.size, i.bytes)) = some (some z, d.sz, bytes)) (hz : z.cells.size = d.sz) (hs0 : 0 < d.sz) (hb0 : 0 < bytes)
    (A : Option Addr) (xs : List α) (p : α) (cs : List Value) (ok : Nat → Prop) (hs : a.eval s = .slice A xs.length xs.length) (hx : a.eval x = .slice (some ⟨W.heap.size, 0, none⟩) 1 1)
    (hplain : ∀ (w w' : World) (b : Nat) (o : Nat → Prop) (x : α) (c : List Value), d.K w x c → d.M w' b o x c) (hp : d.K W p cs) (hfresh : ∀ k, W.heap.size ≤ k → ok k)
    (HC : d.C W A xs.length xs) (HB : Below base w0 W) (hbase : base ≤ W.heap.size) (hl : (xs.length + 1) * bytes ≤ 140737488355328)
    (h : ∀ v1 w1, d.R e w1 base ok v1 (xs ++ [p]) → Below base w0 w1 → W.grownBy w1 (Value.slice none 0 0).ownBlock → (v1.ownBlock = (Value.slice none 0 0).ownBlock ∨ ∃ b, v1.ownBlock = some b ∧ W.heap.size ≤ b) → wpList P ops Q rest (a.put o.dst v1) w1) :
    wpList P ops Q (o :: rest) a (W.alloc (.cells cs.toArray e)) := by
  obtain ⟨v1, w1, hrun, hR, hb1, hg, hat⟩ := run_append_cap d base t o.type e z bytes ht hinfo hz hs0 hb0 A xs p cs ok hplain hp hfresh HC HB hbase hl
  refine wpList_plain hgd fun K hK' => ?_
  unfold Oper.wp
  simp [execOp, ho, resolve, invoke, builtin, hs, hx, hrun, Result.andThen]
  exact hK' _ _ (h v1 w1 hR hb1 hg (.inr hat))
theorem R_append_cap_step (d : Kd α) {w0 W : World} (base : Nat) (hw : Region.wanted o (yielded ops a.tmps) = true) (s x : Operand) (t e : TypeId) (z : Value) (bytes : Nat)
    (ho : o.op = .call { callee := .builtin .append, args := #[s, x], argTypes := #[t, t] })
    (ht : P.underlying t = some (.slice e)) (hinfo : (P.info? e).map (fun i => (i.zero, i.size, i.bytes)) = some (some z, d.sz, bytes)) (hz : z.cells.size = d.sz) (hs0 : 0 < d.sz) (hb0 : 0 < bytes)
    (A : Option Addr) (xs : List α) (p : α) (cs : List Value) (ok : Nat → Prop) (hs : a.eval s = .slice A xs.length xs.length) (hx : a.eval x = .slice (some ⟨W.heap.size, 0, none⟩) 1 1)
    (hplain : ∀ (w w' : World) (b : Nat) (o : Nat → Prop) (x : α) (c : List Value), d.K w x c → d.M w' b o x c) (hp : d.K W p cs) (hfresh : ∀ k, W.heap.size ≤ k → ok k)
    (HC : d.C W A xs.length xs) (HB : Below base w0 W) (hbase : base ≤ W.heap.size) (hl : (xs.length + 1) * bytes ≤ 140737488355328)
    (h : ∀ v1 w1, d.R e w1 base ok v1 (xs ++ [p]) → Below base w0 w1 → W.grownBy w1 (Value.slice none 0 0).ownBlock → (v1.ownBlock = (Value.slice none 0 0).ownBlock ∨ ∃ b, v1.ownBlock = some b ∧ W.heap.size ≤ b) → Kc (a.put o.dst v1) w1) :
    if Region.wanted o (yielded ops a.tmps) = true then Oper.wp P o a (W.alloc (.cells cs.toArray e)) Kc Q else Kc (a.put o.dst undef) (W.alloc (.cells cs.toArray e)) := by
  obtain ⟨v1, w1, hrun, hR, hb1, hg, hat⟩ := run_append_cap d base t o.type e z bytes ht hinfo hz hs0 hb0 A xs p cs ok hplain hp hfresh HC HB hbase hl
  rw [if_pos hw]
  unfold Oper.wp execOp
  simp only [ho, resolve, invoke, builtin, Sem.run_bind, Sem.run_pure, Result.andThen_ok, List.map_toArray, List.map_cons, List.map_nil, hs, hx, hrun]
  exact h v1 w1 hR hb1 hg (.inr hat)
end
section
variable {α : Type} {k : Kd α} {w : World} {A : Option Addr} {xs : List α} {lo hi : Nat}
/-- A cut 'xs[lo:hi:hi]'. -/
theorem C_midc (h : k.C w A xs.length xs) (h1 : lo ≤ hi) (h2 : hi ≤ xs.length) : k.C w (if hi = lo then A else A.map (·.add (lo * k.sz))) ((xs.take hi).drop lo).length ((xs.take hi).drop lo) := by
  have hl : (xs.take hi).length = hi := by rw [List.length_take]; omega
  exact C_drop (C_take h h2) (by omega) (by omega)
theorem F_midc {ok : Nat → Prop} (h : F k w ok A xs.length xs) (h1 : lo ≤ hi) (h2 : hi ≤ xs.length) : F k w ok (if hi = lo then A else A.map (·.add (lo * k.sz))) ((xs.take hi).drop lo).length ((xs.take hi).drop lo) := F_imp h (fun _ hC => C_midc hC h1 h2)
end
end Go.Proofs.YtdajdpgnhjlbaaaDoorW.PrintWords.Kd
