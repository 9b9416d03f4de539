/- What this claim rests on, part 2: abstract values, walks of the code over them, what the functions come to; each under its theorem's own conditions. -/
import Derived.Laws.Small
import Derived.Still
import Derived.Test.YtdcabfonjmeajaaAllocZ1
set_option linter.unusedVariables false
set_option linter.unusedSimpArgs false
namespace Go.Proofs.Ytdcabfonjmeajaa.Abs
open Go.RowKit
/-- Is this the type of a text? -/
def strT (tys : Tys) (t : Nat) : Bool := match ty tys t with | some i => i.str | none => false
/-- Is this the type of bools? -/
def bolT (tys : Tys) (t : Nat) : Bool := match ty tys t with | some i => i.bol | none => false
/-- What an operation yields that looks at values alone. -/
inductive ValA (tys : Tys) (G : Glo) (fr : Fr) : Op → AV → Prop
  | bin {o : Op} {v : Value} (h : BinA G fr o v) : ValA tys G fr o (.imm v)
  | idxS {t : TypeId} {x i : Operand} {s : ByteArray} {k : IntKind} {j : Int} (ht : strT tys t = true) (hx : look G fr x = .imm (.string s)) (hi : look G fr i = .imm (.int k j)) (h0 : 0 ≤ j) (h1 : j < (s.size : Int)) : ValA tys G fr (.index t x i) (.imm (.int .u8 (Go.Proofs.YtdcabfonjmeajaaW.PrintWords.bt s j)))
  | beqB {t : TypeId} {x y : Operand} {u a b} (ht : bolT tys t = true) (hx : look G fr x = .imm (.bool a)) (hy : look G fr y = .imm (.bool b)) : ValA tys G fr (.binOp .eql t x y u) (.imm (.bool (a == b)))
  | bneB {t : TypeId} {x y : Operand} {u a b} (ht : bolT tys t = true) (hx : look G fr x = .imm (.bool a)) (hy : look G fr y = .imm (.bool b)) : ValA tys G fr (.binOp .neq t x y u) (.imm (.bool (!(a == b))))
section
variable {P : Program} {tys : Tys} {G : Glo} {E : Ent} {N : Nat} {w : World} {V : View} {β : Bnd} {R : List Reg} {fr : Fr} {a : Act}
theorem strT_of (hT : TyOK P tys) {t : TypeId} (h : strT tys t = true) : P.underlying t = some .string := by
  unfold strT at h
  split at h
  · rename_i i hi; exact ty_str (hT t i hi) h
  · cases h
theorem bolT_of (hT : TyOK P tys) {t : TypeId} (h : bolT tys t = true) : P.underlying t = some .bool := by
  unfold bolT at h
  split at h
  · rename_i i hi; exact ty_bool (hT t i hi) h
  · cases h
theorem val_run (hT : TyOK P tys) (h : Fits G E N w V β R fr a) {o : Oper} {x : AV} (hop : ValA tys G fr o.op x) : ∃ v, Rep w V β R x v ∧ (execOp a.eval o).run P w = .ok (.value v) w := by
  generalize hq : o.op = op at hop
  cases hop with
  | bin hb => exact ⟨_, .st (.imm _), bin_run h (hq ▸ hb)⟩
  | @idxS t y i s k j ht hx hi h0 h1 =>
    have h2 := look_rep h y; rw [hx] at h2
    have h3 := look_rep h i; rw [hi] at h3
    have hu := strT_of hT ht
    refine ⟨_, .st (.imm _), ?_⟩
    have hlt : j.toNat < s.size := by omega
    have e : s[j.toNat]? = some (s[j.toNat]'hlt) := getElem?_pos s j.toNat hlt
    simp [execOp, hq, h2.imm_inv, h3.imm_inv, Instr.index, asIntOf, run_underlying hu, h0, e, Go.Proofs.YtdcabfonjmeajaaW.PrintWords.bt, hlt]
  | @beqB t x y u c d ht hx hy =>
    have h1 := look_rep h x; rw [hx] at h1
    have h2 := look_rep h y; rw [hy] at h2
    refine ⟨_, .st (.imm _), ?_⟩
    simp [execOp, hq, h1.imm_inv, h2.imm_inv, eqGuard, binOp, run_equal_bool w t c d (bolT_of hT ht)]
  | @bneB t x y u c d ht hx hy =>
    have h1 := look_rep h x; rw [hx] at h1
    have h2 := look_rep h y; rw [hy] at h2
    refine ⟨_, .st (.imm _), ?_⟩
    simp [execOp, hq, h1.imm_inv, h2.imm_inv, eqGuard, binOp, run_equal_bool w t c d (bolT_of hT ht)]
end
end Go.Proofs.Ytdcabfonjmeajaa.Abs
set_option linter.unusedVariables false
set_option linter.unusedSimpArgs false
namespace Go.Proofs.Ytdcabfonjmeajaa.Abs
open Go.RowKit
/-- Is an operation wanted? -/
def wantA (ops : Array Oper) (fr : Fr) (o : Oper) : Option Bool :=
  match o.guard with
  | none => some true
  | some (j, b) => match (ops[j]?).bind (·.dst) with
    | some d => match fr d with
      | .imm (.bool c) => some (c == b)
      | .imm (.tuple ⟨[]⟩) => some false
      | _ => none
    | none => none
/-- The arguments of a call, as its contract has them. -/
inductive ArgsOK : List AV → List AV → Prop
  | nil : ArgsOK [] []
  | same {a : AV} {l r : List AV} (h : rf a = true) (t : ArgsOK l r) : ArgsOK (a :: l) (a :: r)
  | ref {a x : AV} {l r : List AV} (h : Ref a x) (hx : rf x = true) (t : ArgsOK l r) : ArgsOK (a :: l) (x :: r)
theorem ArgsOK.len : ∀ {l r : List AV}, ArgsOK l r → l.length = r.length
  | _, _, .nil => rfl
  | _, _, .same _ t => by rw [List.length_cons, List.length_cons, t.len]
  | _, _, .ref _ _ t => by rw [List.length_cons, List.length_cons, t.len]
theorem ArgsOK.rep {w : World} {V : View} {β : Bnd} {R : List Reg} : ∀ {l r : List AV} {vs : List Value}, ArgsOK l r → (∀ (i : Nat) (a : AV) (v : Value), l[i]? = some a → vs[i]? = some v → Rep w V β R a v) → ∀ (i : Nat) (a : AV) (v : Value), r[i]? = some a → vs[i]? = some v → Rep0 V a v
  | _, _, vs, .nil, _, i, a, v, h1, _ => by simp at h1
  | _, _, [], .same _ _, _, i, a, v, _, h2 => by simp at h2
  | _, _, [], .ref _ _ _, _, i, a, v, _, h2 => by simp at h2
  | _, _, u :: vs, .same h t, hr, i, a, v, h1, h2 => by
    cases i with
    | zero => simp at h1; subst h1; exact (hr 0 _ v rfl h2).rf h
    | succ i => exact t.rep (vs := vs) (fun i a v p q => hr (i + 1) a v (by simpa using p) (by simpa using q)) i a v (by simpa using h1) (by simpa using h2)
  | _, _, u :: vs, .ref h hx t, hr, i, a, v, h1, h2 => by
    cases i with
    | zero => simp at h1; subst h1; exact (h _ _ _ _ _ (hr 0 _ v rfl h2)).rf hx
    | succ i => exact t.rep (vs := vs) (fun i a v p q => hr (i + 1) a v (by simpa using p) (by simpa using q)) i a v (by simpa using h1) (by simpa using h2)
/-- Which way a new variable or literal is told, by its temporary: 0: its cells stay; 1: it may be appended to; 2: it may be written. -/
abbrev Way := Nat → Nat
abbrev Kont := Fr → List Reg → Prop
/-- A region's operations, one by one, in the order of the text. -/
inductive ROps (P : Program) (tys : Tys) (G : Glo) (N : Nat) (ops : Array Oper) (K : Kont) : List Oper → Fr → List Reg → Prop
  | nil {fr : Fr} {R : List Reg} (h : K fr R) : ROps P tys G N ops K [] fr R
  | off {o : Oper} {d : Tmp} {rest : List Oper} {fr : Fr} {R : List Reg} (hw : wantA ops fr o = some false) (hdst : o.dst = some d) (hd : Nat.blt d N = true) (h : ROps P tys G N ops K rest (upd fr d (.imm (.tuple ⟨[]⟩))) R) : ROps P tys G N ops K (o :: rest) fr R
  | pure {o : Oper} {d : Tmp} {rest : List Oper} {fr : Fr} {R : List Reg} {x : AV} (hop : opA tys G fr R o.op = some x) (hw : wantA ops fr o = some true) (hdst : o.dst = some d) (hd : Nat.blt d N = true) (h : ROps P tys G N ops K rest (upd fr d x) R) : ROps P tys G N ops K (o :: rest) fr R
  | val {o : Oper} {d : Tmp} {rest : List Oper} {fr : Fr} {R : List Reg} {x : AV} (hop : ValA tys G fr o.op x) (hw : wantA ops fr o = some true) (hdst : o.dst = some d) (hd : Nat.blt d N = true) (h : ROps P tys G N ops K rest (upd fr d x) R) : ROps P tys G N ops K (o :: rest) fr R
  | cmp {o : Oper} {d : Tmp} {rest : List Oper} {fr : Fr} {R : List Reg} (p : Prop) (hop : CmpA G fr o.op p) (hw : wantA ops fr o = some true) (hdst : o.dst = some d) (hd : Nat.blt d N = true) (ht : p → ROps P tys G N ops K rest (upd fr d (.imm (.bool true))) R) (hf : ¬ p → ROps P tys G N ops K rest (upd fr d (.imm (.bool false))) R) : ROps P tys G N ops K (o :: rest) fr R
  | idx {o : Oper} {d : Tmp} {rest : List Oper} {fr : Fr} {R : List Reg} {t : TypeId} {x i : Operand} {n sz : Nat} {row : Nat → List AV} {k : IntKind} {j : Int} (hop : o.op = .indexAddr t x i) (hx : slV (look G fr x) = some (n, sz + 1, row)) (hi : look G fr i = .imm (.int k j)) (he : elemA tys t = sz + 1) (hw : wantA ops fr o = some true) (hdst : o.dst = some d) (hd : Nat.blt d N = true) (h0 : 0 ≤ j) (h1 : j < (n : Int))
      (h : ROps P tys G N ops K rest (upd fr d (.ptr (row j.toNat))) R) : ROps P tys G N ops K (o :: rest) fr R
  | idxM {o : Oper} {d : Tmp} {rest : List Oper} {fr : Fr} {R : List Reg} {t : TypeId} {x i : Operand} {r n sz : Nat} {row : Nat → List AV} {k : IntKind} {j : Int} (hop : o.op = .indexAddr t x i) (hx : look G fr x = .msl r) (hR : R[r]? = some (.mat n (sz + 1) row)) (hi : look G fr i = .imm (.int k j)) (he : elemA tys t = sz + 1) (hw : wantA ops fr o = some true) (hdst : o.dst = some d) (hd : Nat.blt d N = true) (h0 : 0 ≤ j) (h1 : j < (n : Int))
      (h : ROps P tys G N ops K rest (upd fr d (.loc r j.toNat 0)) R) : ROps P tys G N ops K (o :: rest) fr R
  | call {o : Oper} {d : Tmp} {rest : List Oper} {fr : Fr} {R : List Reg} {f : FuncId} {as : List Operand} {ts : Array TypeId} {args : List AV} {x : AV} (hop : o.op = .call ⟨.value (.func f), ⟨as⟩, ts⟩) (hc : CallOK P G f args x) (ha : ArgsOK (as.map (look G fr)) args) (hw : wantA ops fr o = some true) (hdst : o.dst = some d) (hd : Nat.blt d N = true) (h : ROps P tys G N ops K rest (upd fr d x) R) : ROps P tys G N ops K (o :: rest) fr R
  | callv {o : Oper} {d : Tmp} {rest : List Oper} {fr : Fr} {R : List Reg} {f : FuncId} {q : Operand} {cs : List AV} {as : List Operand} {ts : Array TypeId} {args : List AV} {x : AV} (hop : o.op = .call ⟨.value q, ⟨as⟩, ts⟩) (hq : look G fr q = .fn f cs) (hc : CallOK P G f args x) (ha : ArgsOK (as.map (look G fr) ++ cs) args) (hw : wantA ops fr o = some true) (hdst : o.dst = some d) (hd : Nat.blt d N = true) (h : ROps P tys G N ops K rest (upd fr d x) R) : ROps P tys G N ops K (o :: rest) fr R
  | box {o : Oper} {d : Tmp} {rest : List Oper} {fr : Fr} {R : List Reg} {t : TypeId} {x : Operand} {l : List AV} (hop : o.op = .box t x) (hx : cellsA (look G fr x) = some l) (hrf : rf.rfL l = true) (hw : wantA ops fr o = some true) (hdst : o.dst = some d) (hd : Nat.blt d N = true) (h : ROps P tys G N ops K rest (upd fr d (.ptr l)) R) : ROps P tys G N ops K (o :: rest) fr R
  | boxM {o : Oper} {d : Tmp} {rest : List Oper} {fr : Fr} {R : List Reg} {t : TypeId} {x : Operand} {l : List AV} {n : Nat} (hop : o.op = .box t x) (hx : cellsA (look G fr x) = some l) (hn : l.length = n) (hw : wantA ops fr o = some true) (hdst : o.dst = some d) (hd : Nat.blt d N = true) (h : ROps P tys G N ops K rest (upd fr d (.loc R.length 0 0)) (R ++ [.mat 1 n (fun _ => l)])) : ROps P tys G N ops K (o :: rest) fr R
  | alloc {o : Oper} {d : Tmp} {rest : List Oper} {fr : Fr} {R : List Reg} {t : TypeId} {i : TI} {z : Value} {zs : List Value} {n : Nat} (hop : o.op = .alloc t) (hi : ty tys t = some i) (hz : i.zero = z :: zs) (hn : (z :: zs).length = n) (hw : wantA ops fr o = some true) (hdst : o.dst = some d) (hd : Nat.blt d N = true) (h : ROps P tys G N ops K rest (upd fr d (.loc R.length 0 0)) (R ++ [.mat 1 n (fun _ => (z :: zs).map .imm)])) : ROps P tys G N ops K (o :: rest) fr R
  | store {o : Oper} {rest : List Oper} {fr : Fr} {R R' : List Reg} {t : TypeId} {p x : Operand} {i : TI} {r n sz : Nat} {row : Nat → List AV} {j k : Nat} {c l l' : List AV} (hop : o.op = .store t p x) (hp : look G fr p = .loc r j k) (hR : R[r]? = some (.mat n sz row)) (hj : Nat.blt j n = true) (hi : ty tys t = some i) (hc : cellsA (look G fr x) = some c) (hs : Nat.beq c.length i.size = true) (hl : row j = l) (hk : Nat.ble (k + c.length) l.length = true) (hl' : l.take k ++ (c ++ l.drop (k + c.length)) = l') (hR' : R.set r (.mat n sz (setR n row j l')) = R') (hw : wantA ops fr o = some true) (hdst : o.dst = none)
      (h : ROps P tys G N ops K rest fr R') : ROps P tys G N ops K (o :: rest) fr R
  | app {o : Oper} {d : Tmp} {rest : List Oper} {fr : Fr} {R R' : List Reg} {t : TypeId} {s x : Operand} {ti : TI} {i n m sz : Nat} {row row2 : Nat → List AV} (hop : o.op = .call ⟨.builtin .append, ⟨[s, x]⟩, ⟨[t, t]⟩⟩) (hti : ty tys t = some ti) (hsz : ti.elem = sz + 1) (hs : look G fr s = .own i n (sz + 1) row) (hR : R[i]? = some (.arr ti.el (sz + 1) n)) (hx : slV (look G fr x) = some (m, sz + 1, row2)) (hb : n + m ≤ maxLen ∧ (n + m) * ti.eby ≤ 140737488355328) (hR' : (R.set i .dead) ++ [.arr ti.el (sz + 1) (n + m)] = R')
      (hw : wantA ops fr o = some true) (hdst : o.dst = some d) (hd : Nat.blt d N = true) (h : ROps P tys G N ops K rest (upd fr d (.own R.length (n + m) (sz + 1) (appR n row row2))) R') : ROps P tys G N ops K (o :: rest) fr R
  | appN {o : Oper} {d : Tmp} {rest : List Oper} {fr : Fr} {R : List Reg} {t : TypeId} {s x : Operand} {ti : TI} {m sz : Nat} {row2 : Nat → List AV} (hop : o.op = .call ⟨.builtin .append, ⟨[s, x]⟩, ⟨[t, t]⟩⟩) (hti : ty tys t = some ti) (hsz : ti.elem = sz + 1) (hs : look G fr s = .imm (.slice none 0 0)) (hx : slV (look G fr x) = some (m, sz + 1, row2)) (hb : m ≤ maxLen ∧ m * ti.eby ≤ 140737488355328)
      (hw : wantA ops fr o = some true) (hdst : o.dst = some d) (hd : Nat.blt d N = true) (h : ROps P tys G N ops K rest (upd fr d (.own R.length m (sz + 1) row2)) (R ++ [.arr ti.el (sz + 1) m])) : ROps P tys G N ops K (o :: rest) fr R
  | lit {o : Oper} {d : Tmp} {rest : List Oper} {fr : Fr} {R : List Reg} {t : TypeId} {ti : TI} {len sz : Nat} {parts : List (Nat × Operand)} {l : List AV} (hop : o.op = .buildSlice t len ⟨parts⟩) (hti : ty tys t = some ti) (hsz : ti.elem = sz + 1) (hl : litA (sz + 1) len (parts.map (fun p => (p.1, look G fr p.2))) = some l) (hrf : rf.rfL l = true) (hb : Nat.ble (len * (sz + 1)) 16777216 = true)
      (hw : wantA ops fr o = some true) (hdst : o.dst = some d) (hd : Nat.blt d N = true) (h : ROps P tys G N ops K rest (upd fr d (.sl len (sz + 1) (litR (sz + 1) l))) R) : ROps P tys G N ops K (o :: rest) fr R
  | litO {o : Oper} {d : Tmp} {rest : List Oper} {fr : Fr} {R : List Reg} {t : TypeId} {ti : TI} {len sz : Nat} {parts : List (Nat × Operand)} {l : List AV} (hop : o.op = .buildSlice t len ⟨parts⟩) (hti : ty tys t = some ti) (hsz : ti.elem = sz + 1) (hl : litA (sz + 1) len (parts.map (fun p => (p.1, look G fr p.2))) = some l) (hrf : rf.rfL l = true) (hb : Nat.ble (len * (sz + 1)) 16777216 = true)
      (hw : wantA ops fr o = some true) (hdst : o.dst = some d) (hd : Nat.blt d N = true) (h : ROps P tys G N ops K rest (upd fr d (.own R.length len (sz + 1) (litR (sz + 1) l))) (R ++ [.arr ti.el (sz + 1) len])) : ROps P tys G N ops K (o :: rest) fr R
end Go.Proofs.Ytdcabfonjmeajaa.Abs
set_option linter.unusedVariables false
set_option linter.unusedSimpArgs false
namespace Go.Proofs.Ytdcabfonjmeajaa.Abs
open Go.RowKit
section
variable {P : Program} {tys : Tys} {G : Glo} {E : Ent} {N : Nat} {w : World} {V : View} {β : Bnd} {R : List Reg} {fr : Fr} {a : Act} {ops : Array Oper} {K : Kont}
theorem getD_bool {a : Act} {d : Nat} {b : Bool} (h : a.tmps.getD d undef = .bool b) : a.tmps[d]? = some (.bool b) := by
  rw [Array.getD_eq_getD_getElem?] at h
  cases e : a.tmps[d]? with
  | none => rw [e] at h; cases h
  | some v => rw [e] at h; simp at h; rw [h]
theorem want_of (h : Fits G E N w V β R fr a) {o : Oper} {b : Bool} (hw : wantA ops fr o = some b) : Region.wanted o (yielded ops a.tmps) = b := by
  unfold wantA at hw
  unfold Region.wanted
  cases hg : o.guard with
  | none => rw [hg] at hw; injection hw with hw
  | some jb =>
    obtain ⟨j, c⟩ := jb
    rw [hg] at hw
    simp only at hw ⊢
    cases hj : (ops[j]?).bind (·.dst) with
    | none => rw [hj] at hw; cases hw
    | some d =>
      rw [hj] at hw
      simp only at hw
      split at hw
      · rename_i c2 hv
        have hr := h.frm.rep d; rw [hv] at hr
        have := getD_bool hr.imm_inv
        injection hw with hw
        unfold yielded
        rw [hj, Option.bind_some, this]
        simp only
        rw [← hw]
        cases c2 <;> cases c <;> rfl
      · rename_i hv
        have hr := h.frm.rep d; rw [hv] at hr
        have hr := hr.imm_inv
        injection hw with hw
        rw [Array.getD_eq_getD_getElem?] at hr
        unfold yielded
        rw [hj, Option.bind_some]
        rw [← hw]
        cases e : a.tmps[d]? with
        | none => rfl
        | some v =>
          rw [e] at hr
          have hr : v = .tuple ⟨[]⟩ := hr
          subst hr
          rfl
      · cases hw
theorem wpList_val {l : List Oper} {o : Oper} {v : Value} {w' : World} {Q : Exit → Act → World → Prop} (hw : Region.wanted o (yielded ops a.tmps) = true) (hr : (execOp a.eval o).run P w = .ok (.value v) w') (h : wpList P ops Q l (a.put o.dst v) w') : wpList P ops Q (o :: l) a w := by
  unfold wpList
  rw [if_pos hw]
  refine .inl ?_
  unfold Oper.wp
  rw [hr]
  exact h
theorem wpList_skip {l : List Oper} {o : Oper} {w' : World} {Q : Exit → Act → World → Prop} (hw : Region.wanted o (yielded ops a.tmps) = true) (hr : (execOp a.eval o).run P w = .ok .skip w') (h : wpList P ops Q l (a.put o.dst undef) w') : wpList P ops Q (o :: l) a w := by
  unfold wpList
  rw [if_pos hw]
  refine .inl ?_
  unfold Oper.wp
  rw [hr]
  exact h
theorem wpList_call {l : List Oper} {o : Oper} {f : FuncId} {vs : List Value} {args : List AV} {x : AV} {d : Tmp} {Q : Exit → Act → World → Prop} (h : Fits G E N w V β R fr a) (hw : Region.wanted o (yielded ops a.tmps) = true) (hr : (execOp a.eval o).run P w = .ok (.enter f vs.toArray) w) (hc : CallOK P G f args x) (hl : vs.length = args.length) (hv : ∀ (i : Nat) (a : AV) (v : Value), args[i]? = some a → vs[i]? = some v → Rep0 V a v) (hdst : o.dst = some d) (hd : Nat.blt d N = true)
    (hn : ∀ w' V' a', Fits G E N w' V' β R (upd fr d x) a' → wpList P ops Q l a' w') : wpList P ops Q (o :: l) a w := by
  unfold wpList
  rw [if_pos hw]
  refine .inl ?_
  unfold Oper.wp
  rw [hr, Oper.upon_enter]
  refine (hc.run w V vs h.wld.sub h.glo hl hv).mono ?_
  rintro e w' ⟨v, V', rfl, hg, hx⟩
  rw [hdst]
  exact hn w' V' _ ((h.grow hg).put (d := some d) hd (.st hx))
theorem ty_el (hT : TyOK P tys) {t : TypeId} {ti : TI} (hi : ty tys t = some ti) {sz : Nat} (he : ti.elem = sz + 1) : ∃ inf z, P.underlying t = some (.slice ti.el) ∧ P.info? ti.el = some inf ∧ inf.size = ti.elem ∧ inf.bytes = ti.eby ∧ inf.zero = some z ∧ z.cells.size = ti.elem ∧ ∀ v ∈ z.cells.toList, v.oneCell' = true := ty_sl (hT t ti hi) (by omega)
/-- A region that doesn't draw its order. -/
theorem ROps.list (hT : TyOK P tys) {l : List Oper} (h : ROps P tys G N ops K l fr R) {Q : Exit → Act → World → Prop} : ∀ (w : World) (V : View) (β : Bnd) (a : Act), Fits G E N w V β R fr a → (∀ w' V' β' fr' R' a', Fits G E N w' V' β' R' fr' a' → K fr' R' → Q .normal a' w') → wpList P ops Q l a w := by
  induction h with
  | nil h => intro w V β a hf hQ; exact hQ w V β _ _ a hf h
  | @off o d rest fr R hw hdst hd h ih =>
    intro w V β a hf hQ
    have hd2 : dstOK N o.dst = true := by rw [hdst]; exact hd
    have hdu : ∀ x, upd fr d x = updO fr o.dst x := fun x => by rw [hdst]; rfl
    simp only [hdu] at ih
    have := want_of hf hw
    unfold wpList
    rw [this]
    exact ih w V β _ (hf.put hd2 (.st (.imm _))) hQ
  | @pure o d rest fr R x hop hw hdst hd h ih =>
    intro w V β a hf hQ
    have hd2 : dstOK N o.dst = true := by rw [hdst]; exact hd
    have hdu : ∀ x, upd fr d x = updO fr o.dst x := fun x => by rw [hdst]; rfl
    simp only [hdu] at ih
    obtain ⟨v, hv, hrun⟩ := opA_run hT hf o hop
    exact wpList_val (want_of hf hw) hrun (ih w V β _ (hf.put hd2 hv) hQ)
  | @val o d rest fr R x hop hw hdst hd h ih =>
    intro w V β a hf hQ
    have hd2 : dstOK N o.dst = true := by rw [hdst]; exact hd
    have hdu : ∀ x, upd fr d x = updO fr o.dst x := fun x => by rw [hdst]; rfl
    simp only [hdu] at ih
    obtain ⟨v, hv, hrun⟩ := val_run hT hf hop
    exact wpList_val (want_of hf hw) hrun (ih w V β _ (hf.put hd2 hv) hQ)
  | @cmp o d rest fr R p hop hw hdst hd ht hf' iht ihf =>
    intro w V β a hf hQ
    have hd2 : dstOK N o.dst = true := by rw [hdst]; exact hd
    have hdu : ∀ x, upd fr d x = updO fr o.dst x := fun x => by rw [hdst]; rfl
    simp only [hdu] at iht ihf
    obtain ⟨b, hb, hrun⟩ := cmp_run (P := P) hf hop
    refine wpList_val (want_of hf hw) hrun ?_
    cases b with
    | true => exact iht (hb.1 rfl) w V β _ (hf.put hd2 (.st (.imm _))) hQ
    | false => exact ihf (fun hp => by have := hb.2 hp; cases this) w V β _ (hf.put hd2 (.st (.imm _))) hQ
  | @idx o d rest fr R t x i n sz row k j hop hx hi he hw hdst hd h0 h1 h ih =>
    intro w V β a hf hQ
    have hd2 : dstOK N o.dst = true := by rw [hdst]; exact hd
    have hdu : ∀ x, upd fr d x = updO fr o.dst x := fun x => by rw [hdst]; rfl
    simp only [hdu] at ih
    obtain ⟨v, hv, hrun⟩ := idx_run hT hf hop hx hi he h0 h1
    exact wpList_val (want_of hf hw) hrun (ih w V β _ (hf.put hd2 hv) hQ)
  | @idxM o d rest fr R t x i r n sz row k j hop hx hR hi he hw hdst hd h0 h1 h ih =>
    intro w V β a hf hQ
    have hd2 : dstOK N o.dst = true := by rw [hdst]; exact hd
    have hdu : ∀ x, upd fr d x = updO fr o.dst x := fun x => by rw [hdst]; rfl
    simp only [hdu] at ih
    obtain ⟨v, hv, hrun⟩ := idxM_run hT hf hop hx hR hi he h0 h1
    exact wpList_val (want_of hf hw) hrun (ih w V β _ (hf.put hd2 hv) hQ)
  | @call o d rest fr R f as ts args x hop hc ha hw hdst hd h ih =>
    intro w V β a hf hQ
    exact wpList_call hf (want_of hf hw) (call_run hop hc.ent) hc (by rw [← ha.len, List.length_map, List.length_map]) (ha.rep (list_rep hf as)) hdst hd (fun w' V' a' hf' => ih w' V' β a' hf' hQ)
  | @callv o d rest fr R f q cs as ts args x hop hq hc ha hw hdst hd h ih =>
    intro w V β a hf hQ
    have hrq := look_rep hf q
    rw [hq] at hrq
    obtain ⟨us, e, hl, hr⟩ := hrq.fn_inv
    refine wpList_call hf (want_of hf hw) (callv_run hop e hc.ent) hc (by rw [← ha.len, List.length_append, List.length_append, List.length_map, List.length_map, hl]) (ha.rep (w := w) (β := β) (R := R) (fun i x v h1 h2 => ?_)) hdst hd (fun w' V' a' hf' => ih w' V' β a' hf' hQ)
    by_cases c : i < as.length
    · rw [List.getElem?_append_left (by simpa using c)] at h1 h2
      exact list_rep hf as i x v h1 h2
    · rw [List.getElem?_append_right (by simp; omega)] at h1 h2
      simp only [List.length_map] at h1 h2
      exact hr _ x v h1 h2
  | @box o d rest fr R t x l hop hx hrf hw hdst hd h ih =>
    intro w V β a hf hQ
    have hd2 : dstOK N o.dst = true := by rw [hdst]; exact hd
    have hdu : ∀ x, upd fr d x = updO fr o.dst x := fun x => by rw [hdst]; rfl
    simp only [hdu] at ih
    have hc := one_of (look_rep hf x) hx
    obtain ⟨V', h1, h2, _⟩ := hf.box hc hrf t
    refine wpList_val (want_of hf hw) ?_ (ih _ V' β _ (h1.put hd2 h2) hQ)
    simp [execOp, hop, Instr.box, newVar, newRow, newObj]
    rfl
  | @boxM o d rest fr R t x l n hop hx hn hw hdst hd h ih =>
    intro w V β a hf hQ
    have hd2 : dstOK N o.dst = true := by rw [hdst]; exact hd
    have hdu : ∀ x, upd fr d x = updO fr o.dst x := fun x => by rw [hdst]; rfl
    simp only [hdu] at ih
    subst hn
    have hc := one_of (look_rep hf x) hx
    obtain ⟨β', h1, h2, _⟩ := hf.fresh hc t
    refine wpList_val (want_of hf hw) ?_ (ih _ V β' _ (h1.put hd2 h2) hQ)
    simp [execOp, hop, Instr.box, newVar, newRow, newObj]
    rfl
  | @alloc o d rest fr R t i z zs n hop hi hz hn hw hdst hd h ih =>
    intro w V β a hf hQ
    have hd2 : dstOK N o.dst = true := by rw [hdst]; exact hd
    have hdu : ∀ x, upd fr d x = updO fr o.dst x := fun x => by rw [hdst]; rfl
    simp only [hdu] at ih
    subst hn
    obtain ⟨cs, h1, h2, h3⟩ := alloc_run hT hf hi hz
    obtain ⟨β', h4, h5, _⟩ := hf.fresh (RepC.imms (z :: zs) h2) t
    rw [List.length_map] at h4 h5
    have e : (z :: zs).toArray = cs := by rw [← h1]
    rw [e] at h4 h5
    refine wpList_val (want_of hf hw) ?_ (ih _ V β' _ (h4.put hd2 h5) hQ)
    simp [execOp, hop, h3]
  | @store o rest fr R R' t p x i r n sz row j k c l l' hop hp hR hj hi hc hs hl hk hl' hR' hw hdst h ih =>
    intro w V β a hf hQ
    subst hl
    subst hl'
    subst hR'
    obtain ⟨w', hrun, hf'⟩ := store_run hT hf hop hp hR (by simpa [Nat.blt_eq] using hj) hi hc (Nat.eq_of_beq_eq_true hs) (Nat.le_of_ble_eq_true hk)
    refine wpList_skip (want_of hf hw) hrun ?_
    rw [hdst]
    exact ih w' V β _ hf' hQ
  | @app o d rest fr R R' t s x ti i n m sz row row2 hop hti hsz hs hR hx hb hR' hw hdst hd h ih =>
    intro w V β a hf hQ
    have hd2 : dstOK N o.dst = true := by rw [hdst]; exact hd
    have hdu : ∀ x, upd fr d x = updO fr o.dst x := fun x => by rw [hdst]; rfl
    simp only [hdu] at ih
    subst hR'
    obtain ⟨inf, z, hu, hinf, q1, q2, q3, q4, _⟩ := ty_el hT hti hsz
    have hrs := look_rep hf s
    rw [hs] at hrs
    obtain ⟨v', w', V', β', hrun, h1, h2⟩ := appendV_run (ty := o.type) hf hu hinf q3 (q1.trans hsz) q2 (q4.trans hsz) (Nat.succ_pos sz) (row2 := row2) (.inr ⟨hR, hrs⟩) (slV_rep (look_rep hf x) hx) hb.1 hb.2
    refine wpList_val (want_of hf hw) ?_ (ih w' V' β' _ (h1.put hd2 h2) hQ)
    unfold execOp
    simp only [hop, resolve, invoke, builtin, Sem.run_bind, Sem.run_pure, Result.andThen_ok, List.map_toArray, List.map_cons, List.map_nil, hrun]
  | @appN o d rest fr R t s x ti m sz row2 hop hti hsz hs hx hb hw hdst hd h ih =>
    intro w V β a hf hQ
    have hd2 : dstOK N o.dst = true := by rw [hdst]; exact hd
    have hdu : ∀ x, upd fr d x = updO fr o.dst x := fun x => by rw [hdst]; rfl
    simp only [hdu] at ih
    obtain ⟨inf, z, hu, hinf, q1, q2, q3, q4, _⟩ := ty_el hT hti hsz
    have hrs := look_rep hf s
    rw [hs] at hrs
    obtain ⟨v', w', V', β', hrun, h1, h2⟩ := appendV_run (ty := o.type) (i := R.length) (row := row2) hf hu hinf q3 (q1.trans hsz) q2 (q4.trans hsz) (Nat.succ_pos sz) (row2 := row2) (.inl ⟨rfl, hrs.imm_inv⟩) (slV_rep (look_rep hf x) hx) (by omega) (by rw [Nat.zero_add]; exact hb.2)
    have hk : R.set R.length .dead = R := by
      apply List.ext_getElem?
      intro k
      by_cases hkk : k = R.length
      · subst hkk; rw [List.getElem?_eq_none (by simp), List.getElem?_eq_none (by simp)]
      · rw [List.getElem?_set_ne (Ne.symm hkk)]
    rw [hk, Nat.zero_add] at h1 h2
    have h2 : Rep w' V' β' _ (.own R.length m (sz + 1) row2) v' := Ref.orows (fun j hj => by simp [appR]) _ _ _ _ _ h2
    refine wpList_val (want_of hf hw) ?_ (ih w' V' β' _ (h1.put hd2 h2) hQ)
    unfold execOp
    simp only [hop, resolve, invoke, builtin, Sem.run_bind, Sem.run_pure, Result.andThen_ok, List.map_toArray, List.map_cons, List.map_nil, hrun]
  | @lit o d rest fr R t ti len sz parts l hop hti hsz hl hrf hb hw hdst hd h ih =>
    intro w V β a hf hQ
    have hd2 : dstOK N o.dst = true := by rw [hdst]; exact hd
    have hdu : ∀ x, upd fr d x = updO fr o.dst x := fun x => by rw [hdst]; rfl
    simp only [hdu] at ih
    have hb := Nat.le_of_ble_eq_true hb
    rw [← hsz] at hl hb
    obtain ⟨cs, hc, hll, hrun⟩ := lit_run hT hf hti (by omega) hl hb
    have hro := rows_list (by omega) hc hrf hll
    obtain ⟨V', h1, h2, hg⟩ := hf.box hc hrf ti.el
    have hcs : cs.toList.toArray = cs := by simp
    rw [hcs] at h1 h2 hg
    refine wpList_val (want_of hf hw) (v := .slice (some ⟨w.heap.size, 0, none⟩) len len) (w' := w.alloc (.cells cs ti.el)) ?_ (ih _ V' β _ (h1.put hd2 ?_) hQ)
    · unfold execOp
      simp only [hop, Sem.run_bind, Sem.run_pure, Result.andThen_ok, List.map_toArray, hrun]
    · obtain ⟨ad, vs, e1, p1, p2, p3, p4⟩ := h2.ptr_inv.ptr_inv
      injection e1 with e1; injection e1 with e1; subst e1
      rw [← hsz]
      refine .st (.sl len ti.elem _ _ len ⟨w.heap.size, 0, none⟩ (fun j => (vs.drop (j * ti.elem)).take ti.elem) (Nat.le_refl _) (fun _ => rfl) (fun j hj => ⟨(hro.len j hj).1, ?_⟩) (fun j hj v hv => p2 v (List.mem_of_mem_drop (List.mem_of_mem_take hv))) (fun j q v hj hv => ?_) (fun j q x v hj hx hv => ?_))
      · have := mul_lt_of (sz := ti.elem) hj
        rw [List.length_take, List.length_drop, p1, hll]; omega
      · rw [List.getElem?_take] at hv
        split at hv
        · rw [List.getElem?_drop] at hv; exact p3 _ v hv
        · cases hv
      · unfold litR at hx
        rw [List.getElem?_take] at hv hx
        split at hv
        · rename_i hlt
          rw [if_pos hlt, List.getElem?_drop] at hx
          rw [List.getElem?_drop] at hv
          exact p4 _ x v hx hv
        · cases hv
  | @litO o d rest fr R t ti len sz parts l hop hti hsz hl hrf hb hw hdst hd h ih =>
    intro w V β a hf hQ
    have hd2 : dstOK N o.dst = true := by rw [hdst]; exact hd
    have hdu : ∀ x, upd fr d x = updO fr o.dst x := fun x => by rw [hdst]; rfl
    simp only [hdu] at ih
    have hb := Nat.le_of_ble_eq_true hb
    rw [← hsz] at hl hb
    obtain ⟨cs, hc, hll, hrun⟩ := lit_run hT hf hti (by omega) hl hb
    have hro := rows_list (by omega) hc hrf hll
    have hsize : cs.size = len * ti.elem := by rw [← Array.length_toList, hc.len, hll]
    have hlen : len ≤ maxLen := by
      have : len * 1 ≤ len * ti.elem := Nat.mul_le_mul_left _ (by omega)
      simp only [maxLen]; omega
    obtain ⟨V', β', h1, h2⟩ := hf.newOwn R.length (w1 := w) (BelX.refl _ w) rfl (C := cs) (e := ti.el) hro hsize (Nat.le_refl _) hlen (by omega) (fun j q hj hq => by
      rw [List.getElem?_take, if_pos hq, List.getElem?_drop, Array.getElem?_toList])
    have hk : R.set R.length .dead = R := by
      apply List.ext_getElem?
      intro k
      by_cases hkk : k = R.length
      · subst hkk; rw [List.getElem?_eq_none (by simp), List.getElem?_eq_none (by simp)]
      · rw [List.getElem?_set_ne (Ne.symm hkk)]
    rw [hk, hsz] at h1 h2
    refine wpList_val (want_of hf hw) (v := .slice (some ⟨w.heap.size, 0, none⟩) len len) (w' := w.alloc (.cells cs ti.el)) ?_ (ih _ V' β' _ (h1.put hd2 h2) hQ)
    unfold execOp
    simp only [hop, Sem.run_bind, Sem.run_pure, Result.andThen_ok, List.map_toArray, hrun]
end
end Go.Proofs.Ytdcabfonjmeajaa.Abs
set_option linter.unusedVariables false
set_option linter.unusedSimpArgs false
namespace Go.Proofs.Ytdcabfonjmeajaa.Abs
open Go.RowKit
/-- A function's frame: its program, what is known of types and of package-level variables, how many temporaries it has, where its results stand. -/
structure Cx where
  P : Program
  tys : Tys
  G : Glo
  N : Nat
  fn : Func
  rs : List ResultVar
/-- A part of a code, by the way to it. -/
def cA : Code → Code
  | .seq p _ => p
  | .block _ p => p
  | .loop p => p
  | .cond _ p _ => p
  | .scope p => p
  | c => c
def cB : Code → Code
  | .seq _ q => q
  | .cond _ _ q => q
  | c => c
def cP : Code → List Nat → Code
  | c, [] => c
  | c, 0 :: l => cP (cA c) l
  | c, _ :: l => cP (cB c) l
def bodyOf (f : Func) : Code := match f.body with
  | some p => p
  | none => .skip
abbrev Fin := Ent → World → View → Bnd → List Reg → Value → Prop
/-- What one result comes to. -/
def resA (tys : Tys) (fr : Fr) (R : List Reg) : ResultVar → Option AV
  | .tmp t => some (fr t)
  | .cell p t => match ty tys t with
    | some i => match fr p with
      | .ptr l => loadA l i
      | .loc r j k => match matR R r j with
        | some l => loadA (l.drop k) i
        | none => none
      | _ => none
    | none => none
def resL (tys : Tys) (fr : Fr) (R : List Reg) : List ResultVar → Option (List AV)
  | [] => some []
  | r :: rs => match resA tys fr R r with
    | some x => match resL tys fr R rs with
      | some l => some (x :: l)
      | none => none
    | none => none
def resT : List AV → AV
  | [x] => x
  | l => .tup l
/-- From here on the function answers as Fn says. -/
def Runs (c : Cx) (Fn : Fin) (todo : List Item) (fr : Fr) (R : List Reg) : Prop :=
  ∀ (E : Ent) (w : World) (V : View) (β : Bnd) (a : Act), Fits c.G E c.N w V β R fr a → ∀ (b : Frame) (cs : List Frame), ∃ (a' : Act) (w' : World) (V' : View) (β' : Bnd) (R' : List Reg) (v : Value) (k : List Item),
    Steps c.P (lone (b.at a todo) cs w) (lone { b.at a' k with mode := .returning } cs w') ∧ a'.defers = [] ∧ (results c.fn a'.tmps).run c.P w' = .ok v w' ∧ Fn E w' V' β' R' v
/-- What a function answers that turns nothing of what was there. -/
def Pur (x : AV) : Fin := fun E w V _ _ v => Wld E w V ∧ Rep0 V x v
section
variable {c : Cx} {Fn : Fin} {k : List Item} {fr : Fr} {R : List Reg}
theorem Runs.step {t1 t2 : List Item} (h : Runs c Fn t2 fr R) (hs : ∀ (E : Ent) (w : World) (V : View) (β : Bnd) (a : Act) (b : Frame) (cs : List Frame), Fits c.G E c.N w V β R fr a → step c.P (lone (b.at a t1) cs w) = .next (lone (b.at a t2) cs w)) : Runs c Fn t1 fr R := fun E w V β a hf b cs =>
  let ⟨a', w', V', β', R', v, k', h1, h2⟩ := h E w V β a hf b cs
  ⟨a', w', V', β', R', v, k', .head (hs E w V β a b cs hf) h1, h2⟩
theorem Runs.seq {p q : Code} (h : Runs c Fn (.code p :: .code q :: k) fr R) : Runs c Fn (.code (.seq p q) :: k) fr R := h.step fun _ _ _ _ _ _ _ _ => step_seq
theorem Runs.code_eq {p p' : Code} (e : p = p') (h : Runs c Fn (.code p' :: k) fr R) : Runs c Fn (.code p :: k) fr R := by subst e; exact h
theorem Runs.skip (h : Runs c Fn k fr R) : Runs c Fn (.code .skip :: k) fr R := h.step fun _ _ _ _ _ _ _ _ => step_skip
theorem Runs.label {l : Nat} (h : Runs c Fn k fr R) : Runs c Fn (.code (.label l) :: k) fr R := h.step fun _ _ _ _ _ _ _ _ => step_label
theorem Runs.block {id : Nat} {p : Code} (h : Runs c Fn (.code p :: .inBlock id :: k) fr R) : Runs c Fn (.code (.block id p) :: k) fr R := h.step fun _ _ _ _ _ _ _ _ => step_block
theorem Runs.inBlock {id : Nat} (h : Runs c Fn k fr R) : Runs c Fn (.inBlock id :: k) fr R := h.step fun _ _ _ _ _ _ _ _ => step_inBlock
theorem Runs.scope {p : Code} (h : Runs c Fn (.code p :: .inScope p :: k) fr R) : Runs c Fn (.code (.scope p) :: k) fr R := h.step fun _ _ _ _ a b cs _ => step_lone_go (by simp [stepG, stepG.exec, Frame.at])
theorem Runs.inScope {p : Code} (h : Runs c Fn k fr R) : Runs c Fn (.inScope p :: k) fr R := h.step fun _ _ _ _ a b cs _ => step_lone_go (by simp [stepG, stepG.exec, Frame.at])
theorem Runs.loop {p : Code} (h : Runs c Fn (.code p :: .inLoop p :: k) fr R) : Runs c Fn (.code (.loop p) :: k) fr R := h.step fun _ _ _ _ _ _ _ _ => step_loop
theorem Runs.inLoop {p : Code} (h : Runs c Fn (.code p :: .inLoop p :: k) fr R) : Runs c Fn (.inLoop p :: k) fr R := h.step fun _ _ _ _ _ _ _ _ => step_inLoop
theorem Runs.exit {id : Nat} {k' : List Item} (he : exitTo id k = some k') (h : Runs c Fn k' fr R) : Runs c Fn (.code (.exit id) :: k) fr R := h.step fun _ _ _ _ _ _ _ _ => step_exit he
theorem Runs.cond {o : Operand} {p q : Code} {t : Bool} (ho : look c.G fr o = .imm (.bool t)) (h : Runs c Fn (.code (match t with | true => p | false => q) :: k) fr R) : Runs c Fn (.code (.cond o p q) :: k) fr R := by
  refine h.step fun E w V β a b cs hf => ?_
  have hr := look_rep hf o; rw [ho] at hr
  rw [step_cond hr.imm_inv]
  cases t <;> rfl
theorem Runs.condT {o : Operand} {p q : Code} (ho : look c.G fr o = .imm (.bool true)) (h : Runs c Fn (.code p :: k) fr R) : Runs c Fn (.code (.cond o p q) :: k) fr R := .cond (t := true) ho h
theorem Runs.condF {o : Operand} {p q : Code} (ho : look c.G fr o = .imm (.bool false)) (h : Runs c Fn (.code q :: k) fr R) : Runs c Fn (.code (.cond o p q) :: k) fr R := .cond (t := false) ho h
theorem Runs.of_wp {p : Code} (h : ∀ (E : Ent) (w : World) (V : View) (β : Bnd) (a : Act), Fits c.G E c.N w V β R fr a → p.wp c.P (fun e a' w' => e = .normal ∧ ∃ V' β' fr' R', Fits c.G E c.N w' V' β' R' fr' a' ∧ Runs c Fn k fr' R') a w) : Runs c Fn (.code p :: k) fr R := by
  intro E w V β a hf b cs
  obtain ⟨e, a1, w1, ⟨rfl, V1, β1, fr1, R1, hf1, hr⟩, harr⟩ := h E w V β a hf b k cs
  obtain ⟨a', w', V', β', R', v, k', h1, h2⟩ := hr E w1 V1 β1 a1 hf1 b cs
  exact ⟨a', w', V', β', R', v, k', Steps.trans harr h1, h2⟩
theorem Runs.region (hT : TyOK c.P c.tys) {id : Nat} {l : List Oper} (h : ROps c.P c.tys c.G c.N l.toArray (Runs c Fn k) l fr R) : Runs c Fn (.code (.region id l.toArray false) :: k) fr R := by
  refine .of_wp fun E w V β a hf => wp_region_list ?_
  exact ROps.list hT (l := l) h w V β a hf (fun w' V' β' fr' R' a' hf' hk => ⟨rfl, V', β', fr', R', hf', hk⟩)
theorem resA_run (hT : TyOK c.P c.tys) {E : Ent} {w : World} {V : View} {β : Bnd} {a : Act} (hf : Fits c.G E c.N w V β R fr a) {r : ResultVar} {x : AV} (h : resA c.tys fr R r = some x) :
    ∃ v, ((match r with | .tmp t => pure (a.tmps.getD t undef) | .cell p t => do loadVar t (← asAddr (a.tmps.getD p undef))) : Sem Value).run c.P w = .ok v w ∧ Rep w V β R x v := by
  cases r with
  | tmp t => injection h with h; subst h; exact ⟨_, rfl, hf.frm.rep t⟩
  | cell p t =>
    unfold resA at h
    simp only at h
    have ld : ∀ ad : Addr, (loadVar t ad).run c.P w = (Instr.loadAt t (.pointer (some ad))).run c.P w := fun ad => by simp [Instr.loadAt, Instr.sureAddr]
    split at h
    · rename_i i hi
      have hr := hf.frm.rep p
      split at h
      · rename_i l hp
        rw [hp] at hr
        obtain ⟨ad, vs, e, hc, hV⟩ := ptr_cells hf.wld hr
        obtain ⟨v, h1, h2⟩ := load_run hT hi hc (fun q u hq => hf.wld.sub _ _ (hV q u hq)) h
        refine ⟨v, ?_, h1⟩
        simp [e, asAddr, ld, h2]
      · rename_i r j k hp
        rw [hp] at hr
        split at h
        · rename_i l hm
          obtain ⟨n, sz, row, hrr, hj, rfl⟩ := matR_some hm
          obtain ⟨_, _, hl⟩ := hr.loc_inv
          obtain ⟨b, hb, e⟩ := hl n sz row hrr
          obtain ⟨b', vs, hb', hc, _, hcell⟩ := mat_cells hf.reg hrr hj
          rw [hb] at hb'; injection hb' with hb'; subst hb'
          obtain ⟨v, h1, h2⟩ := load_run hT hi (ad := ⟨b, j * sz + k, none⟩) (hc.drop k) (fun q u hq => by
            rw [add_at, Nat.add_assoc]
            exact hcell (k + q) u (by simpa using hq)) h
          refine ⟨v, ?_, h1⟩
          simp [e, asAddr, ld, h2]
        · cases h
      · cases h
    · cases h
theorem resL_run (hT : TyOK c.P c.tys) {E : Ent} {w : World} {V : View} {β : Bnd} {a : Act} (hf : Fits c.G E c.N w V β R fr a) : ∀ {rs : List ResultVar} {l : List AV}, resL c.tys fr R rs = some l →
    ∃ vs : List Value, (rs.mapM (m := Sem) fun | .tmp t => pure (a.tmps.getD t undef) | .cell p t => do loadVar t (← asAddr (a.tmps.getD p undef))).run c.P w = .ok vs w ∧ vs.length = l.length ∧ ∀ (i : Nat) (x : AV) (v : Value), l[i]? = some x → vs[i]? = some v → Rep w V β R x v
  | [], l, h => by
    injection h with h; subst h
    exact ⟨[], by simp, rfl, fun i x v h => by simp at h⟩
  | r :: rs, l, h => by
    unfold resL at h
    split at h
    · rename_i x hx
      split at h
      · rename_i l' hl
        injection h with h; subst h
        obtain ⟨v, h1, h2⟩ := resA_run hT hf hx
        obtain ⟨vs, h3, h4, h5⟩ := resL_run hT hf hl
        refine ⟨v :: vs, ?_, by simp [h4], fun i x' v' p q => ?_⟩
        · rw [List.mapM_cons]
          simp only [Sem.run_bind, h1, Result.andThen_ok, h3, Sem.run_pure]
        · cases i with
          | zero => simp at p q; subst p; subst q; exact h2
          | succ i => exact h5 i x' v' (by simpa using p) (by simpa using q)
      · cases h
    · cases h
theorem res_run (hT : TyOK c.P c.tys) (hrs : c.fn.results = c.rs.toArray) {E : Ent} {w : World} {V : View} {β : Bnd} {a : Act} (hf : Fits c.G E c.N w V β R fr a) {l : List AV} (h : resL c.tys fr R c.rs = some l) : ∃ v, (results c.fn a.tmps).run c.P w = .ok v w ∧ Rep w V β R (resT l) v := by
  obtain ⟨vs, h1, h2, h3⟩ := resL_run hT hf h
  have e : (results c.fn a.tmps).run c.P w = .ok (if h : vs.length = 1 then vs[0] else .tuple vs.toArray) w := by
    unfold results
    rw [hrs, Array.mapM_eq_mapM_toList, show c.rs.toArray.toList = c.rs from rfl, Sem.run_bind, Sem.run_map]
    erw [h1]
    simp
  refine ⟨_, e, ?_⟩
  clear e h1 h
  match vs, l, h2, h3 with
  | [v], [x], _, h3 => exact h3 0 x v rfl rfl
  | [], [], _, _ => exact .tup [] [] rfl (fun i a v h => by simp at h)
  | v :: v' :: vs, x :: x' :: l, h2, h3 =>
    rw [dif_neg (by simp)]
    exact .tup _ _ h2 h3
theorem Runs.retP {x : AV} {l : List AV} (hT : TyOK c.P c.tys) (hrs : c.fn.results = c.rs.toArray) (h : resL c.tys fr R c.rs = some l) (hr : Ref (resT l) x) (hx : rf x = true) : Runs c (Pur x) (.code .ret :: k) fr R := by
  intro E w V β a hf b cs
  obtain ⟨v, h1, h2⟩ := res_run hT hrs hf h
  exact ⟨a, w, V, β, R, v, _, .one step_ret, hf.frm.defers, h1, hf.wld, (hr _ _ _ _ _ h2).rf hx⟩
/-- The frame that a call begins with. -/
def frame0 : List AV → Fr
  | [] => none_
  | x :: l => fun t => match t with | 0 => x | t + 1 => frame0 l t
theorem frame0_rep {w : World} {V : View} {β : Bnd} {R : List Reg} : ∀ (l : List AV) (vs : List Value), vs.length = l.length → (∀ (i : Nat) (a : AV) (v : Value), l[i]? = some a → vs[i]? = some v → Rep w V β R a v) → ∀ t, Rep w V β R (frame0 l t) ((vs.toArray).getD t undef)
  | [], vs, _, _, t => .st (.any _)
  | x :: l, [], h, _, t => by simp at h
  | x :: l, v :: vs, h, hr, t => by
    cases t with
    | zero => simpa [frame0] using hr 0 x v rfl rfl
    | succ t => simpa [frame0] using frame0_rep l vs (by simpa using h) (fun i a v p q => hr (i + 1) a v (by simpa using p) (by simpa using q)) t
theorem frame0_any : ∀ (l : List AV) (t : Nat), l.length ≤ t → frame0 l t = .any
  | [], _, _ => rfl
  | _ :: _, 0, h => by simp at h
  | _ :: l, t + 1, h => frame0_any l t (by simpa using h)
/-- The frame that a call begins with fits. -/
theorem frame0_fits {E : Ent} {w : World} {V : View} {β : Bnd} {R : List Reg} {args : List AV} {vs : List Value} {N : Nat} (hw : Wld E w V) {G : Glo} (hG : GloOK G V) (hR : RegsOK E.bd w V β R) (hvl : vs.length = args.length) (hr : ∀ (i : Nat) (a : AV) (v : Value), args[i]? = some a → vs[i]? = some v → Rep w V β R a v) (hlen : args.length ≤ N) :
    Fits G E N w V β R (frame0 args) { tmps := vs.toArray ++ Array.replicate (N - vs.toArray.size) undef, defers := [] } := by
  refine ⟨hw, hG, hR, ⟨by simp; omega, rfl, fun t => ?_⟩⟩
  have := frame0_rep args vs hvl hr t
  by_cases ht : t < vs.length
  · have e : (vs.toArray ++ Array.replicate (N - vs.toArray.size) undef).getD t undef = vs.toArray.getD t undef := by
      simp [Array.getD_eq_getD_getElem?, Array.getElem?_append, ht]
    show Rep w V β R _ ((vs.toArray ++ Array.replicate (N - vs.toArray.size) undef).getD t undef)
    rw [e]; exact this
  · rw [frame0_any args t (by omega)]
    exact .st (.any _)
theorem RegsOK.nil {Bd : Nat → Prop} {w : World} {V : View} {β : Bnd} : RegsOK Bd w V β [] := ⟨fun i j b h => by rcases h with ⟨_, _, _, h⟩ | ⟨_, _, _, h⟩ <;> simp at h, fun i e sz n h => by simp at h, fun i n sz row h => by simp at h⟩
/-- A function's answer. -/
theorem CallOK.of {x : AV} {f : FuncId} {p : Code} {args : List AV} (hf : c.P.funcs[f]? = some c.fn) (hb : c.fn.body = some p) (hn : c.fn.ntmps = c.N) (hname : (c.fn.name == "runtime.NumGoroutine") = false) (hlen : args.length ≤ c.N) (h : Runs c (Pur x) [.code p] (frame0 args) []) : CallOK c.P c.G f args x := by
  refine ⟨⟨c.fn, hf, hname, by rw [hb]; rfl⟩, fun w V vs hsub hG hvl hr cs => ?_⟩
  let b : Frame := { (default : Frame) with fn := f, kind := .normal }
  have henter : Frame.enter c.P f vs.toArray .normal = b.at { tmps := vs.toArray ++ Array.replicate (c.fn.ntmps - vs.toArray.size) undef, defers := [] } [.code p] := by
    simp [Frame.enter, Frame.at, hf, hb, b]
  have hW : Wld ⟨w, fun _ => False, V⟩ w V := ⟨.refl _ _, hsub, .refl _, fun ad v h => .inl h⟩
  obtain ⟨a', w', V', β', R', v, k', h1, h2, h3, h4, h5⟩ := h ⟨w, fun _ => False, V⟩ w V (fun _ => none) _ (frame0_fits hW hG .nil hvl (fun i a v p q => .st (hr i a v p q)) hlen) b cs
  rw [← hn] at h1
  rw [← henter] at h1
  exact ⟨.returned v, w', _, ⟨v, V', rfl, ⟨h4.bel, h4.up, h4.sub, fun ad v hv => (h4.new ad v hv).elim .inl (fun h => .inr (h.elim False.elim id))⟩, h5⟩, h1, rfl, rfl, h2, rfl, c.fn, hf, h3⟩
end
end Go.Proofs.Ytdcabfonjmeajaa.Abs
set_option linter.unusedVariables false
set_option linter.unusedSimpArgs false
namespace Go.Proofs.Ytdcabfonjmeajaa.Abs
open Go.RowKit
/-- Where a region comes from. -/
def rho (l : List (Option Nat)) (i : Nat) : Option Nat := (l[i]?).join
/-- What is known of a value once regions are renamed. -/
inductive RefX (l : List (Option Nat)) (R' : List Reg) : AV → AV → Prop
  | any (a : AV) : RefX l R' a .any
  | st {a x : AV} (ha : rf a = true) (h : Ref a x) (hx : rf x = true) : RefX l R' a x
  | own {k i n n' sz : Nat} {row row' : Nat → List AV} (hr : rho l i = some k) (hi : Nat.blt i R'.length = true) (hn : n = n') (h : ∀ j, j < n' → row j = row' j) : RefX l R' (.own k n sz row) (.own i n' sz row')
  | nil {e i sz : Nat} {row : Nat → List AV} (hr : rho l i = none) (hR : R'[i]? = some (.arr e sz 0)) : RefX l R' (.imm (.slice none 0 0)) (.own i 0 sz row)
  | sl {k n n' sz : Nat} {row row' : Nat → List AV} (hn : n = n') (h : ∀ j, j < n' → row j = row' j) : RefX l R' (.own k n sz row) (.sl n' sz row')
  | loc {k i j q : Nat} (hr : rho l i = some k) (hi : Nat.blt i R'.length = true) : RefX l R' (.loc k j q) (.loc i j q)
  | msl {k i : Nat} (hr : rho l i = some k) (hi : Nat.blt i R'.length = true) : RefX l R' (.msl k) (.msl i)
inductive RefXL (l : List (Option Nat)) (R' : List Reg) : List AV → List AV → Prop
  | nil : RefXL l R' [] []
  | cons {a x : AV} {r s : List AV} (h : RefX l R' a x) (t : RefXL l R' r s) : RefXL l R' (a :: r) (x :: s)
inductive RegX (l : List (Option Nat)) (R R' : List Reg) : Nat → Reg → Prop
  | dead {i : Nat} : RegX l R R' i .dead
  | arr {i k e sz n n' : Nat} (hr : rho l i = some k) (hR : R[k]? = some (.arr e sz n)) (hn : n = n') : RegX l R R' i (.arr e sz n')
  | nil {i e sz : Nat} (hr : rho l i = none) : RegX l R R' i (.arr e sz 0)
  | mat {i k n sz : Nat} {row row' : Nat → List AV} (hr : rho l i = some k) (hR : R[k]? = some (.mat n sz row)) (h : ∀ j, j < n → RefXL l R' (row j) (row' j)) : RegX l R R' i (.mat n sz row')
inductive RegsX (l : List (Option Nat)) (R R' : List Reg) : Nat → List Reg → Prop
  | nil {i : Nat} : RegsX l R R' i []
  | cons {i : Nat} {r : Reg} {s : List Reg} (h : RegX l R R' i r) (t : RegsX l R R' (i + 1) s) : RegsX l R R' i (r :: s)
theorem RegsX.get {l : List (Option Nat)} {R R' : List Reg} : ∀ {s : List Reg} {i : Nat}, RegsX l R R' i s → ∀ (j : Nat) (r : Reg), s[j]? = some r → RegX l R R' (i + j) r
  | _, i, .cons h t, 0, r, e => by simp at e; subst e; exact h
  | _, i, .cons h t, j + 1, r, e => by
    have := t.get j r (by simpa using e)
    rw [show i + (j + 1) = i + 1 + j by omega]
    exact this
  | _, i, .nil, j, r, e => by simp at e
/-- No region comes from two. -/
def once : List (Option Nat) → Bool
  | [] => true
  | none :: l => once l
  | some k :: l => l.all (fun x => match x with | some q => !Nat.beq q k | none => true) && once l
theorem once_inj : ∀ {l : List (Option Nat)}, once l = true → ∀ i j k, rho l i = some k → rho l j = some k → i = j
  | [], _, i, j, k, h, _ => by simp [rho] at h
  | none :: l, h, i, j, k, hi, hj => by
    cases i with
    | zero => simp [rho] at hi
    | succ i =>
      cases j with
      | zero => simp [rho] at hj
      | succ j => rw [once_inj (l := l) h i j k (by simpa [rho] using hi) (by simpa [rho] using hj)]
  | some q :: l, h, i, j, k, hi, hj => by
    unfold once at h
    rw [Bool.and_eq_true] at h
    have no : ∀ m, rho l m = some q → False := fun m hm => by
      unfold rho at hm
      cases e : l[m]? with
      | none => rw [e] at hm; simp at hm
      | some x =>
        rw [e] at hm
        have hm : x = some q := hm
        subst hm
        have := List.all_eq_true.1 h.1 _ (List.mem_of_getElem? e)
        simp at this
    cases i with
    | zero =>
      have e1 : q = k := by simpa [rho] using hi
      subst e1
      cases j with
      | zero => rfl
      | succ j => exact (no j (by simpa [rho] using hj)).elim
    | succ i =>
      cases j with
      | zero =>
        have e1 : q = k := by simpa [rho] using hj
        subst e1
        exact (no i (by simpa [rho] using hi)).elim
      | succ j => rw [once_inj (l := l) h.2 i j k (by simpa [rho] using hi) (by simpa [rho] using hj)]
def bnd (l : List (Option Nat)) (β : Bnd) : Bnd := fun i => match rho l i with | some k => β k | none => none
theorem bnd_some {l : List (Option Nat)} {β : Bnd} {i k : Nat} (h : rho l i = some k) : bnd l β i = β k := by unfold bnd; rw [h]
theorem bnd_none {l : List (Option Nat)} {β : Bnd} {i : Nat} (h : rho l i = none) : bnd l β i = none := by unfold bnd; rw [h]
section
variable {G : Glo} {E : Ent} {N : Nat} {w : World} {V : View} {β : Bnd} {R R' : List Reg} {fr fr' : Fr} {a : Act} {l : List (Option Nat)}
theorem RefX.rep (hX : RegsX l R R' 0 R') {x y : AV} (h : RefX l R' x y) {v : Value} (hv : Rep w V β R x v) : Rep w V (bnd l β) R' y v := by
  have get : ∀ i r, R'[i]? = some r → RegX l R R' i r := fun i r hr => by have := hX.get i r hr; rwa [Nat.zero_add] at this
  cases h with
  | any a => exact .st (.any v)
  | st ha h hx =>
    have h0 : Rep w V (bnd l β) R' x v := .st (hv.rf ha)
    exact h _ _ _ _ _ h0
  | @own k i n n' sz row row' hr hi hn h =>
    subst hn
    obtain ⟨h1, h2, h3⟩ := hv.own_inv
    refine .own i n sz row' v (by simpa [Nat.blt_eq] using hi) (h2.rows h) (fun e sz' n' hR => ?_)
    cases get i _ hR with
    | arr hr2 hR2 hn =>
      subst hn
      rw [hr] at hr2; injection hr2 with hr2; subst hr2
      rw [bnd_some hr]
      exact h3 e sz' _ hR2
    | nil hr2 => rw [hr] at hr2; cases hr2
  | @nil e i sz row hr hR =>
    obtain rfl := hv.imm_inv
    refine .own i 0 sz row _ (List.getElem?_eq_some_iff.1 hR).1 (.sl 0 sz row none 0 default (fun _ => []) (Nat.le_refl _) (fun h => by omega) (fun j h => by omega) (fun j h => by omega) (fun j i v h => by omega) (fun j i a v h => by omega)) (fun e' sz' n' hR2 => ?_)
    rw [hR] at hR2
    injection hR2 with hR2; injection hR2 with e1 e2 e3
    subst e1; subst e2; subst e3
    exact ⟨rfl, rfl, (bnd_none hr).symm, [], by simp, .inl ⟨rfl, rfl⟩⟩
  | sl hn h => subst hn; exact .st (hv.own_inv.2.1.rows h)
  | @loc k i j q hr hi =>
    obtain ⟨h1, h2, h3⟩ := hv.loc_inv
    refine .loc i j q v (by simpa [Nat.blt_eq] using hi) h2 (fun n sz row hR => ?_)
    cases get i _ hR with
    | mat hr2 hR2 _ =>
      rw [hr] at hr2; injection hr2 with hr2; subst hr2
      rw [bnd_some hr]
      exact h3 n sz _ hR2
  | @msl k i hr hi =>
    obtain ⟨h1, h2, h3⟩ := hv.msl_inv
    refine .msl i v (by simpa [Nat.blt_eq] using hi) h2 (fun n sz row hR => ?_)
    cases get i _ hR with
    | mat hr2 hR2 _ =>
      rw [hr] at hr2; injection hr2 with hr2; subst hr2
      rw [bnd_some hr]
      exact h3 n sz _ hR2
theorem RefXL.len : ∀ {r s : List AV}, RefXL l R' r s → r.length = s.length
  | _, _, .nil => rfl
  | _, _, .cons _ t => by rw [List.length_cons, List.length_cons, t.len]
theorem RefXL.get : ∀ {r s : List AV}, RefXL l R' r s → ∀ (k : Nat) (y : AV), s[k]? = some y → ∃ x, r[k]? = some x ∧ RefX l R' x y
  | _, _, .cons h t, 0, y, e => by simp at e; subst e; exact ⟨_, rfl, h⟩
  | _, _, .cons h t, k + 1, y, e => by
    obtain ⟨x, h1, h2⟩ := t.get k y (by simpa using e)
    exact ⟨x, by simpa using h1, h2⟩
  | _, _, .nil, k, y, e => by simp at e
/-- Less is known. -/
structure LeR (l : List (Option Nat)) (fr : Fr) (R : List Reg) (fr' : Fr) (R' : List Reg) : Prop where
  frm : ∀ t, fr' t = .any ∨ RefX l R' (fr t) (fr' t)
  reg : RegsX l R R' 0 R'
  inj : once l = true
theorem Fits.le (h : Fits G E N w V β R fr a) (x : LeR l fr R fr' R') : Fits G E N w V (bnd l β) R' fr' a := by
  have get : ∀ i r, R'[i]? = some r → RegX l R R' i r := fun i r hr => by have := x.reg.get i r hr; rwa [Nat.zero_add] at this
  have src : ∀ i b, Reg.live R' i → bnd l β i = some b → ∃ k, rho l i = some k ∧ Reg.live R k ∧ β k = some b := fun i b hl hb => by
    rcases hl with ⟨e, sz, n, hl⟩ | ⟨n, sz, row, hl⟩
    · cases get i _ hl with
      | arr hr hR hn => subst hn; rw [bnd_some hr] at hb; exact ⟨_, hr, .inl ⟨e, sz, _, hR⟩, hb⟩
      | nil hr => rw [bnd_none hr] at hb; cases hb
    · cases get i _ hl with
      | mat hr hR _ => rw [bnd_some hr] at hb; exact ⟨_, hr, .inr ⟨n, sz, _, hR⟩, hb⟩
  refine ⟨h.wld, h.glo, ⟨fun i j b hi hj hbi hbj => ?_, fun i e sz n hr b hb => ?_, fun i n sz row hr => ?_⟩, ⟨h.frm.size, h.frm.defers, fun t => ?_⟩⟩
  · obtain ⟨k, p1, p2, p3⟩ := src i b hi hbi
    obtain ⟨k', q1, q2, q3⟩ := src j b hj hbj
    have := h.reg.dis k k' b p2 q2 p3 q3
    subst this
    exact once_inj x.inj i j k p1 q1
  · cases get i _ hr with
    | arr hr2 hR hn => subst hn; rw [bnd_some hr2] at hb; exact h.reg.arr _ e sz _ hR b hb
    | nil hr2 => rw [bnd_none hr2] at hb; cases hb
  · cases get i _ hr with
    | mat hr2 hR hx =>
      rename_i k row0
      obtain ⟨b, vs, e, h1, h2, h3, h4, h5, h6⟩ := h.reg.mat k n sz row0 hR
      refine ⟨b, vs, e, (bnd_some hr2).trans h1, h2, h3, h4, h5, fun j hj => ⟨by rw [← (hx j hj).len]; exact (h6 j hj).1, fun q y hy => ?_⟩⟩
      obtain ⟨x0, hx0, hxx⟩ := (hx j hj).get q y hy
      obtain ⟨v, p1, p2, p3⟩ := (h6 j hj).2 q x0 hx0
      exact ⟨v, p1, p2, hxx.rep x.reg p3⟩
  · rcases x.frm t with e | e
    · rw [e]; exact .st (.any _)
    · exact e.rep x.reg (h.frm.rep t)
end
section
variable {c : Cx} {Fn : Fin} {K : List Item} {fr fr' : Fr} {R R' : List Reg}
theorem Runs.le {todo : List Item} (l : List (Option Nat)) (h : Runs c Fn todo fr' R') (hl : LeR l fr R fr' R') : Runs c Fn todo fr R := fun E w V β a hf => h E w V _ a (hf.le hl)
theorem leR_none (l : List (Option Nat)) (R' : List Reg) (fr : Fr) : ∀ t, none_ t = .any ∨ RefX l R' (fr t) (none_ t) := fun _ => .inl rfl
theorem leR_upd {l : List (Option Nat)} {R' : List Reg} {d : Nat} {x : AV} (h : ∀ t, fr' t = .any ∨ RefX l R' (fr t) (fr' t)) (hx : RefX l R' (fr d) x) : ∀ t, upd fr' d x t = .any ∨ RefX l R' (fr t) (upd fr' d x t) := fun t => by
  rw [upd_eq]
  by_cases e : t = d
  · subst e; rw [if_pos rfl]; exact .inr hx
  · rw [if_neg e]; exact h t
theorem RefXL.refl {l : List (Option Nat)} {R' : List Reg} : ∀ {r : List AV}, rf.rfL r = true → RefXL l R' r r
  | [], _ => .nil
  | a :: r, h => by
    unfold rf.rfL at h
    rw [Bool.and_eq_true] at h
    exact .cons (.st h.1 (Ref.rfl' a) h.1) (RefXL.refl h.2)
/-- Rows that lead into no region, of one row. -/
theorem RegX.same1 {l : List (Option Nat)} {R R' : List Reg} {i k sz : Nat} {row : Nat → List AV} (hr : rho l i = some k) (hR : R[k]? = some (.mat 1 sz row)) (h : rf.rfL (row 0) = true) : RegX l R R' i (.mat 1 sz row) :=
  .mat hr hR (fun j hj => by
    obtain rfl : j = 0 := by omega
    exact RefXL.refl h)
theorem RegX.mat1 {l : List (Option Nat)} {R R' : List Reg} {i k sz : Nat} {row row' : Nat → List AV} (hr : rho l i = some k) (hR : R[k]? = some (.mat 1 sz row)) (h : RefXL l R' (row 0) (row' 0)) : RegX l R R' i (.mat 1 sz row') :=
  .mat hr hR (fun j hj => by
    obtain rfl : j = 0 := by omega
    exact h)
/-- The frame of the temporaries that are kept. -/
def keepF (fr : Fr) : List Nat → Fr
  | [] => none_
  | t :: l => upd (keepF fr l) t (fr t)
def overF (fr : Fr) : List (Nat × AV) → Fr
  | [] => fr
  | x :: l => upd (overF fr l) x.1 x.2
/-- Regions of which none may be appended to; those that these temporaries lead to are left out. -/
def deadR (fr : Fr) (ps : List Nat) (R : List Reg) : List Reg := ps.foldr (fun p R => match fr p with | .loc k _ _ => R.set k .dead | .msl k => R.set k .dead | _ => R) (R.map (fun r => match r with | .arr _ _ _ => .dead | r => r))
def idR : Nat → List Reg → List (Option Nat) → List (Option Nat)
  | _, [], l => l
  | i, .dead :: R, l => none :: idR (i + 1) R l
  | i, .arr _ _ _ :: R, l => some i :: idR (i + 1) R l
  | i, .mat _ _ _ :: R, l => some i :: idR (i + 1) R l
/-- A loop that is told by a function of the rounds that are left. -/
theorem Runs.loopK {α ρ : Type} {B : Code} (F : Nat → α → Option ρ) {r : ρ} (keep ps : List Nat) (vf : Nat → α → List (Nat × AV)) (vr : α → List Reg) (K0 : Nat) (y : α) (l : List (Option Nat)) (hF : F K0 y = some r) (h0 : ∀ y, F 0 y = none)
    (hle : LeR (idR 0 (deadR fr ps R) l) fr R (overF (keepF fr keep) (vf R.length y)) (deadR fr ps R ++ vr y))
    (hstep : ∀ kk, kk < K0 → (∀ k' y l fr' R', k' ≤ kk → F k' y = some r → LeR (idR 0 (deadR fr ps R) l) fr' R' (overF (keepF fr keep) (vf R.length y)) (deadR fr ps R ++ vr y) → Runs c Fn (.inLoop B :: K) fr' R') → ∀ y, F (kk + 1) y = some r → Runs c Fn (.code B :: .inLoop B :: K) (overF (keepF fr keep) (vf R.length y)) (deadR fr ps R ++ vr y)) : Runs c Fn (.code (.loop B) :: K) fr R := by
  have H : ∀ n k, k ≤ n → k ≤ K0 → ∀ y, F k y = some r → Runs c Fn (.code B :: .inLoop B :: K) (overF (keepF fr keep) (vf R.length y)) (deadR fr ps R ++ vr y) := by
    intro n
    induction n with
    | zero =>
      intro k hk _ y hF
      obtain rfl : k = 0 := by omega
      rw [h0] at hF
      cases hF
    | succ n ih =>
      intro k hk hk0 y hF
      cases k with
      | zero => rw [h0] at hF; cases hF
      | succ kk => exact hstep kk (by omega) (fun k' y' l' fr' R' hk' hF' hl => ((ih k' (by omega) (by omega) y' hF').inLoop).le _ hl) y hF
  exact ((H K0 K0 (Nat.le_refl _) (Nat.le_refl _) y hF).loop).le _ hle
theorem Runs.loopK1 {α0 ρ : Type} {B : Code} (F : Nat → α0 → Option ρ) {r : ρ} (keep ps : List Nat) (vf : Nat → α0 → List (Nat × AV)) (vr : α0 → List Reg) (K0 : Nat) (y0 : α0) (l : List (Option Nat)) (hF : F K0 y0 = some r) (h0 : ∀ y0, F 0 y0 = none)
    (hle : LeR (idR 0 (deadR fr ps R) l) fr R (overF (keepF fr keep) (vf R.length y0)) (deadR fr ps R ++ vr y0))
    (hstep : ∀ kk, kk < K0 → (∀ k' y0 l fr' R', k' ≤ kk → F k' y0 = some r → LeR (idR 0 (deadR fr ps R) l) fr' R' (overF (keepF fr keep) (vf R.length y0)) (deadR fr ps R ++ vr y0) → Runs c Fn (.inLoop B :: K) fr' R') → ∀ y0, F (kk + 1) y0 = some r → Runs c Fn (.code B :: .inLoop B :: K) (overF (keepF fr keep) (vf R.length y0)) (deadR fr ps R ++ vr y0)) : Runs c Fn (.code (.loop B) :: K) fr R :=
  Runs.loopK (α := α0) (fun k y => F k (y)) keep ps (fun b y => vf b (y)) (fun y => vr (y)) K0 y0 l hF (fun y => h0 (y)) hle (fun kk hk ih y H => hstep kk hk (fun k' y0 l' fr' R' hk' hF' hl => ih k' y0 l' fr' R' hk' hF' hl) (y) H)
theorem Runs.loopK2 {α0 α1 ρ : Type} {B : Code} (F : Nat → α0 → α1 → Option ρ) {r : ρ} (keep ps : List Nat) (vf : Nat → α0 → α1 → List (Nat × AV)) (vr : α0 → α1 → List Reg) (K0 : Nat) (y0 : α0) (y1 : α1) (l : List (Option Nat)) (hF : F K0 y0 y1 = some r) (h0 : ∀ y0 y1, F 0 y0 y1 = none)
    (hle : LeR (idR 0 (deadR fr ps R) l) fr R (overF (keepF fr keep) (vf R.length y0 y1)) (deadR fr ps R ++ vr y0 y1))
    (hstep : ∀ kk, kk < K0 → (∀ k' y0 y1 l fr' R', k' ≤ kk → F k' y0 y1 = some r → LeR (idR 0 (deadR fr ps R) l) fr' R' (overF (keepF fr keep) (vf R.length y0 y1)) (deadR fr ps R ++ vr y0 y1) → Runs c Fn (.inLoop B :: K) fr' R') → ∀ y0 y1, F (kk + 1) y0 y1 = some r → Runs c Fn (.code B :: .inLoop B :: K) (overF (keepF fr keep) (vf R.length y0 y1)) (deadR fr ps R ++ vr y0 y1)) : Runs c Fn (.code (.loop B) :: K) fr R :=
  Runs.loopK (α := α0 × α1) (fun k y => F k (y.1) (y.2)) keep ps (fun b y => vf b (y.1) (y.2)) (fun y => vr (y.1) (y.2)) K0 (y0, y1) l hF (fun y => h0 (y.1) (y.2)) hle (fun kk hk ih y H => hstep kk hk (fun k' y0 y1 l' fr' R' hk' hF' hl => ih k' (y0, y1) l' fr' R' hk' hF' hl) (y.1) (y.2) H)
theorem Runs.loopK3 {α0 α1 α2 ρ : Type} {B : Code} (F : Nat → α0 → α1 → α2 → Option ρ) {r : ρ} (keep ps : List Nat) (vf : Nat → α0 → α1 → α2 → List (Nat × AV)) (vr : α0 → α1 → α2 → List Reg) (K0 : Nat) (y0 : α0) (y1 : α1) (y2 : α2) (l : List (Option Nat)) (hF : F K0 y0 y1 y2 = some r) (h0 : ∀ y0 y1 y2, F 0 y0 y1 y2 = none)
    (hle : LeR (idR 0 (deadR fr ps R) l) fr R (overF (keepF fr keep) (vf R.length y0 y1 y2)) (deadR fr ps R ++ vr y0 y1 y2))
    (hstep : ∀ kk, kk < K0 → (∀ k' y0 y1 y2 l fr' R', k' ≤ kk → F k' y0 y1 y2 = some r → LeR (idR 0 (deadR fr ps R) l) fr' R' (overF (keepF fr keep) (vf R.length y0 y1 y2)) (deadR fr ps R ++ vr y0 y1 y2) → Runs c Fn (.inLoop B :: K) fr' R') → ∀ y0 y1 y2, F (kk + 1) y0 y1 y2 = some r → Runs c Fn (.code B :: .inLoop B :: K) (overF (keepF fr keep) (vf R.length y0 y1 y2)) (deadR fr ps R ++ vr y0 y1 y2)) : Runs c Fn (.code (.loop B) :: K) fr R :=
  Runs.loopK (α := α0 × α1 × α2) (fun k y => F k (y.1) (y.2.1) (y.2.2)) keep ps (fun b y => vf b (y.1) (y.2.1) (y.2.2)) (fun y => vr (y.1) (y.2.1) (y.2.2)) K0 (y0, y1, y2) l hF (fun y => h0 (y.1) (y.2.1) (y.2.2)) hle (fun kk hk ih y H => hstep kk hk (fun k' y0 y1 y2 l' fr' R' hk' hF' hl => ih k' (y0, y1, y2) l' fr' R' hk' hF' hl) (y.1) (y.2.1) (y.2.2) H)
theorem leR_over {l : List (Option Nat)} {f : Fr} {x : Nat × AV} {xs : List (Nat × AV)} (hx : RefX l R' (fr x.1) x.2) (h : ∀ t, overF f xs t = .any ∨ RefX l R' (fr t) (overF f xs t)) : ∀ t, overF f (x :: xs) t = .any ∨ RefX l R' (fr t) (overF f (x :: xs) t) := leR_upd h hx
theorem leR_over0 {l : List (Option Nat)} {f : Fr} (h : ∀ t, f t = .any ∨ RefX l R' (fr t) (f t)) : ∀ t, overF f [] t = .any ∨ RefX l R' (fr t) (overF f [] t) := h
theorem leR_keep {l : List (Option Nat)} {f : Fr} {d : Nat} {xs : List Nat} (hx : RefX l R' (fr d) (f d)) (h : ∀ t, keepF f xs t = .any ∨ RefX l R' (fr t) (keepF f xs t)) : ∀ t, keepF f (d :: xs) t = .any ∨ RefX l R' (fr t) (keepF f (d :: xs) t) := leR_upd h hx
theorem leR_keep0 {l : List (Option Nat)} {f : Fr} : ∀ t, keepF f [] t = .any ∨ RefX l R' (fr t) (keepF f [] t) := fun _ => .inl rfl
end
theorem some_ite {α : Type} {p : Prop} [Decidable p] {a : Option α} {r : α} (h : (if p then a else none) = some r) : p ∧ a = some r := by
  by_cases hp : p
  · rw [if_pos hp] at h; exact ⟨hp, h⟩
  · rw [if_neg hp] at h; cases h
theorem ite_pos_ {α : Type} {p : Prop} [Decidable p] {a b r : α} (hp : p) (h : (if p then a else b) = r) : a = r := by rw [if_pos hp] at h; exact h
theorem ite_neg_ {α : Type} {p : Prop} [Decidable p] {a b r : α} (hp : ¬ p) (h : (if p then a else b) = r) : b = r := by rw [if_neg hp] at h; exact h
theorem bind_some' {α β : Type} {o : Option α} {f : α → Option β} {r : β} (h : o.bind f = some r) : ∃ t, o = some t ∧ f t = some r := Option.bind_eq_some_iff.1 h
end Go.Proofs.Ytdcabfonjmeajaa.Abs
set_option linter.unusedVariables false
set_option linter.unusedSimpArgs false
namespace Go.Proofs.Ytdcabfonjmeajaa.Abs
open Go.RowKit
/-- The rows of a list. -/
def rowsE {α : Type} (e : α → List AV) (z : α) (l : List α) : Nat → List AV := fun j => e (l.getD j z)
def eInt (k : IntKind) (x : Int) : List AV := [.imm (.int k x)]
def eStr (x : ByteArray) : List AV := [.imm (.string x)]
def eBool (x : Bool) : List AV := [.imm (.bool x)]
abbrev vI (k : IntKind) (l : List Int) : AV := .sl l.length 1 (rowsE (eInt k) 0 l)
abbrev vStr (l : List ByteArray) : AV := .sl l.length 1 (rowsE eStr ByteArray.empty l)
abbrev vB (l : List Bool) : AV := .sl l.length 1 (rowsE eBool false l)
def eL1 (x : List Int) : List AV := [vI .u8 x]
abbrev vL1 (l : List (List Int)) : AV := .sl l.length 1 (rowsE eL1 [] l)
section
variable {α : Type} {e : α → List AV} {z : α} {l l2 : List α}
theorem getD_left {l r : List α} {z : α} {j : Nat} (h : j < l.length) : (l ++ r).getD j z = l.getD j z := by
  rw [List.getD_eq_getElem?_getD, List.getD_eq_getElem?_getD, List.getElem?_append_left h]
theorem getD_right {l r : List α} {z : α} {j : Nat} (h : l.length ≤ j) : (l ++ r).getD j z = r.getD (j - l.length) z := by
  rw [List.getD_eq_getElem?_getD, List.getD_eq_getElem?_getD, List.getElem?_append_right h]
theorem rows_app {row2 : Nat → List AV} {n : Nat} (h : ∀ j, j < n → row2 j = rowsE e z l2 j) (hn : n = l2.length) : ∀ j, j < (l ++ l2).length → appR l.length (rowsE e z l) row2 j = rowsE e z (l ++ l2) j := by
  intro j hj
  rw [List.length_append] at hj
  unfold appR rowsE
  by_cases c : j < l.length
  · rw [if_pos c, getD_left c]
  · rw [if_neg c, getD_right (by omega)]
    exact h (j - l.length) (by omega)
theorem rows_app2 {row row2 : Nat → List AV} {n m : Nat} (h1 : ∀ j, j < l.length → row j = rowsE e z l j) (hn : n = l.length) (h : ∀ j, j < l2.length → row2 j = rowsE e z l2 j) (hm : m = n) : ∀ j, j < (l ++ l2).length → appR m row row2 j = rowsE e z (l ++ l2) j := by
  subst hm; subst hn
  intro j hj
  have := rows_app (l := l) (e := e) (z := z) h rfl j hj
  unfold appR at this ⊢
  by_cases c : j < l.length
  · rw [if_pos c] at this ⊢; rw [h1 j c]; exact this
  · rw [if_neg c] at this ⊢; exact this
theorem rows_snoc {row2 : Nat → List AV} {v : α} (h : row2 0 = e v) : ∀ j, j < (l ++ [v]).length → appR l.length (rowsE e z l) row2 j = rowsE e z (l ++ [v]) j :=
  rows_app (n := 1) (l2 := [v]) (fun j hj => by
    obtain rfl : j = 0 := by omega
    exact h) rfl
theorem rows_one {row2 : Nat → List AV} {v : α} (h : row2 0 = e v) : ∀ j, j < [v].length → row2 j = rowsE e z [v] j := fun j hj => by
  obtain rfl : j = 0 := by simpa using hj
  exact h
theorem rows_nil {row2 : Nat → List AV} : ∀ j, j < ([] : List α).length → row2 j = rowsE e z [] j := fun j hj => by simp at hj
theorem rows_two {row2 : Nat → List AV} {u v : α} (h : row2 0 = e u) (h2 : row2 1 = e v) : ∀ j, j < [u, v].length → row2 j = rowsE e z [u, v] j := fun j hj => by
  have : j = 0 ∨ j = 1 := by simp at hj; omega
  rcases this with rfl | rfl
  · exact h
  · exact h2
end
theorem Ref.own' {i n n' sz : Nat} {row row' : Nat → List AV} (hn : n = n') (h : ∀ j, j < n' → row j = row' j) : Ref (.own i n sz row) (.sl n' sz row') := by
  subst hn
  exact (Ref.own i n sz row).trans (Ref.rows h)
theorem Ref.sl' {n n' sz : Nat} {row row' : Nat → List AV} (hn : n = n') (h : ∀ j, j < n' → row j = row' j) : Ref (.sl n sz row) (.sl n' sz row') := by
  subst hn
  exact Ref.rows h
theorem Ref.nil' {n sz : Nat} {row : Nat → List AV} (hn : n = 0) : Ref (.imm (.slice none 0 0)) (.sl n sz row) := by
  subst hn
  exact Ref.nil sz row
theorem none_ite {α : Type} {p : Prop} [Decidable p] {a : Option α} {r : α} (h : (if p then none else a) = some r) : ¬ p ∧ a = some r := by
  by_cases c : p
  · rw [if_pos c] at h; cases h
  · rw [if_neg c] at h; exact ⟨c, h⟩
theorem some_bind_ {α β : Type} {x : α} {f : α → Option β} {r : β} (h : (some x).bind f = some r) : f x = some r := h
theorem bool_ite {α : Type} {t : Bool} {a b : Option α} {r : α} (h : (if t = true then a else b) = some r) : (t = true ∧ a = some r) ∨ (t = false ∧ b = some r) := by
  cases t
  · exact .inr ⟨rfl, h⟩
  · exact .inl ⟨rfl, h⟩
theorem bool_iteN {α : Type} {t : Bool} {a b : Option α} {r : α} (h : (if (!t) = true then a else b) = some r) : (t = false ∧ a = some r) ∨ (t = true ∧ b = some r) := by
  cases t
  · exact .inl ⟨rfl, h⟩
  · exact .inr ⟨rfl, h⟩
theorem true_ite {α : Type} {a b r : α} (h : (if true = true then a else b) = r) : a = r := h
theorem false_ite {α : Type} {a b r : α} (h : (if false = true then a else b) = r) : b = r := h
theorem beq_t {α : Type} [BEq α] [LawfulBEq α] {a b : α} (h : a = b) : (a == b) = true := beq_iff_eq.2 h
theorem beq_f {α : Type} [BEq α] [LawfulBEq α] {a b : α} (h : ¬ a = b) : (a == b) = false := beq_eq_false_iff_ne.2 h
theorem bne_t {α : Type} [BEq α] [LawfulBEq α] {a b : α} (h : ¬ a = b) : (a != b) = true := bne_iff_ne.2 h
theorem bne_f {α : Type} [BEq α] [LawfulBEq α] {a b : α} (h : a = b) : (a != b) = false := by simp [h]
theorem dec_pos {α : Type} {p : Prop} [Decidable p] {a b r : α} (hp : p) (h : (if decide p = true then a else b) = r) : a = r := by rw [if_pos (decide_eq_true hp)] at h; exact h
theorem dec_neg {α : Type} {p : Prop} [Decidable p] {a b r : α} (hp : ¬ p) (h : (if decide p = true then a else b) = r) : b = r := by rw [if_neg (by rw [decide_eq_false hp]; exact Bool.false_ne_true)] at h; exact h
theorem dec_t {p : Prop} [Decidable p] {r : Bool} (hp : p) (h : some (decide p) = some r) : some true = some r := by rw [decide_eq_true hp] at h; exact h
theorem dec_f {p : Prop} [Decidable p] {r : Bool} (hp : ¬ p) (h : some (decide p) = some r) : some false = some r := by rw [decide_eq_false hp] at h; exact h
theorem beq_pos {α β : Type} [BEq β] [LawfulBEq β] {x y : β} {a b r : α} (hp : x = y) (h : (if (x == y) = true then a else b) = r) : a = r := by rw [if_pos (beq_t hp)] at h; exact h
theorem beq_neg {α β : Type} [BEq β] [LawfulBEq β] {x y : β} {a b r : α} (hp : ¬ x = y) (h : (if (x == y) = true then a else b) = r) : b = r := by rw [if_neg (by rw [beq_f hp]; exact Bool.false_ne_true)] at h; exact h
theorem beq_tt {β : Type} [BEq β] [LawfulBEq β] {x y : β} {r : Bool} (hp : x = y) (h : some (x == y) = some r) : some true = some r := by rw [beq_t hp] at h; exact h
theorem beq_ff {β : Type} [BEq β] [LawfulBEq β] {x y : β} {r : Bool} (hp : ¬ x = y) (h : some (x == y) = some r) : some false = some r := by rw [beq_f hp] at h; exact h
theorem cond_ite {α : Type} {t : Bool} {a b r : α} (h : some (bif t then a else b) = some r) : (t = true ∧ some a = some r) ∨ (t = false ∧ some b = some r) := by
  cases t
  · exact .inr ⟨rfl, h⟩
  · exact .inl ⟨rfl, h⟩
/-- Rows of one row. -/
theorem Ref.one {sz : Nat} {row row' : Nat → List AV} (h : RefL (row 0) (row' 0)) (hr : rf.rfL (row' 0) = true) : Ref (.sl 1 sz row) (.sl 1 sz row') := fun w V β R v hv => by
  obtain ⟨A, c, ad, vs, rfl, h1, h2, h3, h4, h5, h6⟩ := hv.sl_inv.sl_inv
  refine .st (.sl 1 sz row' A c ad vs h1 h2 (fun j hj => ⟨?_, (h3 j hj).2⟩) h4 h5 (fun j i a v hj ha hu => ?_))
  · obtain rfl : j = 0 := by omega
    rw [← h.len]; exact (h3 0 hj).1
  · obtain rfl : j = 0 := by omega
    have : Rep w V β R a v := h.rep (w := w) (β := β) (R := R) (fun i a v p q => .st (h6 0 i a v hj p q)) i a v ha hu
    exact this.rf (rfL_get hr i a ha)
end Go.Proofs.Ytdcabfonjmeajaa.Abs
set_option linter.unusedVariables false
set_option linter.unusedSimpArgs false
namespace Go.Proofs.Ytdcabfonjmeajaa.Abs
open Go.RowKit
section
variable {P : Program} {tys : Tys} {G : Glo} {E : Ent} {N : Nat} {w : World} {V : View} {β : Bnd} {R : List Reg} {fr fr' : Fr} {a : Act} {ops : Array Oper}
theorem opA_congr {op : Op} (hl : ∀ x ∈ op.operands.toList, look G fr x = look G fr' x) : opA tys G fr R op = opA tys G fr' R op := by
  unfold opA
  split
  case h_1 x => rw [hl x (by simp [Op.operands])]
  case h_2 x => rw [hl x (by simp [Op.operands])]
  case h_3 c p q => rw [hl c (by simp [Op.operands]), hl p (by simp [Op.operands]), hl q (by simp [Op.operands])]
  case h_4 t p => rw [hl p (by simp [Op.operands])]
  case h_5 s p f => rw [hl p (by simp [Op.operands])]
  case h_6 y n => rw [hl y (by simp [Op.operands])]
  case h_7 t y => rw [hl y (by simp [Op.operands])]
  case h_8 t y z _ => rw [hl y (by simp [Op.operands]), hl z (by simp [Op.operands])]
  case h_9 t y z _ => rw [hl y (by simp [Op.operands]), hl z (by simp [Op.operands])]
  case h_10 y => rw [hl y (by simp [Op.operands])]
  case h_11 f cs =>
    have : cs.map (look G fr) = cs.map (look G fr') := List.map_congr_left (fun x hx => hl x (by simpa [Op.operands] using hx))
    rw [this]
  case h_12 t parts =>
    have : parts.map (fun p => (p.1, look G fr p.2)) = parts.map (fun p => (p.1, look G fr' p.2)) := List.map_congr_left (fun p hp => by
      rw [hl p.2 (by simp only [Op.operands, List.mem_map]; exact ⟨p, hp, rfl⟩)])
    rw [this]
  case h_13 y t => rw [hl y (by simp [Op.operands, Call.operands])]
  case h_14 => rfl
/-- What an operation yields that may be carried out ahead of others, or behind them. -/
inductive QOp (P : Program) (tys : Tys) (G : Glo) (R : List Reg) (ops : Array Oper) (fr : Fr) (o : Oper) : AV → Prop
  | off (hw : wantA ops fr o = some false) : QOp P tys G R ops fr o (.imm (.tuple ⟨[]⟩))
  | pure {x : AV} (hw : wantA ops fr o = some true) (hop : opA tys G fr R o.op = some x) : QOp P tys G R ops fr o x
  | cmpT {p : Prop} (hw : wantA ops fr o = some true) (hop : CmpA G fr o.op p) (hp : p) : QOp P tys G R ops fr o (.imm (.bool true))
  | cmpF {p : Prop} (hw : wantA ops fr o = some true) (hop : CmpA G fr o.op p) (hp : ¬ p) : QOp P tys G R ops fr o (.imm (.bool false))
  | val {x : AV} (hw : wantA ops fr o = some true) (hop : ValA tys G fr o.op x) : QOp P tys G R ops fr o x
  | idx {t : TypeId} {x i : Operand} {n sz : Nat} {row : Nat → List AV} {k : IntKind} {j : Int} (hw : wantA ops fr o = some true) (hop : o.op = .indexAddr t x i) (hx : slV (look G fr x) = some (n, sz + 1, row)) (hi : look G fr i = .imm (.int k j)) (he : elemA tys t = sz + 1) (h0 : 0 ≤ j) (h1 : j < (n : Int)) : QOp P tys G R ops fr o (.ptr (row j.toNat))
  | call {f : FuncId} {as : List Operand} {ts : Array TypeId} {args : List AV} {x : AV} (hw : wantA ops fr o = some true) (hop : o.op = .call ⟨.value (.func f), ⟨as⟩, ts⟩) (hc : CallOK P G f args x) (ha : ArgsOK (as.map (look G fr)) args) : QOp P tys G R ops fr o x
  | callv {f : FuncId} {q : Operand} {cs : List AV} {as : List Operand} {ts : Array TypeId} {args : List AV} {x : AV} (hw : wantA ops fr o = some true) (hop : o.op = .call ⟨.value q, ⟨as⟩, ts⟩) (hq : look G fr q = .fn f cs) (hc : CallOK P G f args x) (ha : ArgsOK (as.map (look G fr) ++ cs) args) : QOp P tys G R ops fr o x
theorem looks_tmp {o : Oper} {t : Tmp} (h : .tmp t ∈ o.op.operands.toList) : t ∈ o.looksAt ops := by
  unfold Oper.looksAt
  exact List.mem_append_left _ (List.mem_filterMap.2 ⟨.tmp t, h, rfl⟩)
theorem look_same {o : Oper} (h : ∀ t ∈ o.looksAt ops, fr t = fr' t) : ∀ x ∈ o.op.operands.toList, look G fr x = look G fr' x := fun x hx => by
  cases x with
  | tmp t => exact h t (looks_tmp hx)
  | const v => rfl
  | global g => rfl
  | func f => rfl
theorem want_same {o : Oper} (h : ∀ t ∈ o.looksAt ops, fr t = fr' t) : wantA ops fr o = wantA ops fr' o := by
  unfold wantA
  cases hg : o.guard with
  | none => rfl
  | some jb =>
    obtain ⟨j, b⟩ := jb
    simp only
    cases hj : (ops[j]?).bind (·.dst) with
    | none => rfl
    | some d =>
      simp only
      rw [h d (by
        unfold Oper.looksAt
        rw [hg]
        simp only [hj]
        exact List.mem_append_right _ (by simp))]
theorem QOp.local_ {o : Oper} {x : AV} (h : QOp P tys G R ops fr o x) (hs : ∀ t ∈ o.looksAt ops, fr t = fr' t) : QOp P tys G R ops fr' o x := by
  have hl := look_same (G := G) hs
  have hwe := want_same hs
  have cmpL : ∀ {p : Prop}, CmpA G fr o.op p → CmpA G fr' o.op p := fun {p} hc => by
    generalize o.op = op at hc hl
    cases hc with
    | lss hx hy => exact .lss ((hl _ (by simp [Op.operands])).symm.trans hx) ((hl _ (by simp [Op.operands])).symm.trans hy)
    | leq hx hy => exact .leq ((hl _ (by simp [Op.operands])).symm.trans hx) ((hl _ (by simp [Op.operands])).symm.trans hy)
    | gtr hx hy => exact .gtr ((hl _ (by simp [Op.operands])).symm.trans hx) ((hl _ (by simp [Op.operands])).symm.trans hy)
    | geq hx hy => exact .geq ((hl _ (by simp [Op.operands])).symm.trans hx) ((hl _ (by simp [Op.operands])).symm.trans hy)
    | eql hx hy => exact .eql ((hl _ (by simp [Op.operands])).symm.trans hx) ((hl _ (by simp [Op.operands])).symm.trans hy)
    | neq hx hy => exact .neq ((hl _ (by simp [Op.operands])).symm.trans hx) ((hl _ (by simp [Op.operands])).symm.trans hy)
    | seq hx hy => exact .seq ((hl _ (by simp [Op.operands])).symm.trans hx) ((hl _ (by simp [Op.operands])).symm.trans hy)
    | sne hx hy => exact .sne ((hl _ (by simp [Op.operands])).symm.trans hx) ((hl _ (by simp [Op.operands])).symm.trans hy)
  have binL : ∀ {v : Value}, BinA G fr o.op v → BinA G fr' o.op v := fun {p} hc => by
    generalize o.op = op at hc hl
    cases hc with
    | mul hx hy => exact .mul ((hl _ (by simp [Op.operands])).symm.trans hx) ((hl _ (by simp [Op.operands])).symm.trans hy)
    | add8 hx hy => exact .add8 ((hl _ (by simp [Op.operands])).symm.trans hx) ((hl _ (by simp [Op.operands])).symm.trans hy)
    | sub8 hx hy => exact .sub8 ((hl _ (by simp [Op.operands])).symm.trans hx) ((hl _ (by simp [Op.operands])).symm.trans hy)
    | mul8 hx hy => exact .mul8 ((hl _ (by simp [Op.operands])).symm.trans hx) ((hl _ (by simp [Op.operands])).symm.trans hy)
    | addK hx hy => exact .addK ((hl _ (by simp [Op.operands])).symm.trans hx) ((hl _ (by simp [Op.operands])).symm.trans hy)
    | subK hx hy => exact .subK ((hl _ (by simp [Op.operands])).symm.trans hx) ((hl _ (by simp [Op.operands])).symm.trans hy)
    | mulK hx hy => exact .mulK ((hl _ (by simp [Op.operands])).symm.trans hx) ((hl _ (by simp [Op.operands])).symm.trans hy)
    | bits hb hx hy => exact .bits hb ((hl _ (by simp [Op.operands])).symm.trans hx) ((hl _ (by simp [Op.operands])).symm.trans hy)
    | shl hx hy h => exact .shl ((hl _ (by simp [Op.operands])).symm.trans hx) ((hl _ (by simp [Op.operands])).symm.trans hy) h
    | shr hx hy h => exact .shr ((hl _ (by simp [Op.operands])).symm.trans hx) ((hl _ (by simp [Op.operands])).symm.trans hy) h
    | quo hx hy h => exact .quo ((hl _ (by simp [Op.operands])).symm.trans hx) ((hl _ (by simp [Op.operands])).symm.trans hy) h
    | quo64 hx hy h => exact .quo64 ((hl _ (by simp [Op.operands])).symm.trans hx) ((hl _ (by simp [Op.operands])).symm.trans hy) h
    | rem hx hy h => exact .rem ((hl _ (by simp [Op.operands])).symm.trans hx) ((hl _ (by simp [Op.operands])).symm.trans hy) h
    | cat hx hy h => exact .cat ((hl _ (by simp [Op.operands])).symm.trans hx) ((hl _ (by simp [Op.operands])).symm.trans hy) h
    | neg hx => exact .neg ((hl _ (by simp [Op.operands])).symm.trans hx)
  have valL : ∀ {x : AV}, ValA tys G fr o.op x → ValA tys G fr' o.op x := fun {x} hc => by
    generalize hq : o.op = op at hc hl binL
    cases hc with
    | bin h => exact .bin (binL h)
    | idxS ht hx hi h0 h1 => exact .idxS ht ((hl _ (by simp [Op.operands])).symm.trans hx) ((hl _ (by simp [Op.operands])).symm.trans hi) h0 h1
    | beqB ht hx hy => exact .beqB ht ((hl _ (by simp [Op.operands])).symm.trans hx) ((hl _ (by simp [Op.operands])).symm.trans hy)
    | bneB ht hx hy => exact .bneB ht ((hl _ (by simp [Op.operands])).symm.trans hx) ((hl _ (by simp [Op.operands])).symm.trans hy)
  have mapL : ∀ {as : List Operand} {c : Callee} {ts : Array TypeId}, o.op = .call ⟨c, ⟨as⟩, ts⟩ → as.map (look G fr) = as.map (look G fr') := fun {as c ts} e => List.map_congr_left (fun x hx => hl x (by
    rw [e]
    simp only [Op.operands, Call.operands]
    cases c <;> simp [hx]))
  cases h with
  | off hw => exact .off (hwe ▸ hw)
  | pure hw hop => exact .pure (hwe ▸ hw) ((opA_congr hl).symm.trans hop)
  | cmpT hw hop hp => exact .cmpT (hwe ▸ hw) (cmpL hop) hp
  | cmpF hw hop hp => exact .cmpF (hwe ▸ hw) (cmpL hop) hp
  | val hw hop => exact .val (hwe ▸ hw) (valL hop)
  | idx hw hop hx hi he h0 h1 => exact .idx (hwe ▸ hw) hop (by rw [← hl _ (by rw [hop]; simp [Op.operands])]; exact hx) ((hl _ (by rw [hop]; simp [Op.operands])).symm.trans hi) he h0 h1
  | call hw hop hc ha => exact .call (hwe ▸ hw) hop hc (by rw [← mapL hop]; exact ha)
  | callv hw hop hq hc ha => exact .callv (hwe ▸ hw) hop ((hl _ (by rw [hop]; simp [Op.operands, Call.operands])).symm.trans hq) hc (by rw [← mapL hop]; exact ha)
end
end Go.Proofs.Ytdcabfonjmeajaa.Abs
set_option linter.unusedVariables false
set_option linter.unusedSimpArgs false
namespace Go.Proofs.Ytdcabfonjmeajaa.Abs
open Go.RowKit
section
variable {P : Program} {tys : Tys} {G : Glo} {E : Ent} {N : Nat} {w : World} {V : View} {β : Bnd} {R : List Reg} {fr fr' : Fr} {a : Act} {ops : Array Oper} {md : Region.Mode}
/-- One operation of the region. -/
def qF (P : Program) (tys : Tys) (G : Glo) (N : Nat) (R : List Reg) (ops : Array Oper) (i : Nat) (K : Fr → Prop) (fr : Fr) : Prop :=
  ∀ o, ops[i]? = some o → ∃ x d, o.dst = some d ∧ Nat.blt d N = true ∧ QOp P tys G R ops fr o x ∧ K (upd fr d x)
def anyF (P : Program) (tys : Tys) (G : Glo) (N : Nat) (R : List Reg) (md : Region.Mode) (ops : Array Oper) (K : Fr → Prop) : Nat → Array Bool → Fr → Prop
  | 0, listed, fr => Region.ready md ops listed = [] ∧ K fr
  | fuel + 1, listed, fr => (Region.ready md ops listed = [] → K fr) ∧ ∀ i ∈ Region.ready md ops listed, qF P tys G N R ops i (anyF P tys G N R md ops K fuel (listed.setIfInBounds i true)) fr
theorem qF_mono {i : Nat} {K K' : Fr → Prop} (h : ∀ fr, K fr → K' fr) (hq : qF P tys G N R ops i K fr) : qF P tys G N R ops i K' fr := fun o ho => by
  obtain ⟨x, d, h1, h2, h3, h4⟩ := hq o ho
  exact ⟨x, d, h1, h2, h3, h _ h4⟩
theorem upd_comm {d e : Nat} {x y : AV} (h : d ≠ e) : upd (upd fr d x) e y = upd (upd fr e y) d x := by
  funext t
  simp only [upd_eq]
  by_cases h1 : t = e
  · rw [if_pos h1, if_neg (fun h2 : t = d => h (h2.symm.trans h1)), if_pos h1]
  · by_cases h2 : t = d
    · rw [if_neg h1, if_pos h2, if_pos h2]
    · rw [if_neg h1, if_neg h2, if_neg h2, if_neg h1]
theorem qF_put {i j : Nat} {oi oj : Oper} {x : AV} {d : Nat} (hj : ops[j]? = some oj) (hap : oi.apart ops oj = true) (hd : oi.dst = some d) (hq : QOp P tys G R ops fr oi x) {K : Fr → Prop} (h : qF P tys G N R ops j K (upd fr d x)) :
    qF P tys G N R ops j (fun fr' => QOp P tys G R ops fr' oi x ∧ K (upd fr' d x)) fr := fun o ho => by
  obtain ⟨h1, h2, h3⟩ := Oper.apart_spec hap
  rw [hj] at ho
  obtain rfl := Option.some.inj ho
  obtain ⟨y, e, he, hb, hy, hk⟩ := h oj hj
  have hne : d ≠ e := fun h0 => h2 d hd (h0 ▸ he)
  refine ⟨y, e, he, hb, hy.local_ (fun t ht => ?_), hq.local_ (fun t ht => ?_), ?_⟩
  · rw [upd_eq, if_neg (fun h0 : t = d => h1 d hd (by rw [← h0]; exact ht))]
  · rw [upd_eq, if_neg (fun h0 : t = e => h3 e he (by rw [← h0]; exact ht))]
  · rw [← upd_comm hne]; exact hk
theorem anyF_first {K : Fr → Prop} {i : Nat} {oi : Oper} {x : AV} {d : Nat} (hi : ops[i]? = some oi) (hd : oi.dst = some d) (hdN : Nat.blt d N = true) :
    ∀ (fuel : Nat) (listed : Array Bool) (fr : Fr),
      (∀ j oj, ops[j]? = some oj → j ≠ i → listed.getD j true = false → (∀ e ∈ oj.after, Region.binds md e = true → e.on ≠ i) → oi.apart ops oj = true) →
      i ∈ Region.ready md ops listed → QOp P tys G R ops fr oi x →
      anyF P tys G N R md ops K fuel (listed.setIfInBounds i true) (upd fr d x) → anyF P tys G N R md ops K (fuel + 1) listed fr := by
  have own : ∀ {K' : Fr → Prop} {fr : Fr}, QOp P tys G R ops fr oi x → K' (upd fr d x) → qF P tys G N R ops i K' fr := fun hq hk o ho => by
    rw [hi] at ho
    obtain rfl := Option.some.inj ho
    exact ⟨x, d, hd, hdN, hq, hk⟩
  intro fuel
  induction fuel with
  | zero =>
    intro listed fr _ hr hy H
    refine ⟨fun h => (by rw [h] at hr; cases hr), fun j hj => ?_⟩
    by_cases hji : j = i
    · subst hji; exact own hy H
    · have := ready_mono hj hji
      rw [H.1] at this
      cases this
  | succ fuel ih =>
    intro listed fr hfree hr hy H
    refine ⟨fun h => (by rw [h] at hr; cases hr), fun j hj => ?_⟩
    by_cases hji : j = i
    · subst hji; exact own hy H
    · have h1 := H.2 j (ready_mono hj hji)
      obtain ⟨hjun, oj, hoj, hall⟩ := mem_ready.1 hj
      have hnot : ∀ e ∈ oj.after, Region.binds md e = true → e.on ≠ i := fun e he hb heq => by
        have h1 := hall e he hb
        have h0 := (mem_ready.1 hr).1
        rw [heq] at h1
        rcases Nat.lt_or_ge i listed.size with h' | h'
        · simp [h'] at h0 h1; rw [h0] at h1; cases h1
        · simp [Array.getElem?_eq_none h'] at h1
      have h2 := qF_put (i := i) hoj (hfree j oj hoj hji hjun hnot) hd hy h1
      have hfree' : ∀ k ok, ops[k]? = some ok → k ≠ i → (listed.setIfInBounds j true).getD k true = false →
          (∀ e ∈ ok.after, Region.binds md e = true → e.on ≠ i) → oi.apart ops ok = true := fun k ok hk hki hun hno => by
        refine hfree k ok hk hki ?_ hno
        by_cases hjk : j = k
        · subst hjk; exact hjun
        · rw [getD_set_ne true hjk] at hun; exact hun
      refine qF_mono (fun fr' h3 => ih (listed.setIfInBounds j true) fr' hfree' (ready_mono hr (Ne.symm hji)) h3.1 ?_) h2
      rw [Array.setIfInBounds_comm _ _ hji]
      exact h3.2
/-- The region's operations in the order of the text. -/
inductive DOps (P : Program) (tys : Tys) (G : Glo) (N : Nat) (ops : Array Oper) (K : Kont) : List Oper → Fr → List Reg → Prop
  | nil {fr : Fr} {R : List Reg} (h : K fr R) : DOps P tys G N ops K [] fr R
  | step {o : Oper} {d : Tmp} {rest : List Oper} {fr : Fr} {R : List Reg} {x : AV} (hq : QOp P tys G R ops fr o x) (hdst : o.dst = some d) (hd : Nat.blt d N = true) (h : DOps P tys G N ops K rest (upd fr d x) R) : DOps P tys G N ops K (o :: rest) fr R
theorem anyF_lex {K : Kont} (hs : Region.noSelect ops = true) : ∀ (l : List Oper) (k : Nat) (listed : Array Bool) (fr : Fr), (∀ j, l[j]? = ops[k + j]?) →
    Region.lexFrom md ops l.length k listed = true → DOps P tys G N ops K l fr R → anyF P tys G N R md ops (fun fr => K fr R) l.length listed fr
  | [], _, _, _, _, hB, .nil h => ⟨by simpa [Region.lexFrom] using hB, h⟩
  | o :: l, k, listed, fr, hl, hB, .step hq hdst hd h => by
    have h0 : ops[k]? = some o := by simpa using (hl 0).symm
    simp only [List.length_cons, Region.lexFrom, Bool.and_eq_true] at hB
    obtain ⟨⟨hr, hf⟩, hB'⟩ := hB
    exact anyF_first h0 hdst hd l.length listed fr (Region.free_spec h0 hf) (by simpa using hr) hq
      (anyF_lex hs l (k + 1) _ _ (fun j => by have := hl (j + 1); simpa [Nat.add_assoc, Nat.add_comm 1 j] using this) hB' h)
/-- Such an operation, carried out. -/
theorem QOp.wp_ (hT : TyOK P tys) {o : Oper} {x : AV} {d : Nat} (hq : QOp P tys G R ops fr o x) (hdst : o.dst = some d) (hd : Nat.blt d N = true) (hf : Fits G E N w V β R fr a) {Q : Exit → Act → World → Prop} {K : Act → World → Prop} (hn : ∀ w' V' a', Fits G E N w' V' β R (upd fr d x) a' → K a' w') {i : Nat} (hi : ops[i]? = some o) : wpOp P ops Q i K a w := by
  have hd2 : dstOK N o.dst = true := by rw [hdst]; exact hd
  have hdu : ∀ x, updO fr o.dst x = upd fr d x := fun x => by rw [hdst]; rfl
  have val : ∀ {v : Value}, Region.wanted o (yielded ops a.tmps) = true → (execOp a.eval o).run P w = .ok (.value v) w → Rep w V β R x v → wpOp P ops Q i K a w := fun {v} hw hr hv => by
    unfold wpOp
    rw [hi]
    simp only
    rw [if_pos hw]
    refine .inl ?_
    unfold Oper.wp
    rw [hr]
    have := hf.put hd2 hv
    rw [hdu] at this
    exact hn _ _ _ this
  have cal : ∀ {f : FuncId} {vs : List Value} {args : List AV}, Region.wanted o (yielded ops a.tmps) = true → (execOp a.eval o).run P w = .ok (.enter f vs.toArray) w → CallOK P G f args x → vs.length = args.length → (∀ (i : Nat) (a : AV) (v : Value), args[i]? = some a → vs[i]? = some v → Rep0 V a v) → wpOp P ops Q i K a w := fun {f vs args} hw hr hc hl hv => by
    unfold wpOp
    rw [hi]
    simp only
    rw [if_pos hw]
    refine .inl ?_
    unfold Oper.wp
    rw [hr, Oper.upon_enter]
    refine (hc.run w V vs hf.wld.sub hf.glo hl hv).mono ?_
    rintro e w' ⟨v, V', rfl, hg, hx⟩
    have := (hf.grow hg).put hd2 (.st hx)
    rw [hdu] at this
    exact hn w' V' _ this
  cases hq with
  | off hw =>
    unfold wpOp
    rw [hi]
    simp only
    rw [want_of hf hw, if_neg Bool.false_ne_true]
    have := hf.put hd2 (.st (.imm undef))
    rw [hdu] at this
    exact hn _ _ _ this
  | pure hw hop => obtain ⟨v, hv, hr⟩ := opA_run hT hf o hop; exact val (want_of hf hw) hr hv
  | cmpT hw hop hp =>
    obtain ⟨b, hb, hr⟩ := cmp_run (P := P) hf hop
    obtain rfl : b = true := hb.2 hp
    exact val (want_of hf hw) hr (.st (.imm _))
  | cmpF hw hop hp =>
    obtain ⟨b, hb, hr⟩ := cmp_run (P := P) hf hop
    obtain rfl : b = false := by
      cases b with
      | false => rfl
      | true => exact absurd (hb.1 rfl) hp
    exact val (want_of hf hw) hr (.st (.imm _))
  | val hw hop => obtain ⟨v, hv, hr⟩ := val_run hT hf hop; exact val (want_of hf hw) hr hv
  | idx hw hop hx hi' he h0 h1 => obtain ⟨v, hv, hr⟩ := idx_run hT hf hop hx hi' he h0 h1; exact val (want_of hf hw) hr hv
  | @call f as ts args x hw hop hc ha => exact cal (want_of hf hw) (call_run hop hc.ent) hc (by rw [← ha.len, List.length_map, List.length_map]) (ha.rep (list_rep hf as))
  | @callv f q cs as ts args x hw hop hq hc ha =>
    have hrq := look_rep hf q
    rw [hq] at hrq
    obtain ⟨us, e, hl, hr⟩ := hrq.fn_inv
    refine cal (want_of hf hw) (callv_run hop e hc.ent) hc (by rw [← ha.len, List.length_append, List.length_append, List.length_map, List.length_map, hl]) (ha.rep (w := w) (β := β) (R := R) (fun i x v h1 h2 => ?_))
    by_cases c : i < as.length
    · rw [List.getElem?_append_left (by simpa using c)] at h1 h2
      exact list_rep hf as i x v h1 h2
    · rw [List.getElem?_append_right (by simp; omega)] at h1 h2
      simp only [List.length_map] at h1 h2
      exact hr _ x v h1 h2
theorem any_of_F (hT : TyOK P tys) {K : Fr → Prop} {Q : Exit → Act → World → Prop} (hQ : ∀ w V a fr, Fits G E N w V β R fr a → K fr → Q .normal a w) : ∀ (fuel : Nat) (listed : Array Bool) (fr : Fr) (w : World) (V : View) (a : Act), Fits G E N w V β R fr a →
    anyF P tys G N R md ops K fuel listed fr → wpAny P md ops Q fuel listed a w
  | 0, _, fr, w, V, a, hf, h => ⟨h.1, hQ w V a fr hf h.2⟩
  | fuel + 1, _, fr, w, V, a, hf, h => ⟨fun h0 => hQ w V a fr hf (h.1 h0), fun i hi => by
    obtain ⟨_, o, ho, _⟩ := mem_ready.1 hi
    obtain ⟨x, d, h1, h2, h3, h4⟩ := h.2 i hi o ho
    exact h3.wp_ hT h1 h2 hf (fun w' V' a' hf' => any_of_F hT hQ fuel _ _ w' V' a' hf' h4) ho⟩
variable {K : Kont}
theorem DOps.off {o : Oper} {d : Tmp} {rest : List Oper} (hw : wantA ops fr o = some false) (hdst : o.dst = some d) (hd : Nat.blt d N = true) (h : DOps P tys G N ops K rest (upd fr d (.imm (.tuple ⟨[]⟩))) R) : DOps P tys G N ops K (o :: rest) fr R := .step (.off hw) hdst hd h
theorem DOps.pure {o : Oper} {d : Tmp} {rest : List Oper} {x : AV} (hop : opA tys G fr R o.op = some x) (hw : wantA ops fr o = some true) (hdst : o.dst = some d) (hd : Nat.blt d N = true) (h : DOps P tys G N ops K rest (upd fr d x) R) : DOps P tys G N ops K (o :: rest) fr R := .step (.pure hw hop) hdst hd h
theorem DOps.val {o : Oper} {d : Tmp} {rest : List Oper} {x : AV} (hop : ValA tys G fr o.op x) (hw : wantA ops fr o = some true) (hdst : o.dst = some d) (hd : Nat.blt d N = true) (h : DOps P tys G N ops K rest (upd fr d x) R) : DOps P tys G N ops K (o :: rest) fr R := .step (.val hw hop) hdst hd h
theorem DOps.cmp {o : Oper} {d : Tmp} {rest : List Oper} (p : Prop) (hop : CmpA G fr o.op p) (hw : wantA ops fr o = some true) (hdst : o.dst = some d) (hd : Nat.blt d N = true) (ht : p → DOps P tys G N ops K rest (upd fr d (.imm (.bool true))) R) (hf : ¬ p → DOps P tys G N ops K rest (upd fr d (.imm (.bool false))) R) : DOps P tys G N ops K (o :: rest) fr R :=
  (Classical.em p).elim (fun hp => .step (.cmpT hw hop hp) hdst hd (ht hp)) (fun hp => .step (.cmpF hw hop hp) hdst hd (hf hp))
theorem DOps.idx {o : Oper} {d : Tmp} {rest : List Oper} {t : TypeId} {x i : Operand} {n sz : Nat} {row : Nat → List AV} {k : IntKind} {j : Int} (hop : o.op = .indexAddr t x i) (hx : slV (look G fr x) = some (n, sz + 1, row)) (hi : look G fr i = .imm (.int k j)) (he : elemA tys t = sz + 1) (hw : wantA ops fr o = some true) (hdst : o.dst = some d) (hd : Nat.blt d N = true) (h0 : 0 ≤ j) (h1 : j < (n : Int))
    (h : DOps P tys G N ops K rest (upd fr d (.ptr (row j.toNat))) R) : DOps P tys G N ops K (o :: rest) fr R := .step (.idx hw hop hx hi he h0 h1) hdst hd h
theorem DOps.call {o : Oper} {d : Tmp} {rest : List Oper} {f : FuncId} {as : List Operand} {ts : Array TypeId} {args : List AV} {x : AV} (hop : o.op = .call ⟨.value (.func f), ⟨as⟩, ts⟩) (hc : CallOK P G f args x) (ha : ArgsOK (as.map (look G fr)) args) (hw : wantA ops fr o = some true) (hdst : o.dst = some d) (hd : Nat.blt d N = true) (h : DOps P tys G N ops K rest (upd fr d x) R) : DOps P tys G N ops K (o :: rest) fr R := .step (.call hw hop hc ha) hdst hd h
theorem DOps.callv {o : Oper} {d : Tmp} {rest : List Oper} {f : FuncId} {q : Operand} {cs : List AV} {as : List Operand} {ts : Array TypeId} {args : List AV} {x : AV} (hop : o.op = .call ⟨.value q, ⟨as⟩, ts⟩) (hq : look G fr q = .fn f cs) (hc : CallOK P G f args x) (ha : ArgsOK (as.map (look G fr) ++ cs) args) (hw : wantA ops fr o = some true) (hdst : o.dst = some d) (hd : Nat.blt d N = true) (h : DOps P tys G N ops K rest (upd fr d x) R) : DOps P tys G N ops K (o :: rest) fr R := .step (.callv hw hop hq hc ha) hdst hd h
end
theorem Runs.drawn {c : Cx} {Fn : Fin} {k : List Item} {fr : Fr} {R : List Reg} (hT : TyOK c.P c.tys) (hm : c.P.follows .mixedOrders = true) {id : Nat} {l : List Oper} (hB : Region.lexB .any l.toArray = true) (h : DOps c.P c.tys c.G c.N l.toArray (Runs c Fn k) l fr R) : Runs c Fn (.code (.region id l.toArray true) :: k) fr R := by
  refine .of_wp fun E w V β a hf => wp_region_any hm ?_
  simp only [Region.lexB, Bool.and_eq_true] at hB
  have h1 := anyF_lex (md := .any) hB.1 l 0 (Array.replicate l.toArray.size false) fr (fun j => by simp) (by simpa using hB.2) h
  have h2 := any_of_F (E := E) (β := β) hT (Q := fun e a' w' => e = .normal ∧ ∃ V' β' fr' R', Fits c.G E c.N w' V' β' R' fr' a' ∧ Runs c Fn k fr' R') (fun w' V' a' fr' hf' hk => ⟨rfl, V', β, fr', R, hf', hk⟩) _ _ fr _ V a (hf.drawn (w.drawn + 1)) h1
  simpa using h2
end Go.Proofs.Ytdcabfonjmeajaa.Abs
