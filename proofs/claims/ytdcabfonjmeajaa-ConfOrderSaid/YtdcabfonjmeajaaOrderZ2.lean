/- What this claim rests on, part 2: abstract values, walks of the code over them, what the functions come to; each under its theorem's own conditions. -/
import Derived.Laws.Small
import Derived.Still
import Derived.Test.YtdcabfonjmeajaaOrderZ1
set_option linter.unusedVariables false
set_option linter.unusedSimpArgs false
namespace Go.Proofs.Ytdcabfonjmeajaa.Abs
open Go.RowKit
/-- Is this the type of a text? -/
def strT (tys : Tys) (t : Nat) : Bool := match ty tys t with | some i => i.str | none => false
/-- Is this the type of bools? -/
def bolT (tys : Tys) (t : Nat) : Bool := match ty tys t with | some i => i.bol | none => false
/-- Are two values of one cell alike? -/
def eqA : AV → AV → Prop
  | .imm (.int _ a), .imm (.int _ b) => a = b
  | .imm (.string a), .imm (.string b) => a.toList = b.toList
  | .imm (.bool a), .imm (.bool b) => a = b
  | _, _ => False
def eqP : List AV → List AV → Prop
  | [x], [y] => eqA x y
  | x :: l, y :: r => eqA x y ∧ eqP l r
  | _, _ => True
/-- Are these values of such kinds? -/
def kdL : List Nat → List AV → Bool
  | [], [] => true
  | 0 :: ks, .imm (.int .i64 _) :: l => kdL ks l
  | 1 :: ks, .imm (.string _) :: l => kdL ks l
  | 2 :: ks, .imm (.bool _) :: l => kdL ks l
  | _, _ => false
def eqT (tys : Tys) (t : Nat) : List Nat := match ty tys t with | some i => i.eqk | none => []
/-- What an operation yields that looks at values alone. -/
inductive ValA (tys : Tys) (G : Glo) (fr : Fr) : Op → AV → Prop
  | bin {o : Op} {v : Value} (h : BinA G fr o v) : ValA tys G fr o (.imm v)
  | idxS {t : TypeId} {x i : Operand} {s : ByteArray} {k : IntKind} {j : Int} (ht : strT tys t = true) (hx : look G fr x = .imm (.string s)) (hi : look G fr i = .imm (.int k j)) (h0 : 0 ≤ j) (h1 : j < (s.size : Int)) : ValA tys G fr (.index t x i) (.imm (.int .u8 (Go.Proofs.YtdcabfonjmeajaaW.PrintWords.bt s j)))
  | beqB {t : TypeId} {x y : Operand} {u a b} (ht : bolT tys t = true) (hx : look G fr x = .imm (.bool a)) (hy : look G fr y = .imm (.bool b)) : ValA tys G fr (.binOp .eql t x y u) (.imm (.bool (a == b)))
  | bneB {t : TypeId} {x y : Operand} {u a b} (ht : bolT tys t = true) (hx : look G fr x = .imm (.bool a)) (hy : look G fr y = .imm (.bool b)) : ValA tys G fr (.binOp .neq t x y u) (.imm (.bool (!(a == b))))
  | eqS {t : TypeId} {x y : Operand} {u : TypeId} {k : Nat} {ks : List Nat} {l r : List AV} {b : Bool} (ht : eqT tys t = k :: ks) (hx : look G fr x = .agg l) (hy : look G fr y = .agg r) (hl : kdL (k :: ks) l = true) (hr : kdL (k :: ks) r = true) (hb : b = true ↔ eqP l r) : ValA tys G fr (.binOp .eql t x y u) (.imm (.bool b))
  | neS {t : TypeId} {x y : Operand} {u : TypeId} {k : Nat} {ks : List Nat} {l r : List AV} {b : Bool} (ht : eqT tys t = k :: ks) (hx : look G fr x = .agg l) (hy : look G fr y = .agg r) (hl : kdL (k :: ks) l = true) (hr : kdL (k :: ks) r = true) (hb : b = true ↔ eqP l r) : ValA tys G fr (.binOp .neq t x y u) (.imm (.bool (!b)))
section
variable {P : Program} {tys : Tys} {G : Glo} {E : Ent} {N : Nat} {w : World} {V : View} {β : Bnd} {R : List Reg} {fr : Fr} {a : Act}
theorem strT_of (hT : TyOK P tys) {t : TypeId} (h : strT tys t = true) : P.underlying t = some .string := by
  unfold strT at h
  split at h
  · rename_i i hi; exact ty_str (hT t i hi) h
  · cases h
theorem bolT_of (hT : TyOK P tys) {t : TypeId} (h : bolT tys t = true) : P.underlying t = some .bool := by
  unfold bolT at h
  split at h
  · rename_i i hi; exact ty_bool (hT t i hi) h
  · cases h
theorem kdL_cons {k : Nat} {ks : List Nat} {l : List AV} (h : kdL (k :: ks) l = true) : ∃ v m, l = .imm v :: m ∧ kdL ks m = true ∧ ((k = 0 ∧ ∃ n, v = .int .i64 n) ∨ (k = 1 ∧ ∃ s, v = .string s) ∨ (k = 2 ∧ ∃ b, v = .bool b)) := by
  unfold kdL at h
  split at h
  · contradiction
  · rename_i e; injection e with e1 e2; subst e1; subst e2; exact ⟨_, _, rfl, h, .inl ⟨rfl, _, rfl⟩⟩
  · rename_i e; injection e with e1 e2; subst e1; subst e2; exact ⟨_, _, rfl, h, .inr (.inl ⟨rfl, _, rfl⟩)⟩
  · rename_i e; injection e with e1 e2; subst e1; subst e2; exact ⟨_, _, rfl, h, .inr (.inr ⟨rfl, _, rfl⟩)⟩
  · cases h
theorem kdL_nil {l : List AV} (h : kdL [] l = true) : l = [] := by
  unfold kdL at h
  split at h <;> first | rfl | contradiction
open Go.Proofs.YtdcabfonjmeajaaW.PrintWords in
theorem eqk_run {w : World} (d : Nat) : ∀ (fs : List Field) (ks : List Nat) (l r : List AV) (o : Nat) (xs ys : Array Value) (b : Bool), fs ≠ [] → eqkB P o fs ks = true → kdL ks l = true → kdL ks r = true →
    (∀ i v, l[i]? = some (.imm v) → xs[o + i]? = some v) → (∀ i v, r[i]? = some (.imm v) → ys[o + i]? = some v) → (b = true ↔ eqP l r) → (Op.eqFields (d + 1) xs ys fs).run P w = .ok b w
  | [], _, _, _, _, _, _, _, h, _, _, _, _, _, _ => absurd rfl h
  | f :: fs, [], _, _, _, _, _, _, _, h, _, _, _, _, _ => by simp [eqkB] at h
  | f :: fs, k :: ks, l, r, o, xs, ys, b, _, h, hl, hr, hx, hy, hb => by
    obtain ⟨v, l', rfl, hl', hv⟩ := kdL_cons hl
    obtain ⟨u, r', rfl, hr', hu⟩ := kdL_cons hr
    unfold eqkB at h
    rw [Bool.and_eq_true, Bool.and_eq_true, Bool.and_eq_true] at h
    obtain ⟨⟨⟨hn, ho⟩, hk⟩, ht⟩ := h
    have hn : (f.name == "_") = false := by simpa [bne] using hn
    have ho : f.offset = o := by simpa using ho
    have px : xs[o]? = some v := by simpa using hx 0 v rfl
    have py : ys[o]? = some u := by simpa using hy 0 u rfl
    have tail : fs ≠ [] → ∀ b', (b' = true ↔ eqP l' r') → (Op.eqFields (d + 1) xs ys fs).run P w = .ok b' w := fun hf b' hb' => eqk_run d fs ks l' r' (o + 1) xs ys b' hf ht hl' hr' (fun i z hz => by have := hx (i + 1) z (by simpa using hz); rwa [show o + 1 + i = o + (i + 1) by omega]) (fun i z hz => by have := hy (i + 1) z (by simpa using hz); rwa [show o + 1 + i = o + (i + 1) by omega]) hb'
    have key : ∃ q : Bool, (q = true ↔ eqA (.imm v) (.imm u)) ∧ (part f.type xs f.offset).run P w = .ok v w ∧ (part f.type ys f.offset).run P w = .ok u w ∧ (Op.equalIn (d + 1) f.type v u).run P w = .ok q w := by
      rw [ho]
      split at hk
      · rename_i kd e
        have hk : k = 0 := by simpa using hk
        rcases hv with ⟨_, n, rfl⟩ | ⟨h, _⟩ | ⟨h, _⟩
        · rcases hu with ⟨_, m, rfl⟩ | ⟨h, _⟩ | ⟨h, _⟩
          · exact ⟨n == m, by unfold eqA; simp, by simp [part, isAgg, run_underlying e, px], by simp [part, isAgg, run_underlying e, py], run_equalIn_int w d _ _ _ n m e⟩
          · omega
          · omega
        · omega
        · omega
      · rename_i e
        have hk : k = 1 := by simpa using hk
        rcases hv with ⟨h, _⟩ | ⟨_, n, rfl⟩ | ⟨h, _⟩
        · omega
        · rcases hu with ⟨h, _⟩ | ⟨_, m, rfl⟩ | ⟨h, _⟩
          · omega
          · exact ⟨n.toList == m.toList, by unfold eqA; simp, by simp [part, isAgg, run_underlying e, px], by simp [part, isAgg, run_underlying e, py], run_equalIn_string w d _ n m e⟩
          · omega
        · omega
      · rename_i e
        have hk : k = 2 := by simpa using hk
        rcases hv with ⟨h, _⟩ | ⟨h, _⟩ | ⟨_, n, rfl⟩
        · omega
        · omega
        · rcases hu with ⟨h, _⟩ | ⟨h, _⟩ | ⟨_, m, rfl⟩
          · omega
          · omega
          · exact ⟨n == m, by unfold eqA; simp, by simp [part, isAgg, run_underlying e, px], by simp [part, isAgg, run_underlying e, py], run_equalIn_bool w d _ n m e⟩
      · cases hk
    obtain ⟨q, q1, q2, q3, q4⟩ := key
    cases fs with
    | nil =>
      have hks : ks = [] := by
        cases ks with
        | nil => rfl
        | cons k2 ks => simp [eqkB] at ht
      subst hks
      obtain rfl := kdL_nil hl'
      obtain rfl := kdL_nil hr'
      have : q = b := by
        rw [Bool.eq_iff_iff, q1, hb]
        rfl
      subst this
      exact eqf_last hn q2 q3 q4
    | cons f2 fs =>
      cases ks with
      | nil => simp [eqkB] at ht
      | cons k2 ks =>
        obtain ⟨v2, l2, rfl, _, _⟩ := kdL_cons hl'
        obtain ⟨u2, r2, rfl, _, _⟩ := kdL_cons hr'
        have hP : ∃ b', b' = true ↔ eqP (.imm v2 :: l2) (.imm u2 :: r2) := by
          by_cases c : eqP (.imm v2 :: l2) (.imm u2 :: r2)
          · exact ⟨true, by simp [c]⟩
          · exact ⟨false, by simp [c]⟩
        obtain ⟨b', hb'⟩ := hP
        have e : (q && b') = b := by
          rw [Bool.eq_iff_iff, Bool.and_eq_true, q1, hb', hb]
          exact Iff.rfl
        rw [← e]
        exact eqf_cons hn q2 q3 q4 (tail (by simp) b' hb')
theorem eqS_run (hT : TyOK P tys) (hf : Fits G E N w V β R fr a) {t : TypeId} {x y : Operand} {k : Nat} {ks : List Nat} {l r : List AV} {b : Bool} (ht : eqT tys t = k :: ks) (hx : look G fr x = .agg l) (hy : look G fr y = .agg r) (hl : kdL (k :: ks) l = true) (hr : kdL (k :: ks) r = true) (hb : b = true ↔ eqP l r) :
    ∃ xs ys, a.eval x = .agg xs ∧ a.eval y = .agg ys ∧ P.eqGuardType P.depth t = false ∧ (Op.equalIn 10000 t (.agg xs) (.agg ys)).run P w = .ok b w := by
  unfold eqT at ht
  split at ht
  · rename_i i hi
    have he := ty_eqk (hT t i hi)
    rw [ht] at he
    unfold eqB at he
    rw [Bool.and_eq_true, Bool.and_eq_true] at he
    obtain ⟨⟨h1, h2⟩, h3⟩ := he
    split at h3
    · rename_i fs hu
      have hrx := look_rep hf x; rw [hx] at hrx
      have hry := look_rep hf y; rw [hy] at hry
      obtain ⟨xs, e1, p1, _, p2⟩ := hrx.agg_inv
      obtain ⟨ys, e2, q1, _, q2⟩ := hry.agg_inv
      have cell : ∀ {vs : List Value} {l : List AV}, vs.length = l.length → (∀ (i : Nat) (a : AV) (v : Value), l[i]? = some a → vs[i]? = some v → Rep w V β R a v) → ∀ i v, l[i]? = some (.imm v) → vs.toArray[0 + i]? = some v := fun {vs l} hl h i v hi => by
        have hlt : i < vs.length := by rw [hl]; exact (List.getElem?_eq_some_iff.1 hi).1
        have := (h i _ _ hi (List.getElem?_eq_getElem hlt)).imm_inv
        rw [Nat.zero_add, List.getElem?_toArray, List.getElem?_eq_getElem hlt, this]
      refine ⟨xs.toArray, ys.toArray, e1, e2, by simpa using h2, ?_⟩
      have hne : fs.toList ≠ [] := fun e => by rw [e] at h3; cases h3
      exact Go.Proofs.YtdcabfonjmeajaaW.PrintWords.eqA_of hu (by simpa using h1) (eqk_run 9998 fs.toList (k :: ks) l r 0 xs.toArray ys.toArray b hne h3 hl hr (cell p1 p2) (cell q1 q2) hb)
    · cases h3
  · cases ht
theorem val_run (hT : TyOK P tys) (h : Fits G E N w V β R fr a) {o : Oper} {x : AV} (hop : ValA tys G fr o.op x) : ∃ v, Rep w V β R x v ∧ (execOp a.eval o).run P w = .ok (.value v) w := by
  generalize hq : o.op = op at hop
  cases hop with
  | bin hb => exact ⟨_, .st (.imm _), bin_run h (hq ▸ hb)⟩
  | @idxS t y i s k j ht hx hi h0 h1 =>
    have h2 := look_rep h y; rw [hx] at h2
    have h3 := look_rep h i; rw [hi] at h3
    have hu := strT_of hT ht
    refine ⟨_, .st (.imm _), ?_⟩
    have hlt : j.toNat < s.size := by omega
    have e : s[j.toNat]? = some (s[j.toNat]'hlt) := getElem?_pos s j.toNat hlt
    simp [execOp, hq, h2.imm_inv, h3.imm_inv, Instr.index, asIntOf, run_underlying hu, h0, e, Go.Proofs.YtdcabfonjmeajaaW.PrintWords.bt, hlt]
  | @beqB t x y u c d ht hx hy =>
    have h1 := look_rep h x; rw [hx] at h1
    have h2 := look_rep h y; rw [hy] at h2
    refine ⟨_, .st (.imm _), ?_⟩
    simp [execOp, hq, h1.imm_inv, h2.imm_inv, eqGuard, binOp, run_equal_bool w t c d (bolT_of hT ht)]
  | @bneB t x y u c d ht hx hy =>
    have h1 := look_rep h x; rw [hx] at h1
    have h2 := look_rep h y; rw [hy] at h2
    refine ⟨_, .st (.imm _), ?_⟩
    simp [execOp, hq, h1.imm_inv, h2.imm_inv, eqGuard, binOp, run_equal_bool w t c d (bolT_of hT ht)]
  | @eqS t x y u k ks l r b ht hx hy hl hr hb =>
    obtain ⟨xs, ys, e1, e2, e3, e4⟩ := eqS_run hT h ht hx hy hl hr hb
    refine ⟨_, .st (.imm _), ?_⟩
    simp [execOp, hq, e1, e2, run_eqGuard_agg w _ _ _ _ _ _ e3, run_eql_struct, e4]
  | @neS t x y u k ks l r b ht hx hy hl hr hb =>
    obtain ⟨xs, ys, e1, e2, e3, e4⟩ := eqS_run hT h ht hx hy hl hr hb
    refine ⟨_, .st (.imm _), ?_⟩
    simp [execOp, hq, e1, e2, run_eqGuard_agg w _ _ _ _ _ _ e3, run_neq_struct, e4]
end
end Go.Proofs.Ytdcabfonjmeajaa.Abs
set_option linter.unusedVariables false
set_option linter.unusedSimpArgs false
namespace Go.Proofs.Ytdcabfonjmeajaa.Abs
open Go.RowKit
/-- A value, its regions by other numbers. -/
def renA (s : Nat → Nat) : AV → AV
  | .loc i j k => .loc (s i) j k
  | .own i n sz row => .own (s i) n sz row
  | .msl i => .msl (s i)
  | .agg l => .agg (renL l)
  | .tup l => .tup (renL l)
  | .fn f l => .fn f (renL l)
  | .any => .any
  | .imm v => .imm v
  | .ptr l => .ptr l
  | .sl n sz row => .sl n sz row
  where renL : List AV → List AV
  | [] => []
  | a :: l => renA s a :: renL l
theorem renL_map (s : Nat → Nat) : ∀ l : List AV, renA.renL s l = l.map (renA s)
  | [] => rfl
  | a :: l => by rw [renA.renL, renL_map s l]; rfl
def renR (s : Nat → Nat) : Reg → Reg
  | .mat n sz row => .mat n sz (fun j => renA.renL s (row j))
  | .arr e sz n => .arr e sz n
  | .dead => .dead
/-- Do all regions of a value lie below a number? -/
def bdA (m : Nat) : AV → Bool
  | .loc i _ _ => Nat.blt i m
  | .own i _ _ _ => Nat.blt i m
  | .msl i => Nat.blt i m
  | .agg l => bdL l
  | .tup l => bdL l
  | .fn _ l => bdL l
  | _ => true
  where bdL : List AV → Bool
  | [] => true
  | a :: l => bdA m a && bdL l
theorem bdL_get {m : Nat} : ∀ {l : List AV}, bdA.bdL m l = true → ∀ (i : Nat) (a : AV), l[i]? = some a → bdA m a = true
  | a :: l, h, 0, b, e => by simp at e; subst e; unfold bdA.bdL at h; exact (Bool.and_eq_true _ _ ▸ h).1
  | a :: l, h, i + 1, b, e => by unfold bdA.bdL at h; exact bdL_get (Bool.and_eq_true _ _ ▸ h).2 i b (by simpa using e)
theorem renL_get {s : Nat → Nat} {l : List AV} {i : Nat} {a : AV} (h : l[i]? = some a) : (renA.renL s l)[i]? = some (renA s a) := by rw [renL_map, List.getElem?_map, h]; rfl
theorem renL_len (s : Nat → Nat) (l : List AV) : (renA.renL s l).length = l.length := by rw [renL_map, List.length_map]
theorem renA_st {s : Nat → Nat} {V : View} {b : AV} {v : Value} (h : Rep0 V b v) : ∀ a, renA s a = b → Rep0 V a v := by
  induction h with
  | any v => intro a e; cases a <;> first | exact .any v | (unfold renA at e; cases e)
  | imm v => intro a e; cases a <;> first | (unfold renA at e; cases e; done) | (unfold renA at e; injection e with e; subst e; exact .imm _)
  | agg l vs hl h1 h ih =>
    intro a e
    cases a with
    | agg l' =>
      unfold renA at e; injection e with e; subst e
      exact .agg l' vs (by rw [hl, renL_len]) h1 (fun i x v p q => ih i _ v (renL_get p) q x rfl)
    | _ => unfold renA at e; cases e
  | tup l vs hl h ih =>
    intro a e
    cases a with
    | tup l' =>
      unfold renA at e; injection e with e; subst e
      exact .tup l' vs (by rw [hl, renL_len]) (fun i x v p q => ih i _ v (renL_get p) q x rfl)
    | _ => unfold renA at e; cases e
  | ptr l ad vs hl h1 hc h ih =>
    intro a e
    cases a with
    | ptr l' => unfold renA at e; injection e with e; subst e; exact .ptr _ ad vs hl h1 hc h
    | _ => unfold renA at e; cases e
  | sl n sz row A c ad vs hn hA hl h1 hc h ih =>
    intro a e
    cases a with
    | sl n' sz' row' => unfold renA at e; injection e with e1 e2 e3; subst e1; subst e2; subst e3; exact .sl _ _ _ A c ad vs hn hA hl h1 hc h
    | _ => unfold renA at e; cases e
  | fn f l vs hl h ih =>
    intro a e
    cases a with
    | fn f' l' =>
      unfold renA at e; injection e with e0 e; subst e; subst e0
      exact .fn _ l' vs (by rw [hl, renL_len]) (fun i x v p q => ih i _ v (renL_get p) q x rfl)
    | _ => unfold renA at e; cases e
section
variable {w : World} {V : View} {β βd : Bnd} {R Rc : List Reg} {s : Nat → Nat}
/-- Towards a call: what its caller knows, by the call's own numbers. -/
theorem Rep.down (hR : ∀ i r, R[i]? = some r → Rc[s i]? = some (renR s r) ∧ βd i = β (s i)) {b : AV} {v : Value} (h : Rep w V β Rc b v) : ∀ a, renA s a = b → bdA R.length a = true → Rep w V βd R a v := by
  induction h with
  | st h => intro a e _; exact .st (renA_st h a e)
  | agg l vs hl h1 h ih =>
    intro a e hb
    cases a with
    | agg l' =>
      unfold renA at e; injection e with e; subst e
      exact .agg l' vs (by rw [hl, renL_len]) h1 (fun i x v p q => ih i _ v (renL_get p) q x rfl (bdL_get hb i x p))
    | _ => unfold renA at e; cases e
  | tup l vs hl h ih =>
    intro a e hb
    cases a with
    | tup l' =>
      unfold renA at e; injection e with e; subst e
      exact .tup l' vs (by rw [hl, renL_len]) (fun i x v p q => ih i _ v (renL_get p) q x rfl (bdL_get hb i x p))
    | _ => unfold renA at e; cases e
  | fn f l vs hl h ih =>
    intro a e hb
    cases a with
    | fn f' l' =>
      unfold renA at e; injection e with e0 e; subst e; subst e0
      exact .fn _ l' vs (by rw [hl, renL_len]) (fun i x v p q => ih i _ v (renL_get p) q x rfl (bdL_get hb i x p))
    | _ => unfold renA at e; cases e
  | loc i j k v hi hp h =>
    intro a e hb
    cases a with
    | loc i' j' k' =>
      unfold renA at e; injection e with e1 e2 e3; subst e1; subst e2; subst e3
      refine .loc _ _ _ v (by simpa [bdA, Nat.blt_eq] using hb) hp (fun n sz row hr => ?_)
      obtain ⟨p, q⟩ := hR _ _ hr
      rw [q]
      exact h n sz _ p
    | _ => unfold renA at e; cases e
  | own i n sz row v hi h0 h =>
    intro a e hb
    cases a with
    | own i' n' sz' row' =>
      unfold renA at e; injection e with e1 e2 e3 e4; subst e1; subst e2; subst e3; subst e4
      refine .own _ _ _ _ v (by simpa [bdA, Nat.blt_eq] using hb) h0 (fun e sz2 n2 hr => ?_)
      obtain ⟨p, q⟩ := hR _ _ hr
      rw [q]
      exact h e sz2 n2 p
    | _ => unfold renA at e; cases e
  | msl i v hi hp h =>
    intro a e hb
    cases a with
    | msl i' =>
      unfold renA at e; injection e with e1; subst e1
      refine .msl _ v (by simpa [bdA, Nat.blt_eq] using hb) hp (fun n sz row hr => ?_)
      obtain ⟨p, q⟩ := hR _ _ hr
      rw [q]
      exact h n sz _ p
    | _ => unfold renA at e; cases e
/-- Behind a call: what it answers, by its caller's numbers. -/
theorem Rep.up (hR : ∀ i, i < R.length → s i < Rc.length ∧ (∀ e sz n, Rc[s i]? = some (.arr e sz n) → R[i]? = some (.arr e sz n)) ∧ (∀ n sz row, Rc[s i]? = some (.mat n sz row) → ∃ row0, R[i]? = some (.mat n sz row0)) ∧ (Reg.live R i → β (s i) = βd i)) {a : AV} {v : Value} (h : Rep w V βd R a v) : Rep w V β Rc (renA s a) v := by
  induction h with
  | st h =>
    refine .st ?_
    induction h with
    | any v => exact .any v
    | imm v => exact .imm v
    | agg l vs hl h1 h ih => exact .agg _ vs (by rw [hl, renL_len]) h1 (fun i x v p q => by
        rw [renL_map, List.getElem?_map] at p
        obtain ⟨y, hy, rfl⟩ := Option.map_eq_some_iff.1 p
        exact ih i y v hy q)
    | tup l vs hl h ih => exact .tup _ vs (by rw [hl, renL_len]) (fun i x v p q => by
        rw [renL_map, List.getElem?_map] at p
        obtain ⟨y, hy, rfl⟩ := Option.map_eq_some_iff.1 p
        exact ih i y v hy q)
    | ptr l ad vs hl h1 hc h ih => exact .ptr l ad vs hl h1 hc h
    | sl n sz row A c ad vs hn hA hl h1 hc h ih => exact .sl n sz row A c ad vs hn hA hl h1 hc h
    | fn f l vs hl h ih => exact .fn f _ vs (by rw [hl, renL_len]) (fun i x v p q => by
        rw [renL_map, List.getElem?_map] at p
        obtain ⟨y, hy, rfl⟩ := Option.map_eq_some_iff.1 p
        exact ih i y v hy q)
  | agg l vs hl h1 h ih => exact .agg _ vs (by rw [hl, renL_len]) h1 (fun i x v p q => by
      rw [renL_map, List.getElem?_map] at p
      obtain ⟨y, hy, rfl⟩ := Option.map_eq_some_iff.1 p
      exact ih i y v hy q)
  | tup l vs hl h ih => exact .tup _ vs (by rw [hl, renL_len]) (fun i x v p q => by
      rw [renL_map, List.getElem?_map] at p
      obtain ⟨y, hy, rfl⟩ := Option.map_eq_some_iff.1 p
      exact ih i y v hy q)
  | fn f l vs hl h ih => exact .fn f _ vs (by rw [hl, renL_len]) (fun i x v p q => by
      rw [renL_map, List.getElem?_map] at p
      obtain ⟨y, hy, rfl⟩ := Option.map_eq_some_iff.1 p
      exact ih i y v hy q)
  | loc i j k v hi hp h =>
    obtain ⟨h1, h2, h3, h4⟩ := hR i hi
    refine .loc _ _ _ v h1 hp (fun n sz row hr => ?_)
    obtain ⟨row0, hr0⟩ := h3 n sz row hr
    rw [h4 (.inr ⟨n, sz, row0, hr0⟩)]
    exact h n sz row0 hr0
  | own i n sz row v hi h0 h =>
    obtain ⟨h1, h2, h3, h4⟩ := hR i hi
    refine .own _ _ _ _ v h1 h0 (fun e sz2 n2 hr => ?_)
    have hr0 := h2 e sz2 n2 hr
    rw [h4 (.inl ⟨e, sz2, n2, hr0⟩)]
    exact h e sz2 n2 hr0
  | msl i v hi hp h =>
    obtain ⟨h1, h2, h3, h4⟩ := hR i hi
    refine .msl _ v h1 hp (fun n sz row hr => ?_)
    obtain ⟨row0, hr0⟩ := h3 n sz row hr
    rw [h4 (.inr ⟨n, sz, row0, hr0⟩)]
    exact h n sz row0 hr0
end
/-- The blocks of regions. -/
def bdd (β : Bnd) (R : List Reg) (b : Nat) : Prop := ∃ i, Reg.live R i ∧ β i = some b
/-- What becomes of the regions that a call was given: each keeps its form, or is gone. -/
inductive SameR : List Reg → List Reg → Prop
  | nil {l : List Reg} : SameR [] l
  | dead {r : Reg} {l l' : List Reg} (t : SameR l l') : SameR (r :: l) (.dead :: l')
  | mat {n sz : Nat} {row row' : Nat → List AV} {l l' : List Reg} (t : SameR l l') : SameR (.mat n sz row :: l) (.mat n sz row' :: l')
theorem SameR.len : ∀ {l l' : List Reg}, SameR l l' → l.length ≤ l'.length
  | _, _, .nil => Nat.zero_le _
  | _, _, .dead t => by have := t.len; simp; omega
  | _, _, .mat t => by have := t.len; simp; omega
theorem SameR.get : ∀ {l l' : List Reg}, SameR l l' → ∀ i, i < l.length → ∀ r, l'[i]? = some r → r = .dead ∨ ∃ n sz row row', r = .mat n sz row' ∧ l[i]? = some (.mat n sz row)
  | _, _, .nil, i, h, _, _ => by simp at h
  | _, _, .dead t, 0, _, r, e => by simp at e; exact .inl e.symm
  | _, _, .mat t, 0, _, r, e => by simp at e; exact .inr ⟨_, _, _, _, e.symm, rfl⟩
  | _, _, .dead t, i + 1, h, r, e => by simpa using t.get i (by simpa using h) r (by simpa using e)
  | _, _, .mat t, i + 1, h, r, e => by simpa using t.get i (by simpa using h) r (by simpa using e)
/-- A call's answer, wherever it is made, that is handed regions and hands regions back: nothing else that was there turns. -/
structure CallM (P : Program) (G : Glo) (f : FuncId) (args : List AV) (R : List Reg) (x : AV) (R' : List Reg) : Prop where
  ent : ∃ fn, P.funcs[f]? = some fn ∧ (fn.name == "runtime.NumGoroutine") = false ∧ fn.body.isSome = true
  same : SameR R R'
  bd : ∀ r ∈ R, ∀ n sz row, r = .mat n sz row → ∀ j, j < n → bdA.bdL R.length (row j) = true
  run : ∀ (w : World) (V : View) (β : Bnd) (vs : List Value), (∀ ad v, V ad = some v → w.cell? ad = some v) → GloOK G V → RegsOK (fun _ => True) w V β R → vs.length = args.length → (∀ (i : Nat) (a : AV) (v : Value), args[i]? = some a → vs[i]? = some v → Rep w V β R a v) →
    Calls P f vs.toArray w (fun e w' => ∃ v V' β', e = .returned v ∧ BelX (bdd β R) w w' ∧ VLe V V' ∧ (∀ ad v, V' ad = some v → w'.cell? ad = some v) ∧ (∀ ad v, V' ad = some v → V ad = some v ∨ bdd β R ad.block ∨ w.heap.size ≤ ad.block) ∧
      (∀ i, i < R.length → Reg.live R' i → β' i = β i) ∧ RegsOK (fun b => bdd β R b ∨ w.heap.size ≤ b) w' V' β' R' ∧ Rep w' V' β' R' x v)
/-- By which number of the caller's a region of the call goes. -/
def sigma (sl : List Nat) (base : Nat) (i : Nat) : Nat := match sl[i]? with
  | some k => k
  | none => base + (i - sl.length)
/-- The caller's regions behind the call. -/
def putR (s : Nat → Nat) : Nat → List Nat → List Reg → List Reg → List Reg
  | _, _, [], Rc => Rc
  | i, k :: sl, r :: R, Rc => putR s (i + 1) sl R (Rc.set k (renR s r))
  | i, [], r :: R, Rc => putR s (i + 1) [] R (Rc ++ [renR s r])
theorem putR_nil (s : Nat → Nat) : ∀ (R Rc : List Reg) (i : Nat), putR s i [] R Rc = Rc ++ R.map (renR s)
  | [], Rc, i => by simp [putR]
  | r :: R, Rc, i => by rw [putR, putR_nil s R, List.map_cons, List.append_assoc]; rfl
theorem putR_len (s : Nat → Nat) : ∀ (sl : List Nat) (R Rc : List Reg) (i : Nat), sl.length ≤ R.length → (putR s i sl R Rc).length = Rc.length + (R.length - sl.length)
  | [], R, Rc, i, _ => by rw [putR_nil]; simp
  | k :: sl, [], Rc, i, h => by simp at h
  | k :: sl, r :: R, Rc, i, h => by
    rw [putR, putR_len s sl R _ (i + 1) (by simpa using h), List.length_set]
    simp
/-- Behind the call each number tells a region of the caller's that was not handed on, or one of the call's. -/
theorem putR_get (s : Nat → Nat) : ∀ (sl : List Nat) (R Rc : List Reg) (i : Nat), sl.length ≤ R.length → (∀ k ∈ sl, k < Rc.length) → sl.Nodup → ∀ q r, (putR s i sl R Rc)[q]? = some r →
    (q < Rc.length ∧ q ∉ sl ∧ Rc[q]? = some r) ∨ (∃ j r0, j < sl.length ∧ sl[j]? = some q ∧ R[j]? = some r0 ∧ r = renR s r0) ∨ (∃ j r0, sl.length ≤ j ∧ q = Rc.length + (j - sl.length) ∧ R[j]? = some r0 ∧ r = renR s r0)
  | [], R, Rc, i, _, _, _, q, r, h => by
    rw [putR_nil] at h
    by_cases c : q < Rc.length
    · rw [List.getElem?_append_left c] at h
      exact .inl ⟨c, by simp, h⟩
    · rw [List.getElem?_append_right (by omega), List.getElem?_map] at h
      obtain ⟨r0, h1, h2⟩ := Option.map_eq_some_iff.1 h
      exact .inr (.inr ⟨q - Rc.length, r0, by simp, by simp; omega, h1, h2.symm⟩)
  | k :: sl, [], Rc, i, h, _, _, _, _, _ => by simp at h
  | k :: sl, r0 :: R, Rc, i, h, hb, hn, q, r, hq => by
    rw [putR] at hq
    rw [List.nodup_cons] at hn
    have hk := hb k List.mem_cons_self
    rcases putR_get s sl R (Rc.set k (renR s r0)) (i + 1) (by simpa using h) (fun x hx => by rw [List.length_set]; exact hb x (List.mem_cons_of_mem _ hx)) hn.2 q r hq with ⟨p1, p2, p3⟩ | ⟨j, r1, p1, p2, p3, p4⟩ | ⟨j, r1, p1, p2, p3, p4⟩
    · rw [List.length_set] at p1
      by_cases c : k = q
      · subst c
        rw [List.getElem?_set_self p1] at p3
        injection p3 with p3
        exact .inr (.inl ⟨0, r0, by simp, rfl, rfl, p3.symm⟩)
      · rw [List.getElem?_set_ne c] at p3
        exact .inl ⟨p1, by rw [List.mem_cons]; rintro (e | e); exact c e.symm; exact p2 e, p3⟩
    · exact .inr (.inl ⟨j + 1, r1, by simp; omega, by simpa using p2, by simpa using p3, p4⟩)
    · rw [List.length_set] at p2
      exact .inr (.inr ⟨j + 1, r1, by simp; omega, by simp; omega, by simpa using p3, p4⟩)
section
variable {P : Program} {G : Glo} {E : Ent} {N : Nat} {w : World} {V : View} {β : Bnd} {Rc Rn R R' : List Reg} {fr : Fr} {a : Act} {f : FuncId} {args : List AV} {x : AV} {sl : List Nat}
/-- The blocks of the regions that are handed on. -/
def dnB (β : Bnd) (sl : List Nat) (base m : Nat) : Bnd := fun i => if i < m then β (sigma sl base i) else none
theorem dnB_lt {base m i : Nat} (h : i < m) : dnB β sl base m i = β (sigma sl base i) := if_pos h
/-- What a call needs of its caller: which regions are handed on. -/
structure Hands (sl : List Nat) (Rc R : List Reg) : Prop where
  len : sl.length = R.length
  lt : ∀ k ∈ sl, k < Rc.length
  nd : sl.Nodup
  get : ∀ (i k : Nat), sl[i]? = some k → ∃ r, R[i]? = some r ∧ Rc[k]? = some (renR (sigma sl Rc.length) r)
theorem sigma_lt {i : Nat} {base : Nat} (h : i < sl.length) : sl[i]? = some (sigma sl base i) := by
  unfold sigma
  rw [List.getElem?_eq_getElem h]
theorem sigma_ge {i : Nat} {base : Nat} (h : sl.length ≤ i) : sigma sl base i = base + (i - sl.length) := by
  unfold sigma
  rw [List.getElem?_eq_none h]
theorem live_ren {s : Nat → Nat} {r : Reg} {R Rc : List Reg} {i k : Nat} (h : R[i]? = some r) (hk : Rc[k]? = some (renR s r)) : Reg.live R i ↔ Reg.live Rc k := by
  cases r with
  | dead =>
    constructor
    · rintro (⟨e, sz, n, p⟩ | ⟨n, sz, row, p⟩) <;> (rw [h] at p; cases p)
    · rintro (⟨e, sz, n, p⟩ | ⟨n, sz, row, p⟩) <;> (rw [hk] at p; cases p)
  | arr e sz n => exact ⟨fun _ => .inl ⟨e, sz, n, hk⟩, fun _ => .inl ⟨e, sz, n, h⟩⟩
  | mat n sz row => exact ⟨fun _ => .inr ⟨n, sz, _, hk⟩, fun _ => .inr ⟨n, sz, row, h⟩⟩
theorem Hands.at_ (hh : Hands sl Rc R) {i : Nat} {r : Reg} (h : R[i]? = some r) : Rc[sigma sl Rc.length i]? = some (renR (sigma sl Rc.length) r) := by
  have hi : i < sl.length := by rw [hh.len]; exact (List.getElem?_eq_some_iff.1 h).1
  obtain ⟨r', h1, h2⟩ := hh.get i _ (sigma_lt (base := Rc.length) hi)
  rw [h] at h1; injection h1 with h1; subst h1
  exact h2
/-- The call's own view of its regions. -/
theorem Hands.down (hh : Hands sl Rc R) (h : RegsOK E.bd w V β Rc) (hbd : ∀ r ∈ R, ∀ n sz row, r = .mat n sz row → ∀ j, j < n → bdA.bdL R.length (row j) = true) : RegsOK (fun _ => True) w V (dnB β sl Rc.length R.length) R := by
  have hβ : ∀ i, i < R.length → (dnB β sl Rc.length R.length) i = β (sigma sl Rc.length i) := fun i hi => dnB_lt hi
  have hR : ∀ i r, R[i]? = some r → Rc[sigma sl Rc.length i]? = some (renR (sigma sl Rc.length) r) ∧ (dnB β sl Rc.length R.length) i = β (sigma sl Rc.length i) := fun i r hr => ⟨hh.at_ hr, hβ i (List.getElem?_eq_some_iff.1 hr).1⟩
  refine ⟨fun i j b hi hj hbi hbj => ?_, fun i e sz n hr b hb => ?_, fun i n sz row hr => ?_⟩
  · have li : i < R.length := live_lt hi
    have lj : j < R.length := live_lt hj
    rw [hβ i li] at hbi
    rw [hβ j lj] at hbj
    have e := h.dis _ _ b ((live_ren (List.getElem?_eq_getElem li) (hh.at_ (List.getElem?_eq_getElem li))).1 hi) ((live_ren (List.getElem?_eq_getElem lj) (hh.at_ (List.getElem?_eq_getElem lj))).1 hj) hbi hbj
    have h1 := sigma_lt (sl := sl) (base := Rc.length) (show i < sl.length by rw [hh.len]; exact li)
    have h2 := sigma_lt (sl := sl) (base := Rc.length) (show j < sl.length by rw [hh.len]; exact lj)
    rw [e] at h1
    exact (List.getElem?_inj (by rw [hh.len]; exact li) hh.nd).1 (h1.trans h2.symm)
  · obtain ⟨p, q⟩ := hR i _ hr
    rw [q] at hb
    obtain ⟨h1, h2, h3⟩ := h.arr _ e sz n p b hb
    exact ⟨trivial, h2, h3⟩
  · obtain ⟨p, q⟩ := hR i _ hr
    obtain ⟨b, vs, e, h1, h2, h3, h4, h5, h6⟩ := h.mat _ n sz _ p
    refine ⟨b, vs, e, q.trans h1, trivial, h3, h4, h5, fun j hj => ?_⟩
    obtain ⟨g1, g2⟩ := h6 j hj
    rw [renL_len] at g1
    refine ⟨g1, fun k y hk => ?_⟩
    obtain ⟨v, v1, v2, v3⟩ := g2 k _ (renL_get hk)
    exact ⟨v, v1, v2, v3.down hR y rfl (bdL_get (hbd _ (List.mem_of_getElem? hr) n sz row rfl j hj) k y hk)⟩
/-- Behind the call all fits as ahead of it, with the call's regions in their places. -/
theorem Fits.callM (h : Fits G E N w V β Rc fr a) (hh : Hands sl Rc R) (hs : SameR R R') {w' : World} {V' : View} {β' : Bnd} {v : Value}
    (hbel : BelX (bdd (dnB β sl Rc.length R.length) R) w w') (hV : VLe V V') (hsub : ∀ ad v, V' ad = some v → w'.cell? ad = some v) (hnew : ∀ ad v, V' ad = some v → V ad = some v ∨ bdd (dnB β sl Rc.length R.length) R ad.block ∨ w.heap.size ≤ ad.block)
    (hid : ∀ i, i < R.length → Reg.live R' i → β' i = (dnB β sl Rc.length R.length) i) (hreg : RegsOK (fun b => bdd (dnB β sl Rc.length R.length) R b ∨ w.heap.size ≤ b) w' V' β' R') (hx : Rep w' V' β' R' x v)
    (hRn : putR (sigma sl Rc.length) 0 sl R' Rc = Rn) : ∃ βn, Fits G E N w' V' βn Rn fr a ∧ Rep w' V' βn Rn (renA (sigma sl Rc.length) x) v := by
  subst hRn
  have hle : sl.length ≤ R'.length := by rw [hh.len]; exact hs.len
  -- the blocks that were handed on are the caller's own
  have own : ∀ b, bdd (dnB β sl Rc.length R.length) R b → ∃ k ∈ sl, Reg.live Rc k ∧ β k = some b := fun b ⟨i, hi, hb⟩ => by
    have li := live_lt hi
    rw [dnB_lt li] at hb
    exact ⟨_, List.mem_of_getElem? (sigma_lt (sl := sl) (base := Rc.length) (by rw [hh.len]; exact li)), (live_ren (List.getElem?_eq_getElem li) (hh.at_ (List.getElem?_eq_getElem li))).1 hi, hb⟩
  have bdE : ∀ k b, Reg.live Rc k → β k = some b → E.bd b ∧ b < w.heap.size := fun k b hk hb => by
    rcases hk with ⟨e, sz, n, hk⟩ | ⟨n, sz, row, hk⟩
    · obtain ⟨h1, h2, _⟩ := h.reg.arr k e sz n hk b hb; exact ⟨h1, h2⟩
    · obtain ⟨b', vs, e, h1, h2, h3, _⟩ := h.reg.mat k n sz row hk
      rw [hb] at h1; injection h1 with h1; subst h1
      exact ⟨h2, blk_lt h3⟩
  have far : ∀ k b, Reg.live Rc k → k ∉ sl → β k = some b → ¬ (bdd (dnB β sl Rc.length R.length) R b ∨ w.heap.size ≤ b) := fun k b hk hks hb hc => by
    rcases hc with hc | hc
    · obtain ⟨k', m1, m2, m3⟩ := own b hc
      exact hks (h.reg.dis k k' b hk m2 hb m3 ▸ m1)
    · have := (bdE k b hk hb).2; omega
  have farV : ∀ k b, Reg.live Rc k → k ∉ sl → β k = some b → ∀ ad : Addr, ad.block = b → V ad = none → V' ad = none := fun k b hk hks hb ad he hn => by
    cases hv : V' ad with
    | none => rfl
    | some u =>
      rcases hnew ad u hv with h1 | h1
      · rw [hn] at h1; cases h1
      · exact absurd (he ▸ h1) (far k b hk hks hb)
  have toE : ∀ b, bdd (dnB β sl Rc.length R.length) R b ∨ w.heap.size ≤ b → E.bd b := fun b hb => by
    rcases hb with hb | hb
    · obtain ⟨k, m1, m2, m3⟩ := own b hb
      exact (bdE k b m2 m3).1
    · exact .inr (Nat.le_trans h.wld.bel.size hb)
  let βn : Bnd := fun k => if k < Rc.length then β k else β' (k - Rc.length + sl.length)
  have cls : ∀ q r, (putR (sigma sl Rc.length) 0 sl R' Rc)[q]? = some r → (q < Rc.length ∧ q ∉ sl ∧ Rc[q]? = some r ∧ βn q = β q) ∨ ∃ j r0, R'[j]? = some r0 ∧ r = renR (sigma sl Rc.length) r0 ∧ q = sigma sl Rc.length j ∧ (Reg.live R' j → βn q = β' j) := fun q r hq => by
    rcases putR_get _ sl R' Rc 0 hle hh.lt hh.nd q r hq with ⟨p1, p2, p3⟩ | ⟨j, r0, p1, p2, p3, p4⟩ | ⟨j, r0, p1, p2, p3, p4⟩
    · exact .inl ⟨p1, p2, p3, if_pos p1⟩
    · have e : sigma sl Rc.length j = q := Option.some.inj ((sigma_lt p1).symm.trans p2)
      refine .inr ⟨j, r0, p3, p4, e.symm, fun hl => ?_⟩
      have hq2 := hh.lt q (List.mem_of_getElem? p2)
      show (if q < Rc.length then β q else _) = _
      rw [if_pos hq2, hid j (by rw [← hh.len]; exact p1) hl, dnB_lt (by rw [← hh.len]; exact p1), e]
    · have e : sigma sl Rc.length j = q := (sigma_ge p1).trans p2.symm
      refine .inr ⟨j, r0, p3, p4, e.symm, fun _ => ?_⟩
      show (if q < Rc.length then _ else β' (q - Rc.length + sl.length)) = _
      rw [if_neg (by omega), show q - Rc.length + sl.length = j by omega]
  have hlen : (putR (sigma sl Rc.length) 0 sl R' Rc).length = Rc.length + (R'.length - sl.length) := putR_len _ sl R' Rc 0 hle
  have sinj : ∀ i j, i < R'.length → j < R'.length → sigma sl Rc.length i = sigma sl Rc.length j → i = j := fun i j hi hj e => by
    by_cases c1 : i < sl.length <;> by_cases c2 : j < sl.length
    · have h1 := sigma_lt (sl := sl) (base := Rc.length) c1
      have h2 := sigma_lt (sl := sl) (base := Rc.length) c2
      rw [e] at h1
      exact (List.getElem?_inj c1 hh.nd).1 (h1.trans h2.symm)
    · have := hh.lt _ (List.mem_of_getElem? (sigma_lt (sl := sl) (base := Rc.length) c1))
      rw [e, sigma_ge (by omega)] at this; omega
    · have := hh.lt _ (List.mem_of_getElem? (sigma_lt (sl := sl) (base := Rc.length) c2))
      rw [← e, sigma_ge (by omega)] at this; omega
    · rw [sigma_ge (by omega), sigma_ge (by omega)] at e; omega
  have liv : ∀ q, Reg.live (putR (sigma sl Rc.length) 0 sl R' Rc) q → (q < Rc.length ∧ q ∉ sl ∧ Reg.live Rc q ∧ βn q = β q) ∨ ∃ j, j < R'.length ∧ Reg.live R' j ∧ q = sigma sl Rc.length j ∧ βn q = β' j := fun q hq => by
    have hlt := live_lt hq
    have hg := List.getElem?_eq_getElem hlt
    rcases cls q _ hg with ⟨p1, p2, p3, p4⟩ | ⟨j, r0, p1, p2, p3, p4⟩
    · refine .inl ⟨p1, p2, ?_, p4⟩
      rcases hq with ⟨e, sz, n, hq⟩ | ⟨n, sz, row, hq⟩
      · rw [hg] at hq; rw [hq] at p3; exact .inl ⟨e, sz, n, p3⟩
      · rw [hg] at hq; rw [hq] at p3; exact .inr ⟨n, sz, row, p3⟩
    · have hl : Reg.live R' j := (live_ren p1 (by rw [hg, p2])).2 hq
      exact .inr ⟨j, (List.getElem?_eq_some_iff.1 p1).1, hl, p3, p4 hl⟩
  have upR : ∀ i, i < R'.length → sigma sl Rc.length i < (putR (sigma sl Rc.length) 0 sl R' Rc).length ∧ (∀ e sz n, (putR (sigma sl Rc.length) 0 sl R' Rc)[sigma sl Rc.length i]? = some (.arr e sz n) → R'[i]? = some (.arr e sz n)) ∧ (∀ n sz row, (putR (sigma sl Rc.length) 0 sl R' Rc)[sigma sl Rc.length i]? = some (.mat n sz row) → ∃ row0, R'[i]? = some (.mat n sz row0)) ∧ (Reg.live R' i → βn (sigma sl Rc.length i) = β' i) := fun i hi => by
    have hin : ∀ q, q < Rc.length → q ∉ sl → q ≠ sigma sl Rc.length i := fun q h1 h2 e => by
      by_cases c : i < sl.length
      · exact h2 (e ▸ List.mem_of_getElem? (sigma_lt (sl := sl) (base := Rc.length) c))
      · rw [sigma_ge (by omega)] at e; omega
    have lt1 : sigma sl Rc.length i < (putR (sigma sl Rc.length) 0 sl R' Rc).length := by
      rw [hlen]
      by_cases c : i < sl.length
      · have := hh.lt _ (List.mem_of_getElem? (sigma_lt (sl := sl) (base := Rc.length) c)); omega
      · rw [sigma_ge (by omega)]; omega
    have same : ∀ r, (putR (sigma sl Rc.length) 0 sl R' Rc)[sigma sl Rc.length i]? = some r → ∃ r0, R'[i]? = some r0 ∧ r = renR (sigma sl Rc.length) r0 := fun r hr => by
      rcases cls _ r hr with ⟨p1, p2, _⟩ | ⟨j, r0, p1, p2, p3, p4⟩
      · exact absurd rfl (hin _ p1 p2)
      · have := sinj i j hi (List.getElem?_eq_some_iff.1 p1).1 p3
        subst this
        exact ⟨r0, p1, p2⟩
    refine ⟨lt1, fun e sz n hr => ?_, fun n sz row hr => ?_, fun hl => ?_⟩
    · obtain ⟨r0, q1, q2⟩ := same _ hr
      cases r0 with
      | arr e' sz' n' => unfold renR at q2; injection q2 with e1 e2 e3; subst e1; subst e2; subst e3; exact q1
      | _ => unfold renR at q2; cases q2
    · obtain ⟨r0, q1, q2⟩ := same _ hr
      cases r0 with
      | mat n' sz' row' => unfold renR at q2; injection q2 with e1 e2 e3; subst e1; subst e2; exact ⟨row', q1⟩
      | _ => unfold renR at q2; cases q2
    · obtain ⟨r0, q1, _⟩ := same _ (List.getElem?_eq_getElem lt1)
      rcases cls _ _ (List.getElem?_eq_getElem lt1) with ⟨p1, p2, _⟩ | ⟨j, r1, p1, p2, p3, p4⟩
      · exact absurd rfl (hin _ p1 p2)
      · have := sinj i j hi (List.getElem?_eq_some_iff.1 p1).1 p3
        subst this
        exact p4 hl
  have hX : Ext w V β Rc w' V' βn (putR (sigma sl Rc.length) 0 sl R' Rc) := by
    refine ⟨hV, by rw [hlen]; omega, fun i e sz n hi hr => ?_, fun i n sz row hi hr => ?_⟩
    · rcases cls i _ hr with ⟨p1, p2, p3, p4⟩ | ⟨j, r0, p1, p2, p3, p4⟩
      · exact ⟨p3, p4, fun b hb => hbel.block b (bdE i b (.inl ⟨e, sz, n, p3⟩) hb).2 (fun hc => far i b (.inl ⟨e, sz, n, p3⟩) p2 hb (.inl hc))⟩
      · cases r0 with
        | arr e' sz' n' =>
          have hj : j < sl.length := by
            by_cases c : j < sl.length
            · exact c
            · rw [sigma_ge (by omega)] at p3; omega
          rcases hs.get j (by rw [← hh.len]; exact hj) _ p1 with h1 | ⟨_, _, _, _, h1, _⟩ <;> cases h1
        | _ => unfold renR at p2; cases p2
    · rcases cls i _ hr with ⟨p1, p2, p3, p4⟩ | ⟨j, r0, p1, p2, p3, p4⟩
      · exact ⟨p4, row, p3⟩
      · cases r0 with
        | mat n' sz' row' =>
          unfold renR at p2; injection p2 with e1 e2 e3; subst e1; subst e2
          have hj : j < sl.length := by
            by_cases c : j < sl.length
            · exact c
            · rw [sigma_ge (by omega)] at p3; omega
          have hjR : j < R.length := by rw [← hh.len]; exact hj
          have hl : Reg.live R' j := .inr ⟨_, _, _, p1⟩
          rcases hs.get j hjR _ p1 with h1 | ⟨n2, sz2, row2, row3, h1, h2⟩
          · cases h1
          · injection h1 with e1 e2 e3; subst e1; subst e2
            refine ⟨?_, _, p3 ▸ hh.at_ h2⟩
            show (if i < Rc.length then β i else _) = β i
            rw [if_pos hi]
        | _ => unfold renR at p2; cases p2
  refine ⟨βn, ⟨⟨h.wld.bel.trans hbel (fun b hb => ?_), hsub, h.wld.up.trans hV, fun ad u hu => ?_⟩, h.glo.mv hV, ⟨fun i j b hi hj hbi hbj => ?_, fun i e sz n hr b hb => ?_, fun i n sz row hr => ?_⟩, h.frm.ext hX, h.pin.next (by rw [hlen]; omega) (fun i hi hl => ?_) (fun i hi => if_pos hi)⟩, hx.up upR⟩
  · obtain ⟨k, m1, m2, m3⟩ := own b hb
    exact (bdE k b m2 m3).1
  · rcases hnew ad u hu with h1 | h1 | h1
    · exact h.wld.new ad u h1
    · obtain ⟨k, m1, m2, m3⟩ := own _ h1
      exact .inr (bdE k _ m2 m3).1
    · exact .inr (.inr (Nat.le_trans h.wld.bel.size h1))
  · rcases liv i hi with ⟨p1, p2, p3, p4⟩ | ⟨q, q1, q2, q3, q4⟩ <;> rcases liv j hj with ⟨u1, u2, u3, u4⟩ | ⟨t, t1, t2, t3, t4⟩
    · rw [p4] at hbi; rw [u4] at hbj; exact h.reg.dis i j b p3 u3 hbi hbj
    · rw [p4] at hbi; rw [t4] at hbj
      have hb : bdd (dnB β sl Rc.length R.length) R b ∨ w.heap.size ≤ b := by
        rcases t2 with ⟨e, sz, n, ht⟩ | ⟨n, sz, row, ht⟩
        · exact (hreg.arr t e sz n ht b hbj).1
        · obtain ⟨b', vs, e, g1, g2, _⟩ := hreg.mat t n sz row ht
          rw [hbj] at g1; injection g1 with g1; subst g1; exact g2
      exact absurd hb (far i b p3 p2 hbi)
    · rw [q4] at hbi; rw [u4] at hbj
      have hb : bdd (dnB β sl Rc.length R.length) R b ∨ w.heap.size ≤ b := by
        rcases q2 with ⟨e, sz, n, ht⟩ | ⟨n, sz, row, ht⟩
        · exact (hreg.arr q e sz n ht b hbi).1
        · obtain ⟨b', vs, e, g1, g2, _⟩ := hreg.mat q n sz row ht
          rw [hbi] at g1; injection g1 with g1; subst g1; exact g2
      exact absurd hb (far j b u3 u2 hbj)
    · rw [q4] at hbi; rw [t4] at hbj
      have := hreg.dis q t b q2 t2 hbi hbj
      subst this
      rw [q3, t3]
  · rcases cls i _ hr with ⟨p1, p2, p3, p4⟩ | ⟨j, r0, p1, p2, p3, p4⟩
    · rw [p4] at hb
      obtain ⟨h1, h2, h3⟩ := h.reg.arr i e sz n p3 b hb
      exact ⟨h1, Nat.lt_of_lt_of_le h2 hbel.size, fun ad he ho => farV i b (.inl ⟨e, sz, n, p3⟩) p2 hb ad he (h3 ad he ho)⟩
    · cases r0 with
      | arr e' sz' n' =>
        unfold renR at p2; injection p2 with e1 e2 e3; subst e1; subst e2; subst e3
        rw [p4 (.inl ⟨_, _, _, p1⟩)] at hb
        obtain ⟨h1, h2, h3⟩ := hreg.arr j _ _ _ p1 b hb
        exact ⟨toE b h1, h2, h3⟩
      | _ => unfold renR at p2; cases p2
  · rcases cls i _ hr with ⟨p1, p2, p3, p4⟩ | ⟨j, r0, p1, p2, p3, p4⟩
    · obtain ⟨b, vs, e, h1, h2, h3, h4, h5, h6⟩ := h.reg.mat i n sz row p3
      refine ⟨b, vs, e, p4.trans h1, h2, (hbel.block b (blk_lt h3) (fun hc => far i b (.inr ⟨n, sz, row, p3⟩) p2 h1 (.inl hc))).trans h3, h4, fun ad he => farV i b (.inr ⟨n, sz, row, p3⟩) p2 h1 ad he (h5 ad he), fun q hq => ⟨(h6 q hq).1, fun k y hk => ?_⟩⟩
      obtain ⟨u, u1, u2, u3⟩ := (h6 q hq).2 k y hk
      exact ⟨u, u1, u2, u3.ext hX⟩
    · cases r0 with
      | mat n' sz' row' =>
        unfold renR at p2; injection p2 with e1 e2 e3; subst e1; subst e2; subst e3
        obtain ⟨b, vs, e, h1, h2, h3, h4, h5, h6⟩ := hreg.mat j _ _ _ p1
        refine ⟨b, vs, e, (p4 (.inr ⟨_, _, _, p1⟩)).trans h1, toE b h2, h3, h4, h5, fun q hq => ⟨by rw [renL_len]; exact (h6 q hq).1, fun k y hk => ?_⟩⟩
        replace hk : (renA.renL (sigma sl Rc.length) (row' q))[k]? = some y := hk
        rw [renL_map, List.getElem?_map] at hk
        obtain ⟨z, hz, rfl⟩ := Option.map_eq_some_iff.1 hk
        obtain ⟨u, u1, u2, u3⟩ := (h6 q hq).2 k z hz
        exact ⟨u, u1, u2, u3.up upR⟩
      | _ => unfold renR at p2; cases p2
  · have hlt := live_lt hl
    have hg := List.getElem?_eq_getElem hlt
    rcases liv i hl with ⟨_, _, p3, _⟩ | ⟨j, q1, q2, q3, q4⟩
    · exact p3
    · have hj : j < sl.length := by
        by_cases c : j < sl.length
        · exact c
        · rw [sigma_ge (by omega)] at q3; omega
      have hjR : j < R.length := by rw [← hh.len]; exact hj
      have : Reg.live R j := by
        rcases q2 with ⟨e, sz, n, q2⟩ | ⟨n, sz, row, q2⟩
        · rcases hs.get j hjR _ q2 with h1 | ⟨_, _, _, _, h1, _⟩ <;> cases h1
        · rcases hs.get j hjR _ q2 with h1 | ⟨n2, sz2, row2, row3, h1, h2⟩
          · cases h1
          · exact .inr ⟨_, _, _, h2⟩
      rw [q3]
      exact (live_ren (List.getElem?_eq_getElem hjR) (hh.at_ (List.getElem?_eq_getElem hjR))).1 this
end
/-- The arguments of a call that is handed regions. -/
inductive ArgsM (m : Nat) (s : Nat → Nat) : List AV → List AV → Prop
  | nil : ArgsM m s [] []
  | ren {b a : AV} {l r : List AV} (e : b = renA s a) (h : bdA m a = true) (t : ArgsM m s l r) : ArgsM m s (b :: l) (a :: r)
  | ref {b a : AV} {l r : List AV} (h : Ref b a) (hx : rf a = true) (t : ArgsM m s l r) : ArgsM m s (b :: l) (a :: r)
theorem ArgsM.len {m : Nat} {s : Nat → Nat} : ∀ {l r : List AV}, ArgsM m s l r → l.length = r.length
  | _, _, .nil => rfl
  | _, _, .ren _ _ t => by rw [List.length_cons, List.length_cons, t.len]
  | _, _, .ref _ _ t => by rw [List.length_cons, List.length_cons, t.len]
theorem ArgsM.rep {w : World} {V : View} {β βd : Bnd} {R Rc : List Reg} {s : Nat → Nat} (hR : ∀ i r, R[i]? = some r → Rc[s i]? = some (renR s r) ∧ βd i = β (s i)) : ∀ {l r : List AV} {vs : List Value}, ArgsM R.length s l r → (∀ (i : Nat) (a : AV) (v : Value), l[i]? = some a → vs[i]? = some v → Rep w V β Rc a v) → ∀ (i : Nat) (a : AV) (v : Value), r[i]? = some a → vs[i]? = some v → Rep w V βd R a v
  | _, _, vs, .nil, _, i, a, v, h1, _ => by simp at h1
  | _, _, [], .ren _ _ _, _, i, a, v, _, h2 => by simp at h2
  | _, _, [], .ref _ _ _, _, i, a, v, _, h2 => by simp at h2
  | _, _, u :: vs, .ren e h t, hr, i, a, v, h1, h2 => by
    cases i with
    | zero => simp at h1; subst h1; exact (hr 0 _ v rfl h2).down hR _ e.symm h
    | succ i => exact t.rep hR (vs := vs) (fun i a v p q => hr (i + 1) a v (by simpa using p) (by simpa using q)) i a v (by simpa using h1) (by simpa using h2)
  | _, _, u :: vs, .ref h hx t, hr, i, a, v, h1, h2 => by
    cases i with
    | zero => simp at h1; subst h1; exact .st ((h _ _ _ _ _ (hr 0 _ v rfl h2)).rf hx)
    | succ i => exact t.rep hR (vs := vs) (fun i a v p q => hr (i + 1) a v (by simpa using p) (by simpa using q)) i a v (by simpa using h1) (by simpa using h2)
inductive HandsL (s : Nat → Nat) (Rc : List Reg) : List Nat → List Reg → Prop
  | nil : HandsL s Rc [] []
  | cons {k : Nat} {sl : List Nat} {r : Reg} {R : List Reg} (h : Rc[k]? = some (renR s r)) (t : HandsL s Rc sl R) : HandsL s Rc (k :: sl) (r :: R)
def nodupB : List Nat → Bool
  | [] => true
  | k :: l => l.all (fun q => !Nat.beq q k) && nodupB l
theorem nodupB_of : ∀ {l : List Nat}, nodupB l = true → l.Nodup
  | [], _ => List.nodup_nil
  | k :: l, h => by
    unfold nodupB at h
    rw [Bool.and_eq_true] at h
    refine List.nodup_cons.2 ⟨fun hk => ?_, nodupB_of h.2⟩
    have := List.all_eq_true.1 h.1 k hk
    simp at this
theorem HandsL.hands {Rc R : List Reg} {sl : List Nat} (h : HandsL (sigma sl Rc.length) Rc sl R) (hn : nodupB sl = true) : Hands sl Rc R := by
  have go : ∀ {s : Nat → Nat} {sl : List Nat} {R : List Reg}, HandsL s Rc sl R → sl.length = R.length ∧ (∀ k ∈ sl, k < Rc.length) ∧ ∀ (i k : Nat), sl[i]? = some k → ∃ r, R[i]? = some r ∧ Rc[k]? = some (renR s r) := by
    intro s sl R h
    induction h with
    | nil => exact ⟨rfl, fun k h => by simp at h, fun i k h => by simp at h⟩
    | cons h t ih =>
      refine ⟨by rw [List.length_cons, List.length_cons, ih.1], fun k hk => ?_, fun i k hk => ?_⟩
      · rcases List.mem_cons.1 hk with rfl | hk
        · exact (List.getElem?_eq_some_iff.1 h).1
        · exact ih.2.1 k hk
      · cases i with
        | zero => simp at hk; subst hk; exact ⟨_, rfl, h⟩
        | succ i => simpa using ih.2.2 i k (by simpa using hk)
  exact ⟨(go h).1, (go h).2.1, nodupB_of hn, (go h).2.2⟩
/-! Rows that may be written become rows that stay. -/
def thA (i n sz : Nat) (row : Nat → List AV) : AV → AV
  | .msl q => cond (Nat.beq q i) (.sl n sz row) (.msl q)
  | .agg l => .agg (thL l)
  | .tup l => .tup (thL l)
  | .fn f l => .fn f (thL l)
  | .any => .any
  | .imm v => .imm v
  | .ptr l => .ptr l
  | .sl n sz row => .sl n sz row
  | .loc i j k => .loc i j k
  | .own i n sz row => .own i n sz row
  where thL : List AV → List AV
  | [] => []
  | a :: l => thA i n sz row a :: thL l
theorem thL_map (i n sz : Nat) (row : Nat → List AV) : ∀ l : List AV, thA.thL i n sz row l = l.map (thA i n sz row)
  | [] => rfl
  | a :: l => by rw [thA.thL, thL_map i n sz row l]; rfl
def thReg (i n sz : Nat) (row : Nat → List AV) : Reg → Reg
  | .mat n' sz' row' => .mat n' sz' (fun j => thA.thL i n sz row (row' j))
  | .arr e sz n => .arr e sz n
  | .dead => .dead
def thR (i n sz : Nat) (row : Nat → List AV) (R : List Reg) : List Reg := (R.set i .dead).map (thReg i n sz row)
section
variable {G : Glo} {E : Ent} {N : Nat} {w : World} {V : View} {β : Bnd} {R : List Reg} {fr : Fr} {a : Act} {i n sz : Nat} {row : Nat → List AV}
theorem thR_get {k : Nat} {r : Reg} (h : (thR i n sz row R)[k]? = some r) (hr : r ≠ .dead) : k ≠ i ∧ ∃ r0, R[k]? = some r0 ∧ r = thReg i n sz row r0 := by
  unfold thR at h
  rw [List.getElem?_map] at h
  obtain ⟨r0, h1, h2⟩ := Option.map_eq_some_iff.1 h
  rw [List.getElem?_set] at h1
  split at h1
  · split at h1
    · injection h1 with h1; subst h1; exact absurd h2.symm hr
    · cases h1
  · rename_i c; exact ⟨fun e => c e.symm, r0, h1, h2.symm⟩
theorem Rep.thaw {V' : View} (hV : VLe V V') (hm : ∀ v, Rep w V β R (.msl i) v → Rep0 V' (.sl n sz row) v) {x : AV} {v : Value} (h : Rep w V β R x v) : Rep w V' β (thR i n sz row R) (thA i n sz row x) v := by
  have len : (thR i n sz row R).length = R.length := by unfold thR; simp
  have st0 : ∀ {x : AV} {v : Value}, Rep0 V x v → Rep0 V' (thA i n sz row x) v := fun {x v} h => by
    induction h with
    | any v => exact .any v
    | imm v => exact .imm v
    | agg l vs hl h1 h ih => exact .agg _ vs (by rw [hl, thL_map, List.length_map]) h1 (fun q x v p r => by
        rw [thL_map, List.getElem?_map] at p
        obtain ⟨y, hy, rfl⟩ := Option.map_eq_some_iff.1 p
        exact ih q y v hy r)
    | tup l vs hl h ih => exact .tup _ vs (by rw [hl, thL_map, List.length_map]) (fun q x v p r => by
        rw [thL_map, List.getElem?_map] at p
        obtain ⟨y, hy, rfl⟩ := Option.map_eq_some_iff.1 p
        exact ih q y v hy r)
    | ptr l ad vs hl h1 hc h ih => exact (Rep0.ptr l ad vs hl h1 hc h).mv hV
    | sl n' sz' row' A c ad vs hn hA hl h1 hc h ih => exact (Rep0.sl n' sz' row' A c ad vs hn hA hl h1 hc h).mv hV
    | fn f l vs hl h ih => exact .fn f _ vs (by rw [hl, thL_map, List.length_map]) (fun q x v p r => by
        rw [thL_map, List.getElem?_map] at p
        obtain ⟨y, hy, rfl⟩ := Option.map_eq_some_iff.1 p
        exact ih q y v hy r)
  induction h with
  | st h => exact .st (st0 h)
  | agg l vs hl h1 h ih => exact .agg _ vs (by rw [hl, thL_map, List.length_map]) h1 (fun q x v p r => by
      rw [thL_map, List.getElem?_map] at p
      obtain ⟨y, hy, rfl⟩ := Option.map_eq_some_iff.1 p
      exact ih q y v hy r)
  | tup l vs hl h ih => exact .tup _ vs (by rw [hl, thL_map, List.length_map]) (fun q x v p r => by
      rw [thL_map, List.getElem?_map] at p
      obtain ⟨y, hy, rfl⟩ := Option.map_eq_some_iff.1 p
      exact ih q y v hy r)
  | fn f l vs hl h ih => exact .fn f _ vs (by rw [hl, thL_map, List.length_map]) (fun q x v p r => by
      rw [thL_map, List.getElem?_map] at p
      obtain ⟨y, hy, rfl⟩ := Option.map_eq_some_iff.1 p
      exact ih q y v hy r)
  | loc q j k v hi hp h =>
    refine .loc q j k v (by rw [len]; exact hi) hp (fun n' sz' row' hr => ?_)
    obtain ⟨_, r0, h1, h2⟩ := thR_get hr (by simp)
    cases r0 with
    | mat n2 sz2 row2 => unfold thReg at h2; injection h2 with e1 e2 e3; subst e1; subst e2; exact h _ _ _ h1
    | _ => unfold thReg at h2; cases h2
  | own q n' sz' row' v hi h0 h =>
    refine .own q n' sz' row' v (by rw [len]; exact hi) (h0.mv hV) (fun e sz2 n2 hr => ?_)
    obtain ⟨_, r0, h1, h2⟩ := thR_get hr (by simp)
    cases r0 with
    | arr e3 sz3 n3 => unfold thReg at h2; injection h2 with e1 e2 e3; subst e1; subst e2; subst e3; exact h _ _ _ h1
    | _ => unfold thReg at h2; cases h2
  | msl q v hi hp h =>
    unfold thA
    cases c : Nat.beq q i with
    | true =>
      have c := Nat.eq_of_beq_eq_true c
      subst c
      exact .st (hm v (.msl _ v hi hp h))
    | false =>
      refine .msl q v (by rw [len]; exact hi) hp (fun n' sz' row' hr => ?_)
      obtain ⟨_, r0, h1, h2⟩ := thR_get hr (by simp)
      cases r0 with
      | mat n2 sz2 row2 => unfold thReg at h2; injection h2 with e1 e2 e3; subst e1; subst e2; exact h _ _ _ h1
      | _ => unfold thReg at h2; cases h2
theorem Fits.thaw (h : Fits G E N w V β R fr a) (hR : R[i]? = some (.mat n sz row)) (hrf : ∀ j, j < n → rf.rfL (row j) = true) : ∃ V', Fits G E N w V' β (thR i n sz row R) (fun t => thA i n sz row (fr t)) a := by
  obtain ⟨b, cs, e, hb, hbd, hh, hsz, hhid, hrow⟩ := h.reg.mat i n sz row hR
  let V' : View := fun ad => if ad.block = b then w.cell? ad else V ad
  have hV : VLe V V' := fun ad v hv => by
    show (if ad.block = b then w.cell? ad else V ad) = some v
    by_cases c : ad.block = b
    · rw [hhid ad c] at hv; cases hv
    · rw [if_neg c]; exact hv
  have hin : ∀ q, q < cs.size → w.cell? ⟨b, q, none⟩ = cs[q]? := fun q hq => by simp [World.cell?, hh]
  have far : ∀ ad : Addr, ad.block ≠ b → V' ad = V ad := fun ad hc => if_neg hc
  have hm : ∀ v, Rep w V β R (.msl i) v → Rep0 V' (.sl n sz row) v := fun v hv => by
    obtain ⟨_, _, hv⟩ := hv.msl_inv
    obtain ⟨b', c, h1, rfl, h3⟩ := hv n sz row hR
    rw [hb] at h1; injection h1 with h1; subst h1
    have lt : ∀ j k, j < n → k < sz → j * sz + k < cs.size := fun j k hj hk => by have := mul_lt_of (sz := sz) hj; omega
    refine .sl n sz row (some ⟨b, 0, none⟩) c ⟨b, 0, none⟩ (fun j => (List.range sz).map (fun k => cs.getD (j * sz + k) undef)) h3 (fun _ => rfl) (fun j hj => ⟨(hrow j hj).1, by simp⟩) (fun j hj v hv => ?_) (fun j k v hj hv => ?_) (fun j k x v hj hx hv => ?_)
    · obtain ⟨k, hk, rfl⟩ := List.mem_map.1 hv
      have hk := List.mem_range.1 hk
      obtain ⟨u, u1, u2, u3⟩ := (hrow j hj).2 k _ (List.getElem?_eq_getElem (by rw [(hrow j hj).1]; exact hk))
      rw [Array.getD_eq_getD_getElem?, u1]; exact u2
    · rw [List.getElem?_map] at hv
      obtain ⟨k', hk', rfl⟩ := Option.map_eq_some_iff.1 hv
      obtain ⟨hk, rfl⟩ := List.getElem?_eq_some_iff.1 hk'
      rw [List.getElem_range]
      rw [List.length_range] at hk
      rw [add_plain]
      show (if b = b then w.cell? _ else _) = _
      rw [if_pos rfl, hin _ (lt j k hj hk), Array.getElem?_eq_getElem (lt j k hj hk), Array.getD_eq_getD_getElem?, Array.getElem?_eq_getElem (lt j k hj hk)]
      rfl
    · rw [List.getElem?_map] at hv
      obtain ⟨k', hk', rfl⟩ := Option.map_eq_some_iff.1 hv
      obtain ⟨hk, rfl⟩ := List.getElem?_eq_some_iff.1 hk'
      rw [List.getElem_range]
      obtain ⟨u, u1, u2, u3⟩ := (hrow j hj).2 k x hx
      rw [Array.getD_eq_getD_getElem?, u1]
      exact (u3.rf (rfL_get (hrf j hj) k x hx)).mv hV
  have live : ∀ k, Reg.live (thR i n sz row R) k → k ≠ i ∧ Reg.live R k := fun k hk => by
    rcases hk with ⟨x, y, z, hk⟩ | ⟨x, y, z, hk⟩
    · obtain ⟨p, r0, h1, h2⟩ := thR_get hk (by simp)
      cases r0 with
      | arr e3 sz3 n3 => exact ⟨p, .inl ⟨_, _, _, h1⟩⟩
      | _ => unfold thReg at h2; cases h2
    · obtain ⟨p, r0, h1, h2⟩ := thR_get hk (by simp)
      cases r0 with
      | mat n2 sz2 row2 => exact ⟨p, .inr ⟨_, _, _, h1⟩⟩
      | _ => unfold thReg at h2; cases h2
  have ne : ∀ k b', Reg.live R k → k ≠ i → β k = some b' → b' ≠ b := fun k b' hk hki hbk e => by subst e; exact hki (h.reg.dis k i _ hk (.inr ⟨n, sz, row, hR⟩) hbk hb)
  refine ⟨V', ⟨⟨h.wld.bel, fun ad v hv => ?_, h.wld.up.trans hV, fun ad v hv => ?_⟩, h.glo.mv hV, ⟨fun k k' b' hk hk' hb1 hb2 => ?_, fun k e' sz' n' hr b' hb' => ?_, fun k n' sz' row' hr => ?_⟩, ⟨h.frm.size, h.frm.defers, fun t => (h.frm.rep t).thaw hV hm⟩, h.pin.next (by unfold thR; simp) (fun k _ hk => (live k hk).2) (fun k _ => rfl)⟩⟩
  · by_cases c : ad.block = b
    · have : V' ad = w.cell? ad := if_pos c
      rw [← this]; exact hv
    · rw [far ad c] at hv; exact h.wld.sub ad v hv
  · by_cases c : ad.block = b
    · exact .inr (c ▸ hbd)
    · rw [far ad c] at hv; exact h.wld.new ad v hv
  · exact h.reg.dis k k' b' (live k hk).2 (live k' hk').2 hb1 hb2
  · obtain ⟨p, r0, h1, h2⟩ := thR_get hr (by simp)
    cases r0 with
    | arr e3 sz3 n3 =>
      unfold thReg at h2; injection h2 with e1 e2 e3; subst e1; subst e2; subst e3
      obtain ⟨g1, g2, g3⟩ := h.reg.arr k _ _ _ h1 b' hb'
      exact ⟨g1, g2, fun ad he ho => by rw [far ad (he ▸ ne k b' (.inl ⟨_, _, _, h1⟩) p hb')]; exact g3 ad he ho⟩
    | _ => unfold thReg at h2; cases h2
  · obtain ⟨p, r0, h1, h2⟩ := thR_get hr (by simp)
    cases r0 with
    | mat n2 sz2 row2 =>
      unfold thReg at h2; injection h2 with e1 e2 e3; subst e1; subst e2; subst e3
      obtain ⟨b', vs, e', g1, g2, g3, g4, g5, g6⟩ := h.reg.mat k _ _ _ h1
      refine ⟨b', vs, e', g1, g2, g3, g4, fun ad he => by rw [far ad (he ▸ ne k b' (.inr ⟨_, _, _, h1⟩) p g1)]; exact g5 ad he, fun j hj => ⟨by show (thA.thL i n sz row (row2 j)).length = _; rw [thL_map, List.length_map]; exact (g6 j hj).1, fun q y hy => ?_⟩⟩
      replace hy : (thA.thL i n sz row (row2 j))[q]? = some y := hy
      rw [thL_map, List.getElem?_map] at hy
      obtain ⟨z, hz, rfl⟩ := Option.map_eq_some_iff.1 hy
      obtain ⟨v, v1, v2, v3⟩ := (g6 j hj).2 q z hz
      exact ⟨v, v1, v2, v3.thaw hV hm⟩
    | _ => unfold thReg at h2; cases h2
end
/-- Do the rows of regions lead to none beyond a number? -/
inductive BdR (m : Nat) : List Reg → Prop
  | nil : BdR m []
  | dead {l : List Reg} (t : BdR m l) : BdR m (.dead :: l)
  | arr {e : TypeId} {sz n : Nat} {l : List Reg} (t : BdR m l) : BdR m (.arr e sz n :: l)
  | mat {n sz : Nat} {row : Nat → List AV} {l : List Reg} (h : ∀ j, j < n → bdA.bdL m (row j) = true) (t : BdR m l) : BdR m (.mat n sz row :: l)
theorem BdR.all {m : Nat} : ∀ {R : List Reg}, BdR m R → ∀ r ∈ R, ∀ n sz row, r = .mat n sz row → ∀ j, j < n → bdA.bdL m (row j) = true
  | _, .nil, r, h, _, _, _, _ => by simp at h
  | _, .dead t, r, h, n, sz, row, e => by
    rcases List.mem_cons.1 h with rfl | h
    · cases e
    · exact t.all r h n sz row e
  | _, .arr t, r, h, n, sz, row, e => by
    rcases List.mem_cons.1 h with rfl | h
    · cases e
    · exact t.all r h n sz row e
  | _, .mat hm t, r, h, n, sz, row, e => by
    rcases List.mem_cons.1 h with rfl | h
    · injection e with e1 e2 e3; subst e1; subst e2; subst e3; exact hm
    · exact t.all r h n sz row e
end Go.Proofs.Ytdcabfonjmeajaa.Abs
set_option linter.unusedVariables false
set_option linter.unusedSimpArgs false
namespace Go.Proofs.Ytdcabfonjmeajaa.Abs
open Go.RowKit
theorem RefL.get : ∀ {l r : List AV}, RefL l r → ∀ (k : Nat) (b : AV), r[k]? = some b → ∃ a, l[k]? = some a ∧ Ref a b
  | _, _, .nil, k, b, h => by simp at h
  | _, _, .cons h t, 0, b, e => by simp at e; subst e; exact ⟨_, rfl, h⟩
  | _, _, .cons h t, k + 1, b, e => by simpa using t.get k b (by simpa using e)
section
variable {P : Program} {tys : Tys} {G : Glo} {E : Ent} {N : Nat} {w : World} {V : View} {β : Bnd} {R : List Reg} {fr : Fr} {a : Act} {i n sz : Nat} {row row' : Nat → List AV}
/-- Less is known of a region's rows. -/
theorem Fits.weak (h : Fits G E N w V β R fr a) (hR : R[i]? = some (.mat n sz row)) (hrow : ∀ j, j < n → RefL (row j) (row' j)) : Fits G E N w V β (R.set i (.mat n sz row')) fr a := by
  have hlt : i < R.length := (List.getElem?_eq_some_iff.1 hR).1
  have self : (R.set i (.mat n sz row'))[i]? = some (.mat n sz row') := by rw [List.getElem?_set_self hlt]
  have oth : ∀ k, k ≠ i → (R.set i (.mat n sz row'))[k]? = R[k]? := fun k hk => by rw [List.getElem?_set_ne (Ne.symm hk)]
  have hx : Ext w V β R w V β (R.set i (.mat n sz row')) := by
    refine ⟨.refl V, by simp, fun k e sz' n' hk hr => ?_, fun k n' sz' row2 hk hr => ?_⟩
    · by_cases c : k = i
      · subst c; rw [self] at hr; cases hr
      · rw [oth k c] at hr; exact ⟨hr, rfl, fun _ _ => rfl⟩
    · by_cases c : k = i
      · subst c; rw [self] at hr; injection hr with hr; injection hr with e1 e2 e3; subst e1; subst e2; exact ⟨rfl, row, hR⟩
      · rw [oth k c] at hr; exact ⟨rfl, row2, hr⟩
  have lv : ∀ k, Reg.live (R.set i (.mat n sz row')) k → Reg.live R k := fun k hk => by
    by_cases c : k = i
    · subst c; exact .inr ⟨n, sz, row, hR⟩
    · rcases hk with ⟨x, y, z, hk⟩ | ⟨x, y, z, hk⟩
      · rw [oth k c] at hk; exact .inl ⟨x, y, z, hk⟩
      · rw [oth k c] at hk; exact .inr ⟨x, y, z, hk⟩
  refine ⟨h.wld, h.glo, ⟨fun k k' b hk hk' => h.reg.dis k k' b (lv k hk) (lv k' hk'), fun k e' sz' n' hr b' hb' => ?_, fun k n' sz' row2 hr => ?_⟩, h.frm.ext hx, h.pin.next (by simp) (fun k _ hk => lv k hk) (fun k _ => rfl)⟩
  · by_cases c : k = i
    · subst c; rw [self] at hr; cases hr
    · rw [oth k c] at hr; exact h.reg.arr k e' sz' n' hr b' hb'
  · by_cases c : k = i
    · subst c
      rw [self] at hr; injection hr with hr; injection hr with e1 e2 e3; subst e1; subst e2; subst e3
      obtain ⟨b, vs, e, g1, g2, g3, g4, g5, g6⟩ := h.reg.mat k n sz row hR
      refine ⟨b, vs, e, g1, g2, g3, g4, g5, fun j hj => ⟨by rw [← (hrow j hj).len]; exact (g6 j hj).1, fun q y hy => ?_⟩⟩
      obtain ⟨z, hz, hrf⟩ := (hrow j hj).get q y hy
      obtain ⟨v, v1, v2, v3⟩ := (g6 j hj).2 q z hz
      exact ⟨v, v1, v2, hrf w V β _ v (v3.ext hx)⟩
    · rw [oth k c] at hr
      obtain ⟨b, vs, e, g1, g2, g3, g4, g5, g6⟩ := h.reg.mat k n' sz' row2 hr
      refine ⟨b, vs, e, g1, g2, g3, g4, g5, fun j hj => ⟨(g6 j hj).1, fun q y hy => ?_⟩⟩
      obtain ⟨v, v1, v2, v3⟩ := (g6 j hj).2 q y hy
      exact ⟨v, v1, v2, v3.ext hx⟩
theorem thR_set (i n sz : Nat) (row : Nat → List AV) (R : List Reg) (r : Reg) : thR i n sz row (R.set i r) = thR i n sz row R := by
  unfold thR
  rw [List.set_set]
/-- A row that may be written, known less, and then left as it is. -/
theorem Fits.thawW (h : Fits G E N w V β R fr a) (hR : R[i]? = some (.mat n sz row)) (hrow : ∀ j, j < n → RefL (row j) (row' j)) (hrf : ∀ j, j < n → rf.rfL (row' j) = true) : ∃ V', Fits G E N w V' β (thR i n sz row' R) (fun t => thA i n sz row' (fr t)) a := by
  obtain ⟨V', h'⟩ := (h.weak hR hrow).thaw (List.getElem?_set_self (List.getElem?_eq_some_iff.1 hR).1) hrf
  rw [thR_set] at h'
  exact ⟨V', h'⟩
/-- A new region of rows that may be written; the region i (if there is one) is gone. -/
theorem Fits.snocM (h : Fits G E N w V β R fr a) (i : Nat) {w' : World} {b : Nat} {cur : Array Value} {e : TypeId} (hbel : ∃ Y : Nat → Prop, BelX Y w w' ∧ ∀ b, Y b → E.bd b) (hsub : ∀ ad v, V ad = some v → w'.cell? ad = some v)
    (hold : ∀ k b', Reg.live R k → k ≠ i → β k = some b' → w'.heap[b']? = w.heap[b']? ∧ b' ≠ b) (hb : E.bd b) (hh : w'.heap[b]? = some (.cells cur e (0, 0))) (hs : n * sz ≤ cur.size) (hid : ∀ ad : Addr, ad.block = b → V ad = none)
    (hrow : ∀ j, j < n → (row j).length = sz ∧ ∀ k a, (row j)[k]? = some a → ∃ v, cur[j * sz + k]? = some v ∧ v.oneCell' = true ∧ Rep w V β R a v) :
    ∃ β', Fits G E N w' V β' ((R.set i .dead) ++ [.mat n sz row]) fr a ∧ β' R.length = some b := by
  obtain ⟨Y, hbl, hY⟩ := hbel
  have hx : Ext w V β R w' V (fun k => if k = R.length then some b else β k) ((R.set i .dead) ++ [.mat n sz row]) := by
    refine ⟨.refl V, by simp, fun k e' sz' n' hk hr => ?_, fun k n' sz' row2 hk hr => ?_⟩
    · rcases kill_lt (by simp) hr with ⟨_, hki, hr⟩ | ⟨hk2, _⟩
      · refine ⟨hr, ?_, fun b' hb' => (hold k b' (.inl ⟨e', sz', n', hr⟩) hki hb').1⟩
        show (if k = R.length then _ else β k) = β k
        rw [if_neg (by omega)]
      · omega
    · rcases kill_lt (by simp) hr with ⟨_, hki, hr⟩ | ⟨hk2, _⟩
      · refine ⟨?_, row2, hr⟩
        show (if k = R.length then _ else β k) = β k
        rw [if_neg (by omega)]
      · omega
  have old : ∀ k, Reg.live ((R.set i .dead) ++ [.mat n sz row]) k → k < R.length → Reg.live R k ∧ k ≠ i := fun k hk hl => by
    rcases hk with ⟨x, y, z, hk⟩ | ⟨x, y, z, hk⟩
    · rcases kill_lt (by simp) hk with ⟨_, p, q⟩ | ⟨p, _⟩
      · exact ⟨.inl ⟨x, y, z, q⟩, p⟩
      · omega
    · rcases kill_lt (by simp) hk with ⟨_, p, q⟩ | ⟨p, _⟩
      · exact ⟨.inr ⟨x, y, z, q⟩, p⟩
      · omega
  refine ⟨_, ⟨⟨h.wld.bel.trans hbl hY, hsub, h.wld.up, h.wld.new⟩, h.glo, ⟨fun k k' b' hk hk' hbk hbk' => ?_, fun k e' sz' n' hr b' hbk => ?_, fun k n' sz' row2 hr => ?_⟩, h.frm.ext hx, h.pin.next (by simp) (fun k hk hl => (old k hl hk).1) (fun k hk => by show (if k = R.length then _ else β k) = _; rw [if_neg (by omega)])⟩, by simp⟩
  · have l1 := live_lt hk
    have l2 := live_lt hk'
    simp at l1 l2
    by_cases c1 : k = R.length <;> by_cases c2 : k' = R.length
    · omega
    · rw [if_pos c1] at hbk; rw [if_neg c2] at hbk'
      obtain ⟨p, q⟩ := old k' hk' (by omega)
      injection hbk with hbk
      exact absurd hbk.symm (hold k' b' p q hbk').2
    · rw [if_neg c1] at hbk; rw [if_pos c2] at hbk'
      obtain ⟨p, q⟩ := old k hk (by omega)
      injection hbk' with hbk'
      exact absurd hbk'.symm (hold k b' p q hbk).2
    · rw [if_neg c1] at hbk; rw [if_neg c2] at hbk'
      exact h.reg.dis k k' b' (old k hk (by omega)).1 (old k' hk' (by omega)).1 hbk hbk'
  · rcases kill_lt (by simp) hr with ⟨hl, hki, hr⟩ | ⟨hk2, hr⟩
    · rw [if_neg (by omega)] at hbk
      obtain ⟨p1, p2, p3⟩ := h.reg.arr k e' sz' n' hr b' hbk
      exact ⟨p1, Nat.lt_of_lt_of_le p2 hbl.size, p3⟩
    · cases hr
  · rcases kill_lt (by simp) hr with ⟨hl, hki, hr⟩ | ⟨hk2, hr⟩
    · obtain ⟨b', us, e', q1, q2, q3, q4, q5, q6⟩ := h.reg.mat k n' sz' row2 hr
      obtain ⟨o1, o2⟩ := hold k b' (.inr ⟨n', sz', row2, hr⟩) hki q1
      refine ⟨b', us, e', by rw [if_neg (by omega)]; exact q1, q2, o1.trans q3, q4, q5, fun j hj => ⟨(q6 j hj).1, fun q x hq => ?_⟩⟩
      obtain ⟨v, p1, p2, p3⟩ := (q6 j hj).2 q x hq
      exact ⟨v, p1, p2, p3.ext hx⟩
    · injection hr with e1 e2 e3
      subst e1; subst e2; subst e3
      refine ⟨b, cur, e, by rw [if_pos hk2], hb, hh, hs, hid, fun j hj => ⟨(hrow j hj).1, fun q x hq => ?_⟩⟩
      obtain ⟨v, p1, p2, p3⟩ := (hrow j hj).2 q x hq
      exact ⟨v, p1, p2, p3.ext hx⟩
theorem Rep.msl_of {w' : World} {V' : View} {β' : Bnd} {R' : List Reg} {b c : Nat} (hR : R'[i]? = some (.mat n sz row)) (hb : β' i = some b) (hc : n ≤ c) : Rep w' V' β' R' (.msl i) (.slice (some ⟨b, 0, none⟩) n c) :=
  .msl i _ (List.getElem?_eq_some_iff.1 hR).1 rfl (fun n' sz' row' hr => by
    rw [hR] at hr; injection hr with hr; injection hr with e1 e2 e3; subst e1; exact ⟨b, c, hb, rfl, hc⟩)
/-- A literal whose rows may be written. -/
theorem litM_run (hT : TyOK P tys) (h : Fits G E N w V β R fr a) {o : Oper} {t : TypeId} {ti : TI} {len : Nat} {parts : List (Nat × Operand)} {l : List AV} (hop : o.op = .buildSlice t len ⟨parts⟩) (hti : ty tys t = some ti) (hsz : ti.elem = sz + 1) (hl : litA (sz + 1) len (parts.map (fun p => (p.1, look G fr p.2))) = some l) (hb : Nat.ble (len * (sz + 1)) 16777216 = true) (hrow : ∀ j, j < len → litR (sz + 1) l j = row j) :
    ∃ v w' β', (execOp a.eval o).run P w = .ok (.value v) w' ∧ Fits G E N w' V β' (R ++ [.mat len (sz + 1) row]) fr a ∧ Rep w' V β' (R ++ [.mat len (sz + 1) row]) (.msl R.length) v := by
  have hb := Nat.le_of_ble_eq_true hb
  rw [← hsz] at hl hb
  obtain ⟨cs, hc, hll, hrun⟩ := lit_run hT h hti (by omega) hl hb
  have lt : ∀ ad v, V ad = some v → ad.block < w.heap.size := fun ad v hv => World.block_lt_of_cell? w ad (h.wld.sub ad v hv)
  have hk : R.set R.length .dead = R := by
    apply List.ext_getElem?
    intro k
    by_cases hkk : k = R.length
    · subst hkk; rw [List.getElem?_eq_none (by simp), List.getElem?_eq_none (by simp)]
    · rw [List.getElem?_set_ne (Ne.symm hkk)]
  obtain ⟨β', h1, h2⟩ := h.snocM R.length (n := len) (sz := sz + 1) (row := row) (w' := w.alloc (.cells cs ti.el)) (b := w.heap.size) (cur := cs) (e := ti.el) ⟨fun _ => False, ⟨rfl, rfl, rfl, by simp, fun k hk _ => heap_alloc_old w _ hk⟩, fun b f => f.elim⟩
    (fun ad v hv => (World.cell?_of_block (heap_alloc_old w _ (lt ad v hv))).trans (h.wld.sub ad v hv))
    (fun k b' hk _ hb' => by have := bound_lt h.reg hk hb'; exact ⟨heap_alloc_old w _ this, by omega⟩) (.inr h.wld.bel.size) (heap_alloc_new w _) (by rw [← Array.length_toList, hc.len, hll, hsz]; exact Nat.le_refl _)
    (fun ad he => by
      cases hv : V ad with
      | none => rfl
      | some v => have := lt ad v hv; omega)
    (fun j hj => by
      have hj2 : j * ti.elem + ti.elem ≤ len * ti.elem := mul_lt_of hj
      rw [← hrow j hj]
      refine ⟨by unfold litR; rw [List.length_take, List.length_drop]; rw [hsz] at hj2 hll; omega, fun k x hx => ?_⟩
      unfold litR at hx
      rw [List.getElem?_take] at hx
      split at hx
      · rw [List.getElem?_drop] at hx
        have hlt : j * (sz + 1) + k < cs.toList.length := by rw [hc.len]; exact (List.getElem?_eq_some_iff.1 hx).1
        have hv : cs.toList[j * (sz + 1) + k]? = some cs.toList[j * (sz + 1) + k] := List.getElem?_eq_getElem hlt
        exact ⟨_, by rw [← Array.getElem?_toList]; exact hv, hc.one _ (List.getElem_mem _), hc.rep _ x _ hx hv⟩
      · cases hx)
  rw [hk] at h1
  refine ⟨_, _, β', ?_, h1, Rep.msl_of (c := len) (n := len) (sz := sz + 1) (row := row) (by simp) h2 (Nat.le_refl _)⟩
  unfold execOp
  simp only [hop, Sem.run_bind, Sem.run_pure, Result.andThen_ok, List.map_toArray, hrun]
theorem flat_at {m sz : Nat} {vs : Nat → List Value} (hl : ∀ j, j < m → (vs j).length = sz) {D : List Value} {j q : Nat} (hj : j < m) (hq : q < sz) : (((List.range m).flatMap vs) ++ D).toArray[j * sz + q]? = (vs j)[q]? := by
  obtain ⟨h1, h2⟩ := flat_get hl
  have := mul_lt_of (sz := sz) hj
  rw [List.getElem?_toArray, List.getElem?_append_left (by omega)]
  exact h2 j q hj hq
/-- An append to an empty slice, whose rows may be written then. -/
theorem appM_run (hT : TyOK P tys) (h : Fits G E N w V β R fr a) {o : Oper} {t : TypeId} {s x : Operand} {ti : TI} {m : Nat} {row0 row2 : Nat → List AV} (hop : o.op = .call ⟨.builtin .append, ⟨[s, x]⟩, ⟨[t, t]⟩⟩) (hti : ty tys t = some ti) (hsz : ti.elem = sz + 1) (hs : look G fr s = .own i 0 (sz + 1) row0) (hR : R[i]? = some (.arr ti.el (sz + 1) 0)) (hx : slV (look G fr x) = some (m, sz + 1, row2)) (hm : 0 < m) (hb : m ≤ maxLen ∧ m * ti.eby ≤ 140737488355328) :
    ∃ v w' β', (execOp a.eval o).run P w = .ok (.value v) w' ∧ Fits G E N w' V β' ((R.set i .dead) ++ [.mat m (sz + 1) row2]) fr a ∧ Rep w' V β' ((R.set i .dead) ++ [.mat m (sz + 1) row2]) (.msl R.length) v := by
  obtain ⟨inf, z, hu, hinf, q1, q2, q3, q4, _⟩ := ty_sl (hT t ti hti) (by omega)
  have hsize : inf.size = sz + 1 := q1.trans hsz
  obtain ⟨A2, c2, ad2, vs2, hxe, hA2, hr2, hc2⟩ := rows_of (slV_rep (look_rep h x) hx)
  have hA2 := hA2 hm
  subst hA2
  have hrs := look_rep h s
  rw [hs] at hrs
  obtain ⟨_, _, hf⟩ := hrs.own_inv
  obtain ⟨_, _, hob, xs, hown⟩ := hf _ _ _ hR
  obtain ⟨fl, fg⟩ := flat_get (f := vs2) (m := m) (sz := sz + 1) (fun j hj => (hr2.len j hj).2)
  have hnews : ∀ q y, ((List.range m).flatMap vs2)[q]? = some y → w.cell? (ad2.add q) = some y := fun q y hq => by
    obtain ⟨j, i', hj, hi', rfl, hv⟩ := flat_inv (fun j hj => (hr2.len j hj).2) (Nat.succ_pos sz) hq
    exact h.wld.sub _ _ (hc2 j i' y hj hv)
  have hone : ∀ y ∈ (List.range m).flatMap vs2, y.oneCell' = true := fun y hy => by
    obtain ⟨j, hj, hy⟩ := List.mem_flatMap.1 hy
    exact hr2.one j (List.mem_range.1 hj) y hy
  have hsm : m ≤ 9223372036854775807 := by have := hb.1; simp only [maxLen] at this; omega
  have lt : ∀ ad v, V ad = some v → ad.block < w.heap.size := fun ad v hv => World.block_lt_of_cell? w ad (h.wld.sub ad v hv)
  have rows : ∀ (C : Array Value), (∀ j q, j < m → q < sz + 1 → C[j * (sz + 1) + q]? = (vs2 j)[q]?) → ∀ j, j < m → (row2 j).length = sz + 1 ∧ ∀ k y, (row2 j)[k]? = some y → ∃ v, C[j * (sz + 1) + k]? = some v ∧ v.oneCell' = true ∧ Rep w V β R y v := fun C hC j hj => by
    refine ⟨(hr2.len j hj).1, fun k y hy => ?_⟩
    have hk : k < sz + 1 := by rw [← (hr2.len j hj).1]; exact (List.getElem?_eq_some_iff.1 hy).1
    have hk2 : k < (vs2 j).length := by rw [(hr2.len j hj).2]; exact hk
    have hv : (vs2 j)[k]? = some (vs2 j)[k] := List.getElem?_eq_getElem hk2
    exact ⟨_, (hC j k hj hk).trans hv, hr2.one j hj _ (List.getElem_mem _), .st (hr2.rep j k y _ hj hy hv)⟩
  have newb : ∀ (w1 : World) (C : Array Value) (cap : Nat), w1.heap = w.heap → BelX (fun _ => False) w w1 → m * (sz + 1) ≤ C.size → m ≤ cap → (∀ j q, j < m → q < sz + 1 → C[j * (sz + 1) + q]? = (vs2 j)[q]?) →
      ∃ β', Fits G E N (w1.alloc (.cells C ti.el)) V β' ((R.set i .dead) ++ [.mat m (sz + 1) row2]) fr a ∧ Rep (w1.alloc (.cells C ti.el)) V β' ((R.set i .dead) ++ [.mat m (sz + 1) row2]) (.msl R.length) (.slice (some ⟨w.heap.size, 0, none⟩) m cap) := fun w1 C cap hh hbel hC hcap hrow => by
    have hsz1 : w1.heap.size = w.heap.size := by rw [hh]
    have hnew : (w1.alloc (.cells C ti.el)).heap[w.heap.size]? = some (.cells C ti.el (0, 0)) := by rw [← hsz1]; exact heap_alloc_new w1 _
    have hold : ∀ k, k < w.heap.size → (w1.alloc (.cells C ti.el)).heap[k]? = w.heap[k]? := fun k hk => by rw [heap_alloc_old w1 _ (by omega), hh]
    obtain ⟨β', h1, h2⟩ := h.snocM i (n := m) (sz := sz + 1) (row := row2) (w' := w1.alloc (.cells C ti.el)) (b := w.heap.size) (cur := C) (e := ti.el) ⟨fun _ => False, ⟨hbel.os, hbel.tape, hbel.output, by simp [hsz1], fun k hk _ => hold k hk⟩, fun b f => f.elim⟩
      (fun ad v hv => (World.cell?_of_block (hold _ (lt ad v hv))).trans (h.wld.sub ad v hv))
      (fun k b' hk _ hb' => by have := bound_lt h.reg hk hb'; exact ⟨hold b' this, by omega⟩) (.inr h.wld.bel.size) hnew hC
      (fun ad he => by
        cases hv : V ad with
        | none => rfl
        | some v => have := lt ad v hv; omega) (rows C hrow)
    exact ⟨β', h1, Rep.msl_of (n := m) (sz := sz + 1) (row := row2) (by rw [List.getElem?_append_right (by simp)]; simp) h2 hcap⟩
  have run : ∀ {v' w'}, (Builtin.append_ #[t, t] o.type #[a.eval s, a.eval x]).run P w = .ok v' w' → (execOp a.eval o).run P w = .ok (.value v') w' := fun hrun => by
    unfold execOp
    simp only [hop, resolve, invoke, builtin, Sem.run_bind, Sem.run_pure, Result.andThen_ok, List.map_toArray, List.map_cons, List.map_nil, hrun]
  have hdrew : BelX (fun _ => False) w w.drew := ⟨rfl, rfl, rfl, Nat.le_refl _, fun _ _ _ => rfl⟩
  rw [hsz] at q4
  rcases hown.2 with ⟨e1, _⟩ | ⟨g, cap, cur, e1, _, k1, k2, k3, k4, _⟩
  · have hrun := run_append_nil (P := P) w t o.type ti.el inf z hu hinf q3 ad2 m c2 _ (by rw [hsize]; exact fl) hnews (by omega) (by omega) (by rw [q2]; have := hb.2; omega)
    have hge := grownCap_ge w m 0 ti.el
    obtain ⟨β', h1, h2⟩ := newb w.drew (((List.range m).flatMap vs2).toArray ++ Builtin.zeroCells z.cells (grownCap w m 0 ti.el - m)) (grownCap w m 0 ti.el) rfl hdrew (by rw [Array.size_append, List.size_toArray, fl]; omega) hge (fun j q hj hq => flat_front (fun j hj => (hr2.len j hj).2) hj hq)
    exact ⟨_, _, β', run (by rw [e1, hxe]; exact hrun), h1, h2⟩
  · have hbi : β i = some g := by rw [← hob, e1]; rfl
    obtain ⟨hbd, hglt, hhid⟩ := h.reg.arr i ti.el (sz + 1) 0 hR g hbi
    have hhid : ∀ ad : Addr, ad.block = g → V ad = none := fun ad he => hhid ad he (by omega)
    by_cases hroom : 0 + m ≤ cap
    · have hfit : 0 * inf.size + ((List.range m).flatMap vs2).length ≤ cur.size := by
        rw [fl, k4, Nat.zero_mul, Nat.zero_add]
        exact Nat.mul_le_mul_right _ (by omega)
      have hrun := run_append_room (P := P) w t o.type ti.el inf hu hinf g 0 cap cur k1 ad2 m c2 _ (by rw [hsize]; exact fl) hnews hone hroom hfit
      simp only [Nat.zero_mul, List.take_zero, List.nil_append, Nat.zero_add] at hrun
      have hnew := setRow_heap w g cur ((List.range m).flatMap vs2 ++ cur.toList.drop ((List.range m).flatMap vs2).length).toArray ti.el (0, 0) k1
      have hoth : ∀ k, k ≠ g → (w.setRow g ((List.range m).flatMap vs2 ++ cur.toList.drop ((List.range m).flatMap vs2).length).toArray).heap[k]? = w.heap[k]? := fun k hk => setRow_other w g k _ hk
      generalize hC : ((List.range m).flatMap vs2 ++ cur.toList.drop ((List.range m).flatMap vs2).length).toArray = C at hrun hnew hoth
      obtain ⟨β', h1, h2⟩ := h.snocM i (n := m) (sz := sz + 1) (row := row2) (w' := w.setRow g C) (b := g) (cur := C) (e := ti.el) ⟨fun k => k = g, ⟨rfl, rfl, rfl, by rw [(setRow_os w g C).2.2.2]; exact Nat.le_refl _, fun k _ hk => hoth k hk⟩, fun b hb => hb ▸ hbd⟩
        (fun ad v hv => (World.cell?_of_block (hoth _ (fun c => by rw [hhid ad c] at hv; cases hv))).trans (h.wld.sub ad v hv))
        (fun k b' hk hki hb' => by
          have hne : b' ≠ g := fun e' => hki (h.reg.dis k i b' hk (.inl ⟨_, _, _, hR⟩) hb' (e' ▸ hbi))
          exact ⟨hoth b' hne, hne⟩) hbd hnew (by rw [← hC, List.size_toArray, List.length_append, fl]; omega) hhid (rows C (fun j q hj hq => by rw [← hC]; exact flat_at (fun j hj => (hr2.len j hj).2) hj hq))
      exact ⟨_, _, β', run (by rw [e1, hxe]; exact hrun), h1, Rep.msl_of (n := m) (sz := sz + 1) (row := row2) (by rw [List.getElem?_append_right (by simp)]; simp) h2 (by omega)⟩
    · have hrun := run_append_grow (P := P) w t o.type ti.el inf z hu hinf q3 ⟨g, 0, none⟩ 0 cap [] (by simp) (fun q y hq => by simp at hq) ad2 m c2 _ (by rw [hsize]; exact fl) hnews (by omega) (by omega) (growslice_fits (by omega) (by rw [q2, Nat.zero_add]; exact hb.2))
      have hge := grownCap_ge w (0 + m) cap ti.el
      obtain ⟨β', h1, h2⟩ := newb w.drew (([] : List Value).toArray ++ ((List.range m).flatMap vs2).toArray ++ Builtin.zeroCells z.cells (grownCap w (0 + m) cap ti.el - (0 + m))) (grownCap w (0 + m) cap ti.el) rfl hdrew (by rw [Array.size_append, Array.size_append, List.size_toArray, List.size_toArray, fl]; omega) (by omega) (fun j q hj hq => by
        rw [show (([] : List Value).toArray ++ ((List.range m).flatMap vs2).toArray : Array Value) = ((List.range m).flatMap vs2).toArray by simp]
        exact flat_front (fun j hj => (hr2.len j hj).2) hj hq)
      rw [Nat.zero_add] at hrun h1 h2
      exact ⟨_, _, β', run (by rw [e1, hxe]; exact hrun), h1, h2⟩
theorem RefL.rfl' : ∀ l : List AV, RefL l l
  | [] => .nil
  | a :: l => .cons (Ref.rfl' a) (RefL.rfl' l)
theorem store_runW (hT : TyOK P tys) (h : Fits G E N w V β R fr a) {o : Oper} {t : TypeId} {p x : Operand} {ti : TI} {r : Nat} {j k : Nat} {c : List AV} (hop : o.op = .store t p x) (hp : look G fr p = .loc r j k) (hR : R[r]? = some (.mat n sz row)) (hj : j < n) (hi : ty tys t = some ti) (hc : cellsA (look G fr x) = some c) (hs : c.length = ti.size) (hk : k + c.length ≤ (row j).length) (hrow : ∀ t, t < n → setR n row j ((row j).take k ++ (c ++ (row j).drop (k + c.length))) t = row' t) :
    ∃ w', (execOp a.eval o).run P w = .ok .skip w' ∧ Fits G E N w' V β (R.set r (.mat n sz row')) fr a := by
  obtain ⟨w', hrun, hf⟩ := store_run hT h hop hp hR hj hi hc hs hk
  have h2 := hf.weak (row' := row') (List.getElem?_set_self (List.getElem?_eq_some_iff.1 hR).1) (fun t ht => by rw [hrow t ht]; exact RefL.rfl' _)
  rw [List.set_set] at h2
  exact ⟨w', hrun, h2⟩
end
end Go.Proofs.Ytdcabfonjmeajaa.Abs
set_option linter.unusedVariables false
set_option linter.unusedSimpArgs false
namespace Go.Proofs.Ytdcabfonjmeajaa.Abs
open Go.RowKit
/-- Is an operation wanted? -/
def wantA (ops : Array Oper) (fr : Fr) (o : Oper) : Option Bool :=
  match o.guard with
  | none => some true
  | some (j, b) => match (ops[j]?).bind (·.dst) with
    | some d => match fr d with
      | .imm (.bool c) => some (c == b)
      | .imm (.tuple ⟨[]⟩) => some false
      | _ => none
    | none => none
/-- The arguments of a call, as its contract has them. -/
inductive ArgsOK : List AV → List AV → Prop
  | nil : ArgsOK [] []
  | same {a : AV} {l r : List AV} (h : rf a = true) (t : ArgsOK l r) : ArgsOK (a :: l) (a :: r)
  | ref {a x : AV} {l r : List AV} (h : Ref a x) (hx : rf x = true) (t : ArgsOK l r) : ArgsOK (a :: l) (x :: r)
theorem ArgsOK.len : ∀ {l r : List AV}, ArgsOK l r → l.length = r.length
  | _, _, .nil => rfl
  | _, _, .same _ t => by rw [List.length_cons, List.length_cons, t.len]
  | _, _, .ref _ _ t => by rw [List.length_cons, List.length_cons, t.len]
theorem ArgsOK.rep {w : World} {V : View} {β : Bnd} {R : List Reg} : ∀ {l r : List AV} {vs : List Value}, ArgsOK l r → (∀ (i : Nat) (a : AV) (v : Value), l[i]? = some a → vs[i]? = some v → Rep w V β R a v) → ∀ (i : Nat) (a : AV) (v : Value), r[i]? = some a → vs[i]? = some v → Rep0 V a v
  | _, _, vs, .nil, _, i, a, v, h1, _ => by simp at h1
  | _, _, [], .same _ _, _, i, a, v, _, h2 => by simp at h2
  | _, _, [], .ref _ _ _, _, i, a, v, _, h2 => by simp at h2
  | _, _, u :: vs, .same h t, hr, i, a, v, h1, h2 => by
    cases i with
    | zero => simp at h1; subst h1; exact (hr 0 _ v rfl h2).rf h
    | succ i => exact t.rep (vs := vs) (fun i a v p q => hr (i + 1) a v (by simpa using p) (by simpa using q)) i a v (by simpa using h1) (by simpa using h2)
  | _, _, u :: vs, .ref h hx t, hr, i, a, v, h1, h2 => by
    cases i with
    | zero => simp at h1; subst h1; exact (h _ _ _ _ _ (hr 0 _ v rfl h2)).rf hx
    | succ i => exact t.rep (vs := vs) (fun i a v p q => hr (i + 1) a v (by simpa using p) (by simpa using q)) i a v (by simpa using h1) (by simpa using h2)
/-- Which way a new variable or literal is told, by its temporary: 0: its cells stay; 1: it may be appended to; 2: it may be written. -/
abbrev Way := Nat → Nat
abbrev Kont := Fr → List Reg → Prop
/-- A region's operations, one by one, in the order of the text. -/
inductive ROps (P : Program) (tys : Tys) (G : Glo) (N : Nat) (ops : Array Oper) (K : Kont) : List Oper → Fr → List Reg → Prop
  | nil {fr : Fr} {R : List Reg} (h : K fr R) : ROps P tys G N ops K [] fr R
  | off {o : Oper} {d : Tmp} {rest : List Oper} {fr : Fr} {R : List Reg} (hw : wantA ops fr o = some false) (hdst : o.dst = some d) (hd : Nat.blt d N = true) (h : ROps P tys G N ops K rest (upd fr d (.imm (.tuple ⟨[]⟩))) R) : ROps P tys G N ops K (o :: rest) fr R
  | pure {o : Oper} {d : Tmp} {rest : List Oper} {fr : Fr} {R : List Reg} {x : AV} (hop : opA tys G fr R o.op = some x) (hw : wantA ops fr o = some true) (hdst : o.dst = some d) (hd : Nat.blt d N = true) (h : ROps P tys G N ops K rest (upd fr d x) R) : ROps P tys G N ops K (o :: rest) fr R
  | val {o : Oper} {d : Tmp} {rest : List Oper} {fr : Fr} {R : List Reg} {x : AV} (hop : ValA tys G fr o.op x) (hw : wantA ops fr o = some true) (hdst : o.dst = some d) (hd : Nat.blt d N = true) (h : ROps P tys G N ops K rest (upd fr d x) R) : ROps P tys G N ops K (o :: rest) fr R
  | cmp {o : Oper} {d : Tmp} {rest : List Oper} {fr : Fr} {R : List Reg} (p : Prop) (hop : CmpA G fr o.op p) (hw : wantA ops fr o = some true) (hdst : o.dst = some d) (hd : Nat.blt d N = true) (ht : p → ROps P tys G N ops K rest (upd fr d (.imm (.bool true))) R) (hf : ¬ p → ROps P tys G N ops K rest (upd fr d (.imm (.bool false))) R) : ROps P tys G N ops K (o :: rest) fr R
  | idx {o : Oper} {d : Tmp} {rest : List Oper} {fr : Fr} {R : List Reg} {t : TypeId} {x i : Operand} {n sz : Nat} {row : Nat → List AV} {k : IntKind} {j : Int} (hop : o.op = .indexAddr t x i) (hx : slV (look G fr x) = some (n, sz + 1, row)) (hi : look G fr i = .imm (.int k j)) (he : elemA tys t = sz + 1) (hw : wantA ops fr o = some true) (hdst : o.dst = some d) (hd : Nat.blt d N = true) (h0 : 0 ≤ j) (h1 : j < (n : Int))
      (h : ROps P tys G N ops K rest (upd fr d (.ptr (row j.toNat))) R) : ROps P tys G N ops K (o :: rest) fr R
  | idxM {o : Oper} {d : Tmp} {rest : List Oper} {fr : Fr} {R : List Reg} {t : TypeId} {x i : Operand} {r n sz : Nat} {row : Nat → List AV} {k : IntKind} {j : Int} (hop : o.op = .indexAddr t x i) (hx : look G fr x = .msl r) (hR : R[r]? = some (.mat n (sz + 1) row)) (hi : look G fr i = .imm (.int k j)) (he : elemA tys t = sz + 1) (hw : wantA ops fr o = some true) (hdst : o.dst = some d) (hd : Nat.blt d N = true) (h0 : 0 ≤ j) (h1 : j < (n : Int))
      (h : ROps P tys G N ops K rest (upd fr d (.loc r j.toNat 0)) R) : ROps P tys G N ops K (o :: rest) fr R
  | call {o : Oper} {d : Tmp} {rest : List Oper} {fr : Fr} {R : List Reg} {f : FuncId} {as : List Operand} {ts : Array TypeId} {args : List AV} {x : AV} (hop : o.op = .call ⟨.value (.func f), ⟨as⟩, ts⟩) (hc : CallOK P G f args x) (ha : ArgsOK (as.map (look G fr)) args) (hw : wantA ops fr o = some true) (hdst : o.dst = some d) (hd : Nat.blt d N = true) (h : ROps P tys G N ops K rest (upd fr d x) R) : ROps P tys G N ops K (o :: rest) fr R
  | callv {o : Oper} {d : Tmp} {rest : List Oper} {fr : Fr} {R : List Reg} {f : FuncId} {q : Operand} {cs : List AV} {as : List Operand} {ts : Array TypeId} {args : List AV} {x : AV} (hop : o.op = .call ⟨.value q, ⟨as⟩, ts⟩) (hq : look G fr q = .fn f cs) (hc : CallOK P G f args x) (ha : ArgsOK (as.map (look G fr) ++ cs) args) (hw : wantA ops fr o = some true) (hdst : o.dst = some d) (hd : Nat.blt d N = true) (h : ROps P tys G N ops K rest (upd fr d x) R) : ROps P tys G N ops K (o :: rest) fr R
  | callM {o : Oper} {d : Tmp} {rest : List Oper} {fr : Fr} {R Rn Ri Ro : List Reg} {f : FuncId} {as : List Operand} {ts : Array TypeId} {args : List AV} {x y : AV} (sl : List Nat) (hop : o.op = .call ⟨.value (.func f), ⟨as⟩, ts⟩) (hc : CallM P G f args Ri x Ro) (hh : HandsL (sigma sl R.length) R sl Ri) (hn : nodupB sl = true) (ha : ArgsM Ri.length (sigma sl R.length) (as.map (look G fr)) args) (hRn : putR (sigma sl R.length) 0 sl Ro R = Rn) (hx : renA (sigma sl R.length) x = y)
      (hw : wantA ops fr o = some true) (hdst : o.dst = some d) (hd : Nat.blt d N = true) (h : ROps P tys G N ops K rest (upd fr d y) Rn) : ROps P tys G N ops K (o :: rest) fr R
  | callMv {o : Oper} {d : Tmp} {rest : List Oper} {fr : Fr} {R Rn Ri Ro : List Reg} {f : FuncId} {q : Operand} {cs : List AV} {as : List Operand} {ts : Array TypeId} {args : List AV} {x y : AV} (sl : List Nat) (hop : o.op = .call ⟨.value q, ⟨as⟩, ts⟩) (hq : look G fr q = .fn f cs) (hc : CallM P G f args Ri x Ro) (hh : HandsL (sigma sl R.length) R sl Ri) (hn : nodupB sl = true) (ha : ArgsM Ri.length (sigma sl R.length) (as.map (look G fr) ++ cs) args) (hRn : putR (sigma sl R.length) 0 sl Ro R = Rn) (hx : renA (sigma sl R.length) x = y)
      (hw : wantA ops fr o = some true) (hdst : o.dst = some d) (hd : Nat.blt d N = true) (h : ROps P tys G N ops K rest (upd fr d y) Rn) : ROps P tys G N ops K (o :: rest) fr R
  | frz {rest : List Oper} {fr : Fr} {R R' : List Reg} {n sz : Nat} {row : Nat → List AV} (i : Nat) (row' : Nat → List AV) (hR : R[i]? = some (.mat n sz row)) (hrow : ∀ j, j < n → RefL (row j) (row' j)) (hrf : ∀ j, j < n → rf.rfL (row' j) = true) (hR' : thR i n sz row' R = R') (h : ROps P tys G N ops K rest (fun t => thA i n sz row' (fr t)) R') : ROps P tys G N ops K rest fr R
  | litM {o : Oper} {d : Tmp} {rest : List Oper} {fr : Fr} {R Rn : List Reg} {t : TypeId} {ti : TI} {len sz : Nat} {parts : List (Nat × Operand)} {l : List AV} {row : Nat → List AV} (hop : o.op = .buildSlice t len ⟨parts⟩) (hti : ty tys t = some ti) (hsz : ti.elem = sz + 1) (hl : litA (sz + 1) len (parts.map (fun p => (p.1, look G fr p.2))) = some l) (hb : Nat.ble (len * (sz + 1)) 16777216 = true) (hrow : ∀ j, j < len → litR (sz + 1) l j = row j) (hR' : R ++ [.mat len (sz + 1) row] = Rn)
      (hw : wantA ops fr o = some true) (hdst : o.dst = some d) (hd : Nat.blt d N = true) (h : ROps P tys G N ops K rest (upd fr d (.msl R.length)) Rn) : ROps P tys G N ops K (o :: rest) fr R
  | appM {o : Oper} {d : Tmp} {rest : List Oper} {fr : Fr} {R Rn : List Reg} {t : TypeId} {s x : Operand} {ti : TI} {i m sz : Nat} {row0 row2 : Nat → List AV} (hop : o.op = .call ⟨.builtin .append, ⟨[s, x]⟩, ⟨[t, t]⟩⟩) (hti : ty tys t = some ti) (hsz : ti.elem = sz + 1) (hs : look G fr s = .own i 0 (sz + 1) row0) (hR : R[i]? = some (.arr ti.el (sz + 1) 0)) (hx : slV (look G fr x) = some (m, sz + 1, row2)) (hm : 0 < m) (hb : m ≤ maxLen ∧ m * ti.eby ≤ 140737488355328) (hR' : (R.set i .dead) ++ [.mat m (sz + 1) row2] = Rn)
      (hw : wantA ops fr o = some true) (hdst : o.dst = some d) (hd : Nat.blt d N = true) (h : ROps P tys G N ops K rest (upd fr d (.msl R.length)) Rn) : ROps P tys G N ops K (o :: rest) fr R
  | box {o : Oper} {d : Tmp} {rest : List Oper} {fr : Fr} {R : List Reg} {t : TypeId} {x : Operand} {l : List AV} (hop : o.op = .box t x) (hx : cellsA (look G fr x) = some l) (hrf : rf.rfL l = true) (hw : wantA ops fr o = some true) (hdst : o.dst = some d) (hd : Nat.blt d N = true) (h : ROps P tys G N ops K rest (upd fr d (.ptr l)) R) : ROps P tys G N ops K (o :: rest) fr R
  | boxM {o : Oper} {d : Tmp} {rest : List Oper} {fr : Fr} {R : List Reg} {t : TypeId} {x : Operand} {l : List AV} {n : Nat} (hop : o.op = .box t x) (hx : cellsA (look G fr x) = some l) (hn : l.length = n) (hw : wantA ops fr o = some true) (hdst : o.dst = some d) (hd : Nat.blt d N = true) (h : ROps P tys G N ops K rest (upd fr d (.loc R.length 0 0)) (R ++ [.mat 1 n (fun _ => l)])) : ROps P tys G N ops K (o :: rest) fr R
  | alloc {o : Oper} {d : Tmp} {rest : List Oper} {fr : Fr} {R : List Reg} {t : TypeId} {i : TI} {z : Value} {zs : List Value} {n : Nat} (hop : o.op = .alloc t) (hi : ty tys t = some i) (hz : i.zero = z :: zs) (hn : (z :: zs).length = n) (hw : wantA ops fr o = some true) (hdst : o.dst = some d) (hd : Nat.blt d N = true) (h : ROps P tys G N ops K rest (upd fr d (.loc R.length 0 0)) (R ++ [.mat 1 n (fun _ => (z :: zs).map .imm)])) : ROps P tys G N ops K (o :: rest) fr R
  | storeW {o : Oper} {rest : List Oper} {fr : Fr} {R R' : List Reg} {t : TypeId} {p x : Operand} {i : TI} {r n sz : Nat} {row row' : Nat → List AV} {j k : Nat} {c : List AV} (hop : o.op = .store t p x) (hp : look G fr p = .loc r j k) (hR : R[r]? = some (.mat n sz row)) (hj : j < n) (hi : ty tys t = some i) (hc : cellsA (look G fr x) = some c) (hs : c.length = i.size) (hk : k + c.length ≤ (row j).length) (hrow : ∀ t, t < n → setR n row j ((row j).take k ++ (c ++ (row j).drop (k + c.length))) t = row' t) (hR' : R.set r (.mat n sz row') = R') (hw : wantA ops fr o = some true) (hdst : o.dst = none)
      (h : ROps P tys G N ops K rest fr R') : ROps P tys G N ops K (o :: rest) fr R
  | store {o : Oper} {rest : List Oper} {fr : Fr} {R R' : List Reg} {t : TypeId} {p x : Operand} {i : TI} {r n sz : Nat} {row : Nat → List AV} {j k : Nat} {c l l' : List AV} (hop : o.op = .store t p x) (hp : look G fr p = .loc r j k) (hR : R[r]? = some (.mat n sz row)) (hj : Nat.blt j n = true) (hi : ty tys t = some i) (hc : cellsA (look G fr x) = some c) (hs : Nat.beq c.length i.size = true) (hl : row j = l) (hk : Nat.ble (k + c.length) l.length = true) (hl' : l.take k ++ (c ++ l.drop (k + c.length)) = l') (hR' : R.set r (.mat n sz (setR n row j l')) = R') (hw : wantA ops fr o = some true) (hdst : o.dst = none)
      (h : ROps P tys G N ops K rest fr R') : ROps P tys G N ops K (o :: rest) fr R
  | app {o : Oper} {d : Tmp} {rest : List Oper} {fr : Fr} {R R' : List Reg} {t : TypeId} {s x : Operand} {ti : TI} {i n m sz : Nat} {row row2 : Nat → List AV} (hop : o.op = .call ⟨.builtin .append, ⟨[s, x]⟩, ⟨[t, t]⟩⟩) (hti : ty tys t = some ti) (hsz : ti.elem = sz + 1) (hs : look G fr s = .own i n (sz + 1) row) (hR : R[i]? = some (.arr ti.el (sz + 1) n)) (hx : slV (look G fr x) = some (m, sz + 1, row2)) (hb : n + m ≤ maxLen ∧ (n + m) * ti.eby ≤ 140737488355328) (hR' : (R.set i .dead) ++ [.arr ti.el (sz + 1) (n + m)] = R')
      (hw : wantA ops fr o = some true) (hdst : o.dst = some d) (hd : Nat.blt d N = true) (h : ROps P tys G N ops K rest (upd fr d (.own R.length (n + m) (sz + 1) (appR n row row2))) R') : ROps P tys G N ops K (o :: rest) fr R
  | appN {o : Oper} {d : Tmp} {rest : List Oper} {fr : Fr} {R : List Reg} {t : TypeId} {s x : Operand} {ti : TI} {m sz : Nat} {row2 : Nat → List AV} (hop : o.op = .call ⟨.builtin .append, ⟨[s, x]⟩, ⟨[t, t]⟩⟩) (hti : ty tys t = some ti) (hsz : ti.elem = sz + 1) (hs : look G fr s = .imm (.slice none 0 0)) (hx : slV (look G fr x) = some (m, sz + 1, row2)) (hb : m ≤ maxLen ∧ m * ti.eby ≤ 140737488355328)
      (hw : wantA ops fr o = some true) (hdst : o.dst = some d) (hd : Nat.blt d N = true) (h : ROps P tys G N ops K rest (upd fr d (.own R.length m (sz + 1) row2)) (R ++ [.arr ti.el (sz + 1) m])) : ROps P tys G N ops K (o :: rest) fr R
  | lit {o : Oper} {d : Tmp} {rest : List Oper} {fr : Fr} {R : List Reg} {t : TypeId} {ti : TI} {len sz : Nat} {parts : List (Nat × Operand)} {l : List AV} (hop : o.op = .buildSlice t len ⟨parts⟩) (hti : ty tys t = some ti) (hsz : ti.elem = sz + 1) (hl : litA (sz + 1) len (parts.map (fun p => (p.1, look G fr p.2))) = some l) (hrf : rf.rfL l = true) (hb : Nat.ble (len * (sz + 1)) 16777216 = true)
      (hw : wantA ops fr o = some true) (hdst : o.dst = some d) (hd : Nat.blt d N = true) (h : ROps P tys G N ops K rest (upd fr d (.sl len (sz + 1) (litR (sz + 1) l))) R) : ROps P tys G N ops K (o :: rest) fr R
  | litO {o : Oper} {d : Tmp} {rest : List Oper} {fr : Fr} {R : List Reg} {t : TypeId} {ti : TI} {len sz : Nat} {parts : List (Nat × Operand)} {l : List AV} (hop : o.op = .buildSlice t len ⟨parts⟩) (hti : ty tys t = some ti) (hsz : ti.elem = sz + 1) (hl : litA (sz + 1) len (parts.map (fun p => (p.1, look G fr p.2))) = some l) (hrf : rf.rfL l = true) (hb : Nat.ble (len * (sz + 1)) 16777216 = true)
      (hw : wantA ops fr o = some true) (hdst : o.dst = some d) (hd : Nat.blt d N = true) (h : ROps P tys G N ops K rest (upd fr d (.own R.length len (sz + 1) (litR (sz + 1) l))) (R ++ [.arr ti.el (sz + 1) len])) : ROps P tys G N ops K (o :: rest) fr R
end Go.Proofs.Ytdcabfonjmeajaa.Abs
set_option linter.unusedVariables false
set_option linter.unusedSimpArgs false
namespace Go.Proofs.Ytdcabfonjmeajaa.Abs
open Go.RowKit
section
variable {P : Program} {tys : Tys} {G : Glo} {E : Ent} {N : Nat} {w : World} {V : View} {β : Bnd} {R : List Reg} {fr : Fr} {a : Act} {ops : Array Oper} {K : Kont}
theorem getD_bool {a : Act} {d : Nat} {b : Bool} (h : a.tmps.getD d undef = .bool b) : a.tmps[d]? = some (.bool b) := by
  rw [Array.getD_eq_getD_getElem?] at h
  cases e : a.tmps[d]? with
  | none => rw [e] at h; cases h
  | some v => rw [e] at h; simp at h; rw [h]
theorem want_of (h : Fits G E N w V β R fr a) {o : Oper} {b : Bool} (hw : wantA ops fr o = some b) : Region.wanted o (yielded ops a.tmps) = b := by
  unfold wantA at hw
  unfold Region.wanted
  cases hg : o.guard with
  | none => rw [hg] at hw; injection hw with hw
  | some jb =>
    obtain ⟨j, c⟩ := jb
    rw [hg] at hw
    simp only at hw ⊢
    cases hj : (ops[j]?).bind (·.dst) with
    | none => rw [hj] at hw; cases hw
    | some d =>
      rw [hj] at hw
      simp only at hw
      split at hw
      · rename_i c2 hv
        have hr := h.frm.rep d; rw [hv] at hr
        have := getD_bool hr.imm_inv
        injection hw with hw
        unfold yielded
        rw [hj, Option.bind_some, this]
        simp only
        rw [← hw]
        cases c2 <;> cases c <;> rfl
      · rename_i hv
        have hr := h.frm.rep d; rw [hv] at hr
        have hr := hr.imm_inv
        injection hw with hw
        rw [Array.getD_eq_getD_getElem?] at hr
        unfold yielded
        rw [hj, Option.bind_some]
        rw [← hw]
        cases e : a.tmps[d]? with
        | none => rfl
        | some v =>
          rw [e] at hr
          have hr : v = .tuple ⟨[]⟩ := hr
          subst hr
          rfl
      · cases hw
theorem wpList_val {l : List Oper} {o : Oper} {v : Value} {w' : World} {Q : Exit → Act → World → Prop} (hw : Region.wanted o (yielded ops a.tmps) = true) (hr : (execOp a.eval o).run P w = .ok (.value v) w') (h : wpList P ops Q l (a.put o.dst v) w') : wpList P ops Q (o :: l) a w := by
  unfold wpList
  rw [if_pos hw]
  refine .inl ?_
  unfold Oper.wp
  rw [hr]
  exact h
theorem wpList_skip {l : List Oper} {o : Oper} {w' : World} {Q : Exit → Act → World → Prop} (hw : Region.wanted o (yielded ops a.tmps) = true) (hr : (execOp a.eval o).run P w = .ok .skip w') (h : wpList P ops Q l (a.put o.dst undef) w') : wpList P ops Q (o :: l) a w := by
  unfold wpList
  rw [if_pos hw]
  refine .inl ?_
  unfold Oper.wp
  rw [hr]
  exact h
theorem wpList_call {l : List Oper} {o : Oper} {f : FuncId} {vs : List Value} {args : List AV} {x : AV} {d : Tmp} {Q : Exit → Act → World → Prop} (h : Fits G E N w V β R fr a) (hw : Region.wanted o (yielded ops a.tmps) = true) (hr : (execOp a.eval o).run P w = .ok (.enter f vs.toArray) w) (hc : CallOK P G f args x) (hl : vs.length = args.length) (hv : ∀ (i : Nat) (a : AV) (v : Value), args[i]? = some a → vs[i]? = some v → Rep0 V a v) (hdst : o.dst = some d) (hd : Nat.blt d N = true)
    (hn : ∀ w' V' a', Fits G E N w' V' β R (upd fr d x) a' → wpList P ops Q l a' w') : wpList P ops Q (o :: l) a w := by
  unfold wpList
  rw [if_pos hw]
  refine .inl ?_
  unfold Oper.wp
  rw [hr, Oper.upon_enter]
  refine (hc.run w V vs h.wld.sub h.glo hl hv).mono ?_
  rintro e w' ⟨v, V', rfl, hg, hx⟩
  rw [hdst]
  exact hn w' V' _ ((h.grow hg).put (d := some d) hd (.st hx))
theorem hR_of {β : Bnd} {R Ri : List Reg} {sl : List Nat} (hh : Hands sl R Ri) : ∀ i r, Ri[i]? = some r → R[sigma sl R.length i]? = some (renR (sigma sl R.length) r) ∧ dnB β sl R.length Ri.length i = β (sigma sl R.length i) := fun i r hr => ⟨hh.at_ hr, dnB_lt (List.getElem?_eq_some_iff.1 hr).1⟩
theorem wpList_callM {l : List Oper} {o : Oper} {f : FuncId} {vs : List Value} {args : List AV} {x : AV} {d : Tmp} {Ri Ro Rn : List Reg} {sl : List Nat} {Q : Exit → Act → World → Prop} (h : Fits G E N w V β R fr a) (hw : Region.wanted o (yielded ops a.tmps) = true) (hr : (execOp a.eval o).run P w = .ok (.enter f vs.toArray) w) (hc : CallM P G f args Ri x Ro) (hh : Hands sl R Ri) (hl : vs.length = args.length) (hv : ∀ (i : Nat) (a : AV) (v : Value), args[i]? = some a → vs[i]? = some v → Rep w V (dnB β sl R.length Ri.length) Ri a v) (hRn : putR (sigma sl R.length) 0 sl Ro R = Rn) (hdst : o.dst = some d) (hd : Nat.blt d N = true)
    (hn : ∀ w' V' β' a', Fits G E N w' V' β' Rn (upd fr d (renA (sigma sl R.length) x)) a' → wpList P ops Q l a' w') : wpList P ops Q (o :: l) a w := by
  unfold wpList
  rw [if_pos hw]
  refine .inl ?_
  unfold Oper.wp
  rw [hr, Oper.upon_enter]
  refine (hc.run w V (dnB β sl R.length Ri.length) vs h.wld.sub h.glo (hh.down h.reg hc.bd) hl hv).mono ?_
  rintro e w' ⟨v, V', β', rfl, h1, h2, h3, h4, h5, h6, h7⟩
  obtain ⟨βn, hf, hx⟩ := h.callM hh hc.same h1 h2 h3 h4 h5 h6 h7 hRn
  rw [hdst]
  exact hn w' V' βn _ (hf.put (d := some d) hd hx)
theorem ty_el (hT : TyOK P tys) {t : TypeId} {ti : TI} (hi : ty tys t = some ti) {sz : Nat} (he : ti.elem = sz + 1) : ∃ inf z, P.underlying t = some (.slice ti.el) ∧ P.info? ti.el = some inf ∧ inf.size = ti.elem ∧ inf.bytes = ti.eby ∧ inf.zero = some z ∧ z.cells.size = ti.elem ∧ ∀ v ∈ z.cells.toList, v.oneCell' = true := ty_sl (hT t ti hi) (by omega)
/-- A region that doesn't draw its order. -/
theorem ROps.list (hT : TyOK P tys) {l : List Oper} (h : ROps P tys G N ops K l fr R) {Q : Exit → Act → World → Prop} : ∀ (w : World) (V : View) (β : Bnd) (a : Act), Fits G E N w V β R fr a → (∀ w' V' β' fr' R' a', Fits G E N w' V' β' R' fr' a' → K fr' R' → Q .normal a' w') → wpList P ops Q l a w := by
  induction h with
  | nil h => intro w V β a hf hQ; exact hQ w V β _ _ a hf h
  | @off o d rest fr R hw hdst hd h ih =>
    intro w V β a hf hQ
    have hd2 : dstOK N o.dst = true := by rw [hdst]; exact hd
    have hdu : ∀ x, upd fr d x = updO fr o.dst x := fun x => by rw [hdst]; rfl
    simp only [hdu] at ih
    have := want_of hf hw
    unfold wpList
    rw [this]
    exact ih w V β _ (hf.put hd2 (.st (.imm _))) hQ
  | @pure o d rest fr R x hop hw hdst hd h ih =>
    intro w V β a hf hQ
    have hd2 : dstOK N o.dst = true := by rw [hdst]; exact hd
    have hdu : ∀ x, upd fr d x = updO fr o.dst x := fun x => by rw [hdst]; rfl
    simp only [hdu] at ih
    obtain ⟨v, hv, hrun⟩ := opA_run hT hf o hop
    exact wpList_val (want_of hf hw) hrun (ih w V β _ (hf.put hd2 hv) hQ)
  | @val o d rest fr R x hop hw hdst hd h ih =>
    intro w V β a hf hQ
    have hd2 : dstOK N o.dst = true := by rw [hdst]; exact hd
    have hdu : ∀ x, upd fr d x = updO fr o.dst x := fun x => by rw [hdst]; rfl
    simp only [hdu] at ih
    obtain ⟨v, hv, hrun⟩ := val_run hT hf hop
    exact wpList_val (want_of hf hw) hrun (ih w V β _ (hf.put hd2 hv) hQ)
  | @cmp o d rest fr R p hop hw hdst hd ht hf' iht ihf =>
    intro w V β a hf hQ
    have hd2 : dstOK N o.dst = true := by rw [hdst]; exact hd
    have hdu : ∀ x, upd fr d x = updO fr o.dst x := fun x => by rw [hdst]; rfl
    simp only [hdu] at iht ihf
    obtain ⟨b, hb, hrun⟩ := cmp_run (P := P) hf hop
    refine wpList_val (want_of hf hw) hrun ?_
    cases b with
    | true => exact iht (hb.1 rfl) w V β _ (hf.put hd2 (.st (.imm _))) hQ
    | false => exact ihf (fun hp => by have := hb.2 hp; cases this) w V β _ (hf.put hd2 (.st (.imm _))) hQ
  | @idx o d rest fr R t x i n sz row k j hop hx hi he hw hdst hd h0 h1 h ih =>
    intro w V β a hf hQ
    have hd2 : dstOK N o.dst = true := by rw [hdst]; exact hd
    have hdu : ∀ x, upd fr d x = updO fr o.dst x := fun x => by rw [hdst]; rfl
    simp only [hdu] at ih
    obtain ⟨v, hv, hrun⟩ := idx_run hT hf hop hx hi he h0 h1
    exact wpList_val (want_of hf hw) hrun (ih w V β _ (hf.put hd2 hv) hQ)
  | @idxM o d rest fr R t x i r n sz row k j hop hx hR hi he hw hdst hd h0 h1 h ih =>
    intro w V β a hf hQ
    have hd2 : dstOK N o.dst = true := by rw [hdst]; exact hd
    have hdu : ∀ x, upd fr d x = updO fr o.dst x := fun x => by rw [hdst]; rfl
    simp only [hdu] at ih
    obtain ⟨v, hv, hrun⟩ := idxM_run hT hf hop hx hR hi he h0 h1
    exact wpList_val (want_of hf hw) hrun (ih w V β _ (hf.put hd2 hv) hQ)
  | @call o d rest fr R f as ts args x hop hc ha hw hdst hd h ih =>
    intro w V β a hf hQ
    exact wpList_call hf (want_of hf hw) (call_run hop hc.ent) hc (by rw [← ha.len, List.length_map, List.length_map]) (ha.rep (list_rep hf as)) hdst hd (fun w' V' a' hf' => ih w' V' β a' hf' hQ)
  | @callv o d rest fr R f q cs as ts args x hop hq hc ha hw hdst hd h ih =>
    intro w V β a hf hQ
    have hrq := look_rep hf q
    rw [hq] at hrq
    obtain ⟨us, e, hl, hr⟩ := hrq.fn_inv
    refine wpList_call hf (want_of hf hw) (callv_run hop e hc.ent) hc (by rw [← ha.len, List.length_append, List.length_append, List.length_map, List.length_map, hl]) (ha.rep (w := w) (β := β) (R := R) (fun i x v h1 h2 => ?_)) hdst hd (fun w' V' a' hf' => ih w' V' β a' hf' hQ)
    by_cases c : i < as.length
    · rw [List.getElem?_append_left (by simpa using c)] at h1 h2
      exact list_rep hf as i x v h1 h2
    · rw [List.getElem?_append_right (by simp; omega)] at h1 h2
      simp only [List.length_map] at h1 h2
      exact hr _ x v h1 h2
  | @callM o d rest fr R Rn Ri Ro f as ts args x y sl hop hc hh hn ha hRn hx hw hdst hd h ih =>
    intro w V β a hf hQ
    subst hx
    exact wpList_callM hf (want_of hf hw) (call_run hop hc.ent) hc (hh.hands hn) (by rw [← ha.len, List.length_map, List.length_map]) (ha.rep (hR_of (hh.hands hn)) (list_rep hf as)) hRn hdst hd (fun w' V' β' a' hf' => ih w' V' β' a' hf' hQ)
  | @callMv o d rest fr R Rn Ri Ro f q cs as ts args x y sl hop hq hc hh hn ha hRn hx hw hdst hd h ih =>
    intro w V β a hf hQ
    subst hx
    have hrq := look_rep hf q
    rw [hq] at hrq
    obtain ⟨us, e, hl, hr⟩ := hrq.fn_inv
    refine wpList_callM hf (want_of hf hw) (callv_run hop e hc.ent) hc (hh.hands hn) (by rw [← ha.len, List.length_append, List.length_append, List.length_map, List.length_map, hl]) (ha.rep (w := w) (hR_of (β := β) (hh.hands hn)) (fun i x v h1 h2 => ?_)) hRn hdst hd (fun w' V' β' a' hf' => ih w' V' β' a' hf' hQ)
    by_cases c : i < as.length
    · rw [List.getElem?_append_left (by simpa using c)] at h1 h2
      exact list_rep hf as i x v h1 h2
    · rw [List.getElem?_append_right (by simp; omega)] at h1 h2
      simp only [List.length_map] at h1 h2
      exact hr _ x v h1 h2
  | @frz rest fr R R' n sz row i row' hR hrow hrf hR' h ih =>
    intro w V β a hf hQ
    subst hR'
    obtain ⟨V', hf'⟩ := hf.thawW hR hrow hrf
    exact ih w V' β a hf' hQ
  | @litM o d rest fr R Rn t ti len sz parts l row hop hti hsz hl hb hrow hR' hw hdst hd h ih =>
    intro w V β a hf hQ
    have hd2 : dstOK N o.dst = true := by rw [hdst]; exact hd
    have hdu : ∀ x, upd fr d x = updO fr o.dst x := fun x => by rw [hdst]; rfl
    simp only [hdu] at ih
    subst hR'
    obtain ⟨v, w', β', hrun, h1, h2⟩ := litM_run hT hf hop hti hsz hl hb hrow
    exact wpList_val (want_of hf hw) hrun (ih w' V β' _ (h1.put hd2 h2) hQ)
  | @appM o d rest fr R Rn t s x ti i m sz row0 row2 hop hti hsz hs hR hx hm hb hR' hw hdst hd h ih =>
    intro w V β a hf hQ
    have hd2 : dstOK N o.dst = true := by rw [hdst]; exact hd
    have hdu : ∀ x, upd fr d x = updO fr o.dst x := fun x => by rw [hdst]; rfl
    simp only [hdu] at ih
    subst hR'
    obtain ⟨v, w', β', hrun, h1, h2⟩ := appM_run hT hf hop hti hsz hs hR hx hm hb
    exact wpList_val (want_of hf hw) hrun (ih w' V β' _ (h1.put hd2 h2) hQ)
  | @box o d rest fr R t x l hop hx hrf hw hdst hd h ih =>
    intro w V β a hf hQ
    have hd2 : dstOK N o.dst = true := by rw [hdst]; exact hd
    have hdu : ∀ x, upd fr d x = updO fr o.dst x := fun x => by rw [hdst]; rfl
    simp only [hdu] at ih
    have hc := one_of (look_rep hf x) hx
    obtain ⟨V', h1, h2, _⟩ := hf.box hc hrf t
    refine wpList_val (want_of hf hw) ?_ (ih _ V' β _ (h1.put hd2 h2) hQ)
    simp [execOp, hop, Instr.box, newVar, newRow, newObj]
    rfl
  | @boxM o d rest fr R t x l n hop hx hn hw hdst hd h ih =>
    intro w V β a hf hQ
    have hd2 : dstOK N o.dst = true := by rw [hdst]; exact hd
    have hdu : ∀ x, upd fr d x = updO fr o.dst x := fun x => by rw [hdst]; rfl
    simp only [hdu] at ih
    subst hn
    have hc := one_of (look_rep hf x) hx
    obtain ⟨β', h1, h2, _⟩ := hf.fresh hc t
    refine wpList_val (want_of hf hw) ?_ (ih _ V β' _ (h1.put hd2 h2) hQ)
    simp [execOp, hop, Instr.box, newVar, newRow, newObj]
    rfl
  | @alloc o d rest fr R t i z zs n hop hi hz hn hw hdst hd h ih =>
    intro w V β a hf hQ
    have hd2 : dstOK N o.dst = true := by rw [hdst]; exact hd
    have hdu : ∀ x, upd fr d x = updO fr o.dst x := fun x => by rw [hdst]; rfl
    simp only [hdu] at ih
    subst hn
    obtain ⟨cs, h1, h2, h3⟩ := alloc_run hT hf hi hz
    obtain ⟨β', h4, h5, _⟩ := hf.fresh (RepC.imms (z :: zs) h2) t
    rw [List.length_map] at h4 h5
    have e : (z :: zs).toArray = cs := by rw [← h1]
    rw [e] at h4 h5
    refine wpList_val (want_of hf hw) ?_ (ih _ V β' _ (h4.put hd2 h5) hQ)
    simp [execOp, hop, h3]
  | @storeW o rest fr R R' t p x i r n sz row row' j k c hop hp hR hj hi hc hs hk hrow hR' hw hdst h ih =>
    intro w V β a hf hQ
    subst hR'
    obtain ⟨w', hrun, hf'⟩ := store_runW hT hf hop hp hR hj hi hc hs hk hrow
    refine wpList_skip (want_of hf hw) hrun ?_
    rw [hdst]
    exact ih w' V β _ hf' hQ
  | @store o rest fr R R' t p x i r n sz row j k c l l' hop hp hR hj hi hc hs hl hk hl' hR' hw hdst h ih =>
    intro w V β a hf hQ
    subst hl
    subst hl'
    subst hR'
    obtain ⟨w', hrun, hf'⟩ := store_run hT hf hop hp hR (by simpa [Nat.blt_eq] using hj) hi hc (Nat.eq_of_beq_eq_true hs) (Nat.le_of_ble_eq_true hk)
    refine wpList_skip (want_of hf hw) hrun ?_
    rw [hdst]
    exact ih w' V β _ hf' hQ
  | @app o d rest fr R R' t s x ti i n m sz row row2 hop hti hsz hs hR hx hb hR' hw hdst hd h ih =>
    intro w V β a hf hQ
    have hd2 : dstOK N o.dst = true := by rw [hdst]; exact hd
    have hdu : ∀ x, upd fr d x = updO fr o.dst x := fun x => by rw [hdst]; rfl
    simp only [hdu] at ih
    subst hR'
    obtain ⟨inf, z, hu, hinf, q1, q2, q3, q4, _⟩ := ty_el hT hti hsz
    have hrs := look_rep hf s
    rw [hs] at hrs
    obtain ⟨v', w', V', β', hrun, h1, h2⟩ := appendV_run (ty := o.type) hf hu hinf q3 (q1.trans hsz) q2 (q4.trans hsz) (Nat.succ_pos sz) (row2 := row2) (.inr ⟨hR, hrs⟩) (slV_rep (look_rep hf x) hx) hb.1 hb.2
    refine wpList_val (want_of hf hw) ?_ (ih w' V' β' _ (h1.put hd2 h2) hQ)
    unfold execOp
    simp only [hop, resolve, invoke, builtin, Sem.run_bind, Sem.run_pure, Result.andThen_ok, List.map_toArray, List.map_cons, List.map_nil, hrun]
  | @appN o d rest fr R t s x ti m sz row2 hop hti hsz hs hx hb hw hdst hd h ih =>
    intro w V β a hf hQ
    have hd2 : dstOK N o.dst = true := by rw [hdst]; exact hd
    have hdu : ∀ x, upd fr d x = updO fr o.dst x := fun x => by rw [hdst]; rfl
    simp only [hdu] at ih
    obtain ⟨inf, z, hu, hinf, q1, q2, q3, q4, _⟩ := ty_el hT hti hsz
    have hrs := look_rep hf s
    rw [hs] at hrs
    obtain ⟨v', w', V', β', hrun, h1, h2⟩ := appendV_run (ty := o.type) (i := R.length) (row := row2) hf hu hinf q3 (q1.trans hsz) q2 (q4.trans hsz) (Nat.succ_pos sz) (row2 := row2) (.inl ⟨rfl, hrs.imm_inv⟩) (slV_rep (look_rep hf x) hx) (by omega) (by rw [Nat.zero_add]; exact hb.2)
    have hk : R.set R.length .dead = R := by
      apply List.ext_getElem?
      intro k
      by_cases hkk : k = R.length
      · subst hkk; rw [List.getElem?_eq_none (by simp), List.getElem?_eq_none (by simp)]
      · rw [List.getElem?_set_ne (Ne.symm hkk)]
    rw [hk, Nat.zero_add] at h1 h2
    have h2 : Rep w' V' β' _ (.own R.length m (sz + 1) row2) v' := Ref.orows (fun j hj => by simp [appR]) _ _ _ _ _ h2
    refine wpList_val (want_of hf hw) ?_ (ih w' V' β' _ (h1.put hd2 h2) hQ)
    unfold execOp
    simp only [hop, resolve, invoke, builtin, Sem.run_bind, Sem.run_pure, Result.andThen_ok, List.map_toArray, List.map_cons, List.map_nil, hrun]
  | @lit o d rest fr R t ti len sz parts l hop hti hsz hl hrf hb hw hdst hd h ih =>
    intro w V β a hf hQ
    have hd2 : dstOK N o.dst = true := by rw [hdst]; exact hd
    have hdu : ∀ x, upd fr d x = updO fr o.dst x := fun x => by rw [hdst]; rfl
    simp only [hdu] at ih
    have hb := Nat.le_of_ble_eq_true hb
    rw [← hsz] at hl hb
    obtain ⟨cs, hc, hll, hrun⟩ := lit_run hT hf hti (by omega) hl hb
    have hro := rows_list (by omega) hc hrf hll
    obtain ⟨V', h1, h2, hg⟩ := hf.box hc hrf ti.el
    have hcs : cs.toList.toArray = cs := by simp
    rw [hcs] at h1 h2 hg
    refine wpList_val (want_of hf hw) (v := .slice (some ⟨w.heap.size, 0, none⟩) len len) (w' := w.alloc (.cells cs ti.el)) ?_ (ih _ V' β _ (h1.put hd2 ?_) hQ)
    · unfold execOp
      simp only [hop, Sem.run_bind, Sem.run_pure, Result.andThen_ok, List.map_toArray, hrun]
    · obtain ⟨ad, vs, e1, p1, p2, p3, p4⟩ := h2.ptr_inv.ptr_inv
      injection e1 with e1; injection e1 with e1; subst e1
      rw [← hsz]
      refine .st (.sl len ti.elem _ _ len ⟨w.heap.size, 0, none⟩ (fun j => (vs.drop (j * ti.elem)).take ti.elem) (Nat.le_refl _) (fun _ => rfl) (fun j hj => ⟨(hro.len j hj).1, ?_⟩) (fun j hj v hv => p2 v (List.mem_of_mem_drop (List.mem_of_mem_take hv))) (fun j q v hj hv => ?_) (fun j q x v hj hx hv => ?_))
      · have := mul_lt_of (sz := ti.elem) hj
        rw [List.length_take, List.length_drop, p1, hll]; omega
      · rw [List.getElem?_take] at hv
        split at hv
        · rw [List.getElem?_drop] at hv; exact p3 _ v hv
        · cases hv
      · unfold litR at hx
        rw [List.getElem?_take] at hv hx
        split at hv
        · rename_i hlt
          rw [if_pos hlt, List.getElem?_drop] at hx
          rw [List.getElem?_drop] at hv
          exact p4 _ x v hx hv
        · cases hv
  | @litO o d rest fr R t ti len sz parts l hop hti hsz hl hrf hb hw hdst hd h ih =>
    intro w V β a hf hQ
    have hd2 : dstOK N o.dst = true := by rw [hdst]; exact hd
    have hdu : ∀ x, upd fr d x = updO fr o.dst x := fun x => by rw [hdst]; rfl
    simp only [hdu] at ih
    have hb := Nat.le_of_ble_eq_true hb
    rw [← hsz] at hl hb
    obtain ⟨cs, hc, hll, hrun⟩ := lit_run hT hf hti (by omega) hl hb
    have hro := rows_list (by omega) hc hrf hll
    have hsize : cs.size = len * ti.elem := by rw [← Array.length_toList, hc.len, hll]
    have hlen : len ≤ maxLen := by
      have : len * 1 ≤ len * ti.elem := Nat.mul_le_mul_left _ (by omega)
      simp only [maxLen]; omega
    obtain ⟨V', β', h1, h2⟩ := hf.newOwn R.length (w1 := w) (BelX.refl _ w) rfl (C := cs) (e := ti.el) hro hsize (Nat.le_refl _) hlen (by omega) (fun j q hj hq => by
      rw [List.getElem?_take, if_pos hq, List.getElem?_drop, Array.getElem?_toList])
    have hk : R.set R.length .dead = R := by
      apply List.ext_getElem?
      intro k
      by_cases hkk : k = R.length
      · subst hkk; rw [List.getElem?_eq_none (by simp), List.getElem?_eq_none (by simp)]
      · rw [List.getElem?_set_ne (Ne.symm hkk)]
    rw [hk, hsz] at h1 h2
    refine wpList_val (want_of hf hw) (v := .slice (some ⟨w.heap.size, 0, none⟩) len len) (w' := w.alloc (.cells cs ti.el)) ?_ (ih _ V' β' _ (h1.put hd2 h2) hQ)
    unfold execOp
    simp only [hop, Sem.run_bind, Sem.run_pure, Result.andThen_ok, List.map_toArray, hrun]
end
end Go.Proofs.Ytdcabfonjmeajaa.Abs
set_option linter.unusedVariables false
set_option linter.unusedSimpArgs false
namespace Go.Proofs.Ytdcabfonjmeajaa.Abs
open Go.RowKit
/-- A function's frame: its program, what is known of types and of package-level variables, how many temporaries it has, where its results stand. -/
structure Cx where
  P : Program
  tys : Tys
  G : Glo
  N : Nat
  fn : Func
  rs : List ResultVar
  m : Nat
/-- A part of a code, by the way to it. -/
def cA : Code → Code
  | .seq p _ => p
  | .block _ p => p
  | .loop p => p
  | .cond _ p _ => p
  | .scope p => p
  | c => c
def cB : Code → Code
  | .seq _ q => q
  | .cond _ _ q => q
  | c => c
def cP : Code → List Nat → Code
  | c, [] => c
  | c, 0 :: l => cP (cA c) l
  | c, _ :: l => cP (cB c) l
def bodyOf (f : Func) : Code := match f.body with
  | some p => p
  | none => .skip
abbrev Fin := Ent → World → View → Bnd → List Reg → Value → Prop
/-- What one result comes to. -/
def resA (tys : Tys) (fr : Fr) (R : List Reg) : ResultVar → Option AV
  | .tmp t => some (fr t)
  | .cell p t => match ty tys t with
    | some i => match fr p with
      | .ptr l => loadA l i
      | .loc r j k => match matR R r j with
        | some l => loadA (l.drop k) i
        | none => none
      | _ => none
    | none => none
def resL (tys : Tys) (fr : Fr) (R : List Reg) : List ResultVar → Option (List AV)
  | [] => some []
  | r :: rs => match resA tys fr R r with
    | some x => match resL tys fr R rs with
      | some l => some (x :: l)
      | none => none
    | none => none
def resT : List AV → AV
  | [x] => x
  | l => .tup l
/-- From here on the function answers as Fn says. -/
def Runs (c : Cx) (Fn : Fin) (todo : List Item) (fr : Fr) (R : List Reg) : Prop :=
  ∀ (E : Ent) (w : World) (V : View) (β : Bnd) (a : Act), E.m = c.m → Fits c.G E c.N w V β R fr a → ∀ (b : Frame) (cs : List Frame), ∃ (a' : Act) (w' : World) (V' : View) (β' : Bnd) (R' : List Reg) (v : Value) (k : List Item),
    Steps c.P (lone (b.at a todo) cs w) (lone { b.at a' k with mode := .returning } cs w') ∧ a'.defers = [] ∧ (results c.fn a'.tmps).run c.P w' = .ok v w' ∧ Fn E w' V' β' R' v
/-- What a function answers that turns nothing of what was there. -/
def Pur (x : AV) : Fin := fun E w V _ _ v => Wld E w V ∧ Rep0 V x v
section
variable {c : Cx} {Fn : Fin} {k : List Item} {fr : Fr} {R : List Reg}
theorem Runs.step {t1 t2 : List Item} (h : Runs c Fn t2 fr R) (hs : ∀ (E : Ent) (w : World) (V : View) (β : Bnd) (a : Act) (b : Frame) (cs : List Frame), Fits c.G E c.N w V β R fr a → step c.P (lone (b.at a t1) cs w) = .next (lone (b.at a t2) cs w)) : Runs c Fn t1 fr R := fun E w V β a hm hf b cs =>
  let ⟨a', w', V', β', R', v, k', h1, h2⟩ := h E w V β a hm hf b cs
  ⟨a', w', V', β', R', v, k', .head (hs E w V β a b cs hf) h1, h2⟩
theorem Runs.seq {p q : Code} (h : Runs c Fn (.code p :: .code q :: k) fr R) : Runs c Fn (.code (.seq p q) :: k) fr R := h.step fun _ _ _ _ _ _ _ _ => step_seq
theorem Runs.code_eq {p p' : Code} (e : p = p') (h : Runs c Fn (.code p' :: k) fr R) : Runs c Fn (.code p :: k) fr R := by subst e; exact h
theorem Runs.skip (h : Runs c Fn k fr R) : Runs c Fn (.code .skip :: k) fr R := h.step fun _ _ _ _ _ _ _ _ => step_skip
theorem Runs.label {l : Nat} (h : Runs c Fn k fr R) : Runs c Fn (.code (.label l) :: k) fr R := h.step fun _ _ _ _ _ _ _ _ => step_label
theorem Runs.block {id : Nat} {p : Code} (h : Runs c Fn (.code p :: .inBlock id :: k) fr R) : Runs c Fn (.code (.block id p) :: k) fr R := h.step fun _ _ _ _ _ _ _ _ => step_block
theorem Runs.inBlock {id : Nat} (h : Runs c Fn k fr R) : Runs c Fn (.inBlock id :: k) fr R := h.step fun _ _ _ _ _ _ _ _ => step_inBlock
theorem Runs.scope {p : Code} (h : Runs c Fn (.code p :: .inScope p :: k) fr R) : Runs c Fn (.code (.scope p) :: k) fr R := h.step fun _ _ _ _ a b cs _ => step_lone_go (by simp [stepG, stepG.exec, Frame.at])
theorem Runs.inScope {p : Code} (h : Runs c Fn k fr R) : Runs c Fn (.inScope p :: k) fr R := h.step fun _ _ _ _ a b cs _ => step_lone_go (by simp [stepG, stepG.exec, Frame.at])
theorem Runs.loop {p : Code} (h : Runs c Fn (.code p :: .inLoop p :: k) fr R) : Runs c Fn (.code (.loop p) :: k) fr R := h.step fun _ _ _ _ _ _ _ _ => step_loop
theorem Runs.inLoop {p : Code} (h : Runs c Fn (.code p :: .inLoop p :: k) fr R) : Runs c Fn (.inLoop p :: k) fr R := h.step fun _ _ _ _ _ _ _ _ => step_inLoop
theorem Runs.exit {id : Nat} {k' : List Item} (he : exitTo id k = some k') (h : Runs c Fn k' fr R) : Runs c Fn (.code (.exit id) :: k) fr R := h.step fun _ _ _ _ _ _ _ _ => step_exit he
theorem Runs.cond {o : Operand} {p q : Code} {t : Bool} (ho : look c.G fr o = .imm (.bool t)) (h : Runs c Fn (.code (match t with | true => p | false => q) :: k) fr R) : Runs c Fn (.code (.cond o p q) :: k) fr R := by
  refine h.step fun E w V β a b cs hf => ?_
  have hr := look_rep hf o; rw [ho] at hr
  rw [step_cond hr.imm_inv]
  cases t <;> rfl
theorem Runs.condT {o : Operand} {p q : Code} (ho : look c.G fr o = .imm (.bool true)) (h : Runs c Fn (.code p :: k) fr R) : Runs c Fn (.code (.cond o p q) :: k) fr R := .cond (t := true) ho h
theorem Runs.condF {o : Operand} {p q : Code} (ho : look c.G fr o = .imm (.bool false)) (h : Runs c Fn (.code q :: k) fr R) : Runs c Fn (.code (.cond o p q) :: k) fr R := .cond (t := false) ho h
theorem Runs.of_wp {p : Code} (h : ∀ (E : Ent) (w : World) (V : View) (β : Bnd) (a : Act), E.m = c.m → Fits c.G E c.N w V β R fr a → p.wp c.P (fun e a' w' => e = .normal ∧ ∃ V' β' fr' R', Fits c.G E c.N w' V' β' R' fr' a' ∧ Runs c Fn k fr' R') a w) : Runs c Fn (.code p :: k) fr R := by
  intro E w V β a hm hf b cs
  obtain ⟨e, a1, w1, ⟨rfl, V1, β1, fr1, R1, hf1, hr⟩, harr⟩ := h E w V β a hm hf b k cs
  obtain ⟨a', w', V', β', R', v, k', h1, h2⟩ := hr E w1 V1 β1 a1 hm hf1 b cs
  exact ⟨a', w', V', β', R', v, k', Steps.trans harr h1, h2⟩
theorem Runs.region (hT : TyOK c.P c.tys) {id : Nat} {l : List Oper} (h : ROps c.P c.tys c.G c.N l.toArray (Runs c Fn k) l fr R) : Runs c Fn (.code (.region id l.toArray false) :: k) fr R := by
  refine .of_wp fun E w V β a hm hf => wp_region_list ?_
  exact ROps.list hT (l := l) h w V β a hf (fun w' V' β' fr' R' a' hf' hk => ⟨rfl, V', β', fr', R', hf', hk⟩)
theorem resA_run (hT : TyOK c.P c.tys) {E : Ent} {w : World} {V : View} {β : Bnd} {a : Act} (hf : Fits c.G E c.N w V β R fr a) {r : ResultVar} {x : AV} (h : resA c.tys fr R r = some x) :
    ∃ v, ((match r with | .tmp t => pure (a.tmps.getD t undef) | .cell p t => do loadVar t (← asAddr (a.tmps.getD p undef))) : Sem Value).run c.P w = .ok v w ∧ Rep w V β R x v := by
  cases r with
  | tmp t => injection h with h; subst h; exact ⟨_, rfl, hf.frm.rep t⟩
  | cell p t =>
    unfold resA at h
    simp only at h
    have ld : ∀ ad : Addr, (loadVar t ad).run c.P w = (Instr.loadAt t (.pointer (some ad))).run c.P w := fun ad => by simp [Instr.loadAt, Instr.sureAddr]
    split at h
    · rename_i i hi
      have hr := hf.frm.rep p
      split at h
      · rename_i l hp
        rw [hp] at hr
        obtain ⟨ad, vs, e, hc, hV⟩ := ptr_cells hf.wld hr
        obtain ⟨v, h1, h2⟩ := load_run hT hi hc (fun q u hq => hf.wld.sub _ _ (hV q u hq)) h
        refine ⟨v, ?_, h1⟩
        simp [e, asAddr, ld, h2]
      · rename_i r j k hp
        rw [hp] at hr
        split at h
        · rename_i l hm
          obtain ⟨n, sz, row, hrr, hj, rfl⟩ := matR_some hm
          obtain ⟨_, _, hl⟩ := hr.loc_inv
          obtain ⟨b, hb, e⟩ := hl n sz row hrr
          obtain ⟨b', vs, hb', hc, _, hcell⟩ := mat_cells hf.reg hrr hj
          rw [hb] at hb'; injection hb' with hb'; subst hb'
          obtain ⟨v, h1, h2⟩ := load_run hT hi (ad := ⟨b, j * sz + k, none⟩) (hc.drop k) (fun q u hq => by
            rw [add_at, Nat.add_assoc]
            exact hcell (k + q) u (by simpa using hq)) h
          refine ⟨v, ?_, h1⟩
          simp [e, asAddr, ld, h2]
        · cases h
      · cases h
    · cases h
theorem resL_run (hT : TyOK c.P c.tys) {E : Ent} {w : World} {V : View} {β : Bnd} {a : Act} (hf : Fits c.G E c.N w V β R fr a) : ∀ {rs : List ResultVar} {l : List AV}, resL c.tys fr R rs = some l →
    ∃ vs : List Value, (rs.mapM (m := Sem) fun | .tmp t => pure (a.tmps.getD t undef) | .cell p t => do loadVar t (← asAddr (a.tmps.getD p undef))).run c.P w = .ok vs w ∧ vs.length = l.length ∧ ∀ (i : Nat) (x : AV) (v : Value), l[i]? = some x → vs[i]? = some v → Rep w V β R x v
  | [], l, h => by
    injection h with h; subst h
    exact ⟨[], by simp, rfl, fun i x v h => by simp at h⟩
  | r :: rs, l, h => by
    unfold resL at h
    split at h
    · rename_i x hx
      split at h
      · rename_i l' hl
        injection h with h; subst h
        obtain ⟨v, h1, h2⟩ := resA_run hT hf hx
        obtain ⟨vs, h3, h4, h5⟩ := resL_run hT hf hl
        refine ⟨v :: vs, ?_, by simp [h4], fun i x' v' p q => ?_⟩
        · rw [List.mapM_cons]
          simp only [Sem.run_bind, h1, Result.andThen_ok, h3, Sem.run_pure]
        · cases i with
          | zero => simp at p q; subst p; subst q; exact h2
          | succ i => exact h5 i x' v' (by simpa using p) (by simpa using q)
      · cases h
    · cases h
theorem res_run (hT : TyOK c.P c.tys) (hrs : c.fn.results = c.rs.toArray) {E : Ent} {w : World} {V : View} {β : Bnd} {a : Act} (hf : Fits c.G E c.N w V β R fr a) {l : List AV} (h : resL c.tys fr R c.rs = some l) : ∃ v, (results c.fn a.tmps).run c.P w = .ok v w ∧ Rep w V β R (resT l) v := by
  obtain ⟨vs, h1, h2, h3⟩ := resL_run hT hf h
  have e : (results c.fn a.tmps).run c.P w = .ok (if h : vs.length = 1 then vs[0] else .tuple vs.toArray) w := by
    unfold results
    rw [hrs, Array.mapM_eq_mapM_toList, show c.rs.toArray.toList = c.rs from rfl, Sem.run_bind, Sem.run_map]
    erw [h1]
    simp
  refine ⟨_, e, ?_⟩
  clear e h1 h
  match vs, l, h2, h3 with
  | [v], [x], _, h3 => exact h3 0 x v rfl rfl
  | [], [], _, _ => exact .tup [] [] rfl (fun i a v h => by simp at h)
  | v :: v' :: vs, x :: x' :: l, h2, h3 =>
    rw [dif_neg (by simp)]
    exact .tup _ _ h2 h3
theorem Runs.retP {x : AV} {l : List AV} (hT : TyOK c.P c.tys) (hrs : c.fn.results = c.rs.toArray) (h : resL c.tys fr R c.rs = some l) (hr : Ref (resT l) x) (hx : rf x = true) : Runs c (Pur x) (.code .ret :: k) fr R := by
  intro E w V β a hm hf b cs
  obtain ⟨v, h1, h2⟩ := res_run hT hrs hf h
  exact ⟨a, w, V, β, R, v, _, .one step_ret, hf.frm.defers, h1, hf.wld, (hr _ _ _ _ _ h2).rf hx⟩
/-- What a function answers that was handed regions, and what becomes of these. -/
def MutF (x : AV) (Ro : List Reg) : Fin := fun E w V _ _ v => ∃ β', Wld E w V ∧ RegsOK E.bd w V β' Ro ∧ PinOK E β' Ro ∧ Rep w V β' Ro x v
/-- The frame that a call begins with. -/
def frame0 : List AV → Fr
  | [] => none_
  | x :: l => fun t => match t with | 0 => x | t + 1 => frame0 l t
theorem frame0_rep {w : World} {V : View} {β : Bnd} {R : List Reg} : ∀ (l : List AV) (vs : List Value), vs.length = l.length → (∀ (i : Nat) (a : AV) (v : Value), l[i]? = some a → vs[i]? = some v → Rep w V β R a v) → ∀ t, Rep w V β R (frame0 l t) ((vs.toArray).getD t undef)
  | [], vs, _, _, t => .st (.any _)
  | x :: l, [], h, _, t => by simp at h
  | x :: l, v :: vs, h, hr, t => by
    cases t with
    | zero => simpa [frame0] using hr 0 x v rfl rfl
    | succ t => simpa [frame0] using frame0_rep l vs (by simpa using h) (fun i a v p q => hr (i + 1) a v (by simpa using p) (by simpa using q)) t
theorem frame0_any : ∀ (l : List AV) (t : Nat), l.length ≤ t → frame0 l t = .any
  | [], _, _ => rfl
  | _ :: _, 0, h => by simp at h
  | _ :: l, t + 1, h => frame0_any l t (by simpa using h)
/-- The frame that a call begins with fits. -/
theorem frame0_fits {E : Ent} {w : World} {V : View} {β : Bnd} {R : List Reg} {args : List AV} {vs : List Value} {N : Nat} (hw : Wld E w V) {G : Glo} (hG : GloOK G V) (hR : RegsOK E.bd w V β R) (hvl : vs.length = args.length) (hr : ∀ (i : Nat) (a : AV) (v : Value), args[i]? = some a → vs[i]? = some v → Rep w V β R a v) (hlen : args.length ≤ N) (hp : PinOK E β R) :
    Fits G E N w V β R (frame0 args) { tmps := vs.toArray ++ Array.replicate (N - vs.toArray.size) undef, defers := [] } := by
  refine ⟨hw, hG, hR, ⟨by simp; omega, rfl, fun t => ?_⟩, hp⟩
  have := frame0_rep args vs hvl hr t
  by_cases ht : t < vs.length
  · have e : (vs.toArray ++ Array.replicate (N - vs.toArray.size) undef).getD t undef = vs.toArray.getD t undef := by
      simp [Array.getD_eq_getD_getElem?, Array.getElem?_append, ht]
    show Rep w V β R _ ((vs.toArray ++ Array.replicate (N - vs.toArray.size) undef).getD t undef)
    rw [e]; exact this
  · rw [frame0_any args t (by omega)]
    exact .st (.any _)
theorem RegsOK.nil {Bd : Nat → Prop} {w : World} {V : View} {β : Bnd} : RegsOK Bd w V β [] := ⟨fun i j b h => by rcases h with ⟨_, _, _, h⟩ | ⟨_, _, _, h⟩ <;> simp at h, fun i e sz n h => by simp at h, fun i n sz row h => by simp at h⟩
/-- A function's answer. -/
theorem CallOK.of {x : AV} {f : FuncId} {p : Code} {args : List AV} (hf : c.P.funcs[f]? = some c.fn) (hb : c.fn.body = some p) (hn : c.fn.ntmps = c.N) (hname : (c.fn.name == "runtime.NumGoroutine") = false) (hlen : args.length ≤ c.N) (hm : c.m = 0) (h : Runs c (Pur x) [.code p] (frame0 args) []) : CallOK c.P c.G f args x := by
  refine ⟨⟨c.fn, hf, hname, by rw [hb]; rfl⟩, fun w V vs hsub hG hvl hr cs => ?_⟩
  let b : Frame := { (default : Frame) with fn := f, kind := .normal }
  have henter : Frame.enter c.P f vs.toArray .normal = b.at { tmps := vs.toArray ++ Array.replicate (c.fn.ntmps - vs.toArray.size) undef, defers := [] } [.code p] := by
    simp [Frame.enter, Frame.at, hf, hb, b]
  have hW : Wld ⟨w, fun _ => False, V, 0, fun _ => none⟩ w V := ⟨.refl _ _, hsub, .refl _, fun ad v h => .inl h⟩
  obtain ⟨a', w', V', β', R', v, k', h1, h2, h3, h4, h5⟩ := h ⟨w, fun _ => False, V, 0, fun _ => none⟩ w V (fun _ => none) _ hm.symm (frame0_fits hW hG .nil hvl (fun i a v p q => .st (hr i a v p q)) hlen ⟨Nat.zero_le _, fun i b h => by cases h⟩) b cs
  rw [← hn] at h1
  rw [← henter] at h1
  exact ⟨.returned v, w', _, ⟨v, V', rfl, ⟨h4.bel, h4.up, h4.sub, fun ad v hv => (h4.new ad v hv).elim .inl (fun h => .inr (h.elim False.elim id))⟩, h5⟩, h1, rfl, rfl, h2, rfl, c.fn, hf, h3⟩
theorem CallM.of {x : AV} {f : FuncId} {p : Code} {args : List AV} {R Ro : List Reg} (hf : c.P.funcs[f]? = some c.fn) (hb : c.fn.body = some p) (hn : c.fn.ntmps = c.N) (hname : (c.fn.name == "runtime.NumGoroutine") = false) (hlen : args.length ≤ c.N) (hm : c.m = R.length) (hs : SameR R Ro) (hbd : ∀ r ∈ R, ∀ n sz row, r = .mat n sz row → ∀ j, j < n → bdA.bdL R.length (row j) = true) (h : Runs c (MutF x Ro) [.code p] (frame0 args) R) : CallM c.P c.G f args R x Ro := by
  refine ⟨⟨c.fn, hf, hname, by rw [hb]; rfl⟩, hs, hbd, fun w V β vs hsub hG hR hvl hr cs => ?_⟩
  let b : Frame := { (default : Frame) with fn := f, kind := .normal }
  have henter : Frame.enter c.P f vs.toArray .normal = b.at { tmps := vs.toArray ++ Array.replicate (c.fn.ntmps - vs.toArray.size) undef, defers := [] } [.code p] := by
    simp [Frame.enter, Frame.at, hf, hb, b]
  let E : Ent := ⟨w, bdd β R, V, R.length, fun i => if i < R.length then β i else none⟩
  have hW : Wld E w V := ⟨.refl _ _, hsub, .refl _, fun ad v h => .inl h⟩
  have hR' : RegsOK E.bd w V β R := ⟨hR.dis, fun i e sz n hr b hb => by
      obtain ⟨_, h2, h3⟩ := hR.arr i e sz n hr b hb
      exact ⟨.inl ⟨i, .inl ⟨e, sz, n, hr⟩, hb⟩, h2, h3⟩, fun i n sz row hr => by
      obtain ⟨b, vs, e, h1, _, h3⟩ := hR.mat i n sz row hr
      exact ⟨b, vs, e, h1, .inl ⟨i, .inr ⟨n, sz, row, hr⟩, h1⟩, h3⟩⟩
  have hP : PinOK E β R := ⟨Nat.le_refl _, fun i b hp => by
    by_cases hi : i < R.length
    · exact ⟨hi, fun _ => by rw [show E.pin i = β i from if_pos hi] at hp; exact hp⟩
    · rw [show E.pin i = none from if_neg hi] at hp; cases hp⟩
  obtain ⟨a', w', V', β', R', v, k', h1, h2, h3, βo, h4, h5, h6, h7⟩ := h E w V β _ hm.symm (frame0_fits hW hG hR' hvl hr hlen hP) b cs
  rw [← hn] at h1
  rw [← henter] at h1
  refine ⟨.returned v, w', _, ⟨v, V', βo, rfl, h4.bel, h4.up, h4.sub, fun ad v hv => (h4.new ad v hv), fun i hi hl => ?_, h5, h7⟩, h1, rfl, rfl, h2, rfl, c.fn, hf, h3⟩
  have hlt := live_lt hl
  cases e : β i with
  | some b => exact (h6.2 i b (by rw [show E.pin i = β i from if_pos hi]; exact e)).2 hl
  | none =>
    -- a region that is there lies in a block
    rcases hl with ⟨e1, sz, n, hl⟩ | ⟨n, sz, row, hl⟩
    · rcases hs.get i hi _ hl with h8 | ⟨_, _, _, _, h8, _⟩ <;> cases h8
    · rcases hs.get i hi _ hl with h8 | ⟨n2, sz2, row2, row3, h8, h9⟩
      · cases h8
      · obtain ⟨b, _, _, h10, _⟩ := hR.mat i _ _ _ h9
        rw [e] at h10; cases h10
end
end Go.Proofs.Ytdcabfonjmeajaa.Abs
set_option linter.unusedVariables false
set_option linter.unusedSimpArgs false
namespace Go.Proofs.Ytdcabfonjmeajaa.Abs
open Go.RowKit
/-- Where a region comes from. -/
def rho (l : List (Option Nat)) (i : Nat) : Option Nat := (l[i]?).join
/-- What is known of a value once regions are renamed. -/
inductive RefX (l : List (Option Nat)) (R' : List Reg) : AV → AV → Prop
  | any (a : AV) : RefX l R' a .any
  | st {a x : AV} (ha : rf a = true) (h : Ref a x) (hx : rf x = true) : RefX l R' a x
  | rfx {a x : AV} (h : Ref a x) (hx : rf x = true) : RefX l R' a x
  | own {k i n n' sz : Nat} {row row' : Nat → List AV} (hr : rho l i = some k) (hi : Nat.blt i R'.length = true) (hn : n = n') (h : ∀ j, j < n' → row j = row' j) : RefX l R' (.own k n sz row) (.own i n' sz row')
  | nil {e i sz : Nat} {row : Nat → List AV} (hr : rho l i = none) (hR : R'[i]? = some (.arr e sz 0)) : RefX l R' (.imm (.slice none 0 0)) (.own i 0 sz row)
  | sl {k n n' sz : Nat} {row row' : Nat → List AV} (hn : n = n') (h : ∀ j, j < n' → row j = row' j) : RefX l R' (.own k n sz row) (.sl n' sz row')
  | loc {k i j q : Nat} (hr : rho l i = some k) (hi : Nat.blt i R'.length = true) : RefX l R' (.loc k j q) (.loc i j q)
  | msl {k i : Nat} (hr : rho l i = some k) (hi : Nat.blt i R'.length = true) : RefX l R' (.msl k) (.msl i)
  | ownR {k i n n' sz : Nat} {row row' : Nat → List AV} (hr : rho l i = some k) (hi : Nat.blt i R'.length = true) (hn : n = n') (h : Ref (.sl n sz row) (.sl n' sz row')) : RefX l R' (.own k n sz row) (.own i n' sz row')
  | agg {r s : List AV} (hl : r.length = s.length) (h : ∀ (i : Nat) (a b : AV), r[i]? = some a → s[i]? = some b → RefX l R' a b) : RefX l R' (.agg r) (.agg s)
inductive RefXL (l : List (Option Nat)) (R' : List Reg) : List AV → List AV → Prop
  | nil : RefXL l R' [] []
  | cons {a x : AV} {r s : List AV} (h : RefX l R' a x) (t : RefXL l R' r s) : RefXL l R' (a :: r) (x :: s)
inductive RegX (l : List (Option Nat)) (R R' : List Reg) : Nat → Reg → Prop
  | dead {i : Nat} : RegX l R R' i .dead
  | arr {i k e sz n n' : Nat} (hr : rho l i = some k) (hR : R[k]? = some (.arr e sz n)) (hn : n = n') : RegX l R R' i (.arr e sz n')
  | nil {i e sz : Nat} (hr : rho l i = none) : RegX l R R' i (.arr e sz 0)
  | mat {i k n sz : Nat} {row row' : Nat → List AV} (hr : rho l i = some k) (hR : R[k]? = some (.mat n sz row)) (h : ∀ j, j < n → RefXL l R' (row j) (row' j)) : RegX l R R' i (.mat n sz row')
inductive RegsX (l : List (Option Nat)) (R R' : List Reg) : Nat → List Reg → Prop
  | nil {i : Nat} : RegsX l R R' i []
  | cons {i : Nat} {r : Reg} {s : List Reg} (h : RegX l R R' i r) (t : RegsX l R R' (i + 1) s) : RegsX l R R' i (r :: s)
theorem RegsX.get {l : List (Option Nat)} {R R' : List Reg} : ∀ {s : List Reg} {i : Nat}, RegsX l R R' i s → ∀ (j : Nat) (r : Reg), s[j]? = some r → RegX l R R' (i + j) r
  | _, i, .cons h t, 0, r, e => by simp at e; subst e; exact h
  | _, i, .cons h t, j + 1, r, e => by
    have := t.get j r (by simpa using e)
    rw [show i + (j + 1) = i + 1 + j by omega]
    exact this
  | _, i, .nil, j, r, e => by simp at e
/-- No region comes from two. -/
def once : List (Option Nat) → Bool
  | [] => true
  | none :: l => once l
  | some k :: l => l.all (fun x => match x with | some q => !Nat.beq q k | none => true) && once l
theorem once_inj : ∀ {l : List (Option Nat)}, once l = true → ∀ i j k, rho l i = some k → rho l j = some k → i = j
  | [], _, i, j, k, h, _ => by simp [rho] at h
  | none :: l, h, i, j, k, hi, hj => by
    cases i with
    | zero => simp [rho] at hi
    | succ i =>
      cases j with
      | zero => simp [rho] at hj
      | succ j => rw [once_inj (l := l) h i j k (by simpa [rho] using hi) (by simpa [rho] using hj)]
  | some q :: l, h, i, j, k, hi, hj => by
    unfold once at h
    rw [Bool.and_eq_true] at h
    have no : ∀ m, rho l m = some q → False := fun m hm => by
      unfold rho at hm
      cases e : l[m]? with
      | none => rw [e] at hm; simp at hm
      | some x =>
        rw [e] at hm
        have hm : x = some q := hm
        subst hm
        have := List.all_eq_true.1 h.1 _ (List.mem_of_getElem? e)
        simp at this
    cases i with
    | zero =>
      have e1 : q = k := by simpa [rho] using hi
      subst e1
      cases j with
      | zero => rfl
      | succ j => exact (no j (by simpa [rho] using hj)).elim
    | succ i =>
      cases j with
      | zero =>
        have e1 : q = k := by simpa [rho] using hj
        subst e1
        exact (no i (by simpa [rho] using hi)).elim
      | succ j => rw [once_inj (l := l) h.2 i j k (by simpa [rho] using hi) (by simpa [rho] using hj)]
def bnd (l : List (Option Nat)) (β : Bnd) : Bnd := fun i => match rho l i with | some k => β k | none => none
theorem bnd_some {l : List (Option Nat)} {β : Bnd} {i k : Nat} (h : rho l i = some k) : bnd l β i = β k := by unfold bnd; rw [h]
theorem bnd_none {l : List (Option Nat)} {β : Bnd} {i : Nat} (h : rho l i = none) : bnd l β i = none := by unfold bnd; rw [h]
section
variable {G : Glo} {E : Ent} {N : Nat} {w : World} {V : View} {β : Bnd} {R R' : List Reg} {fr fr' : Fr} {a : Act} {l : List (Option Nat)}
theorem RefX.rep (hX : RegsX l R R' 0 R') {x y : AV} (h : RefX l R' x y) {v : Value} (hv : Rep w V β R x v) : Rep w V (bnd l β) R' y v := by
  have get : ∀ i r, R'[i]? = some r → RegX l R R' i r := fun i r hr => by have := hX.get i r hr; rwa [Nat.zero_add] at this
  induction h generalizing v with
  | any a => exact .st (.any v)
  | @st a x ha h hx =>
    have h0 : Rep w V (bnd l β) R' a v := .st (hv.rf ha)
    exact h _ _ _ _ _ h0
  | @rfx a x h hx =>
    have h0 : Rep w V β R x v := h _ _ _ _ _ hv
    exact .st (h0.rf hx)
  | @own k i n n' sz row row' hr hi hn h =>
    subst hn
    obtain ⟨h1, h2, h3⟩ := hv.own_inv
    refine .own i n sz row' v (by simpa [Nat.blt_eq] using hi) (h2.rows h) (fun e sz' n' hR => ?_)
    cases get i _ hR with
    | arr hr2 hR2 hn =>
      subst hn
      rw [hr] at hr2; injection hr2 with hr2; subst hr2
      rw [bnd_some hr]
      exact h3 e sz' _ hR2
    | nil hr2 => rw [hr] at hr2; cases hr2
  | @nil e i sz row hr hR =>
    obtain rfl := hv.imm_inv
    refine .own i 0 sz row _ (List.getElem?_eq_some_iff.1 hR).1 (.sl 0 sz row none 0 default (fun _ => []) (Nat.le_refl _) (fun h => by omega) (fun j h => by omega) (fun j h => by omega) (fun j i v h => by omega) (fun j i a v h => by omega)) (fun e' sz' n' hR2 => ?_)
    rw [hR] at hR2
    injection hR2 with hR2; injection hR2 with e1 e2 e3
    subst e1; subst e2; subst e3
    exact ⟨rfl, rfl, (bnd_none hr).symm, [], by simp, .inl ⟨rfl, rfl⟩⟩
  | sl hn h => subst hn; exact .st (hv.own_inv.2.1.rows h)
  | @loc k i j q hr hi =>
    obtain ⟨h1, h2, h3⟩ := hv.loc_inv
    refine .loc i j q v (by simpa [Nat.blt_eq] using hi) h2 (fun n sz row hR => ?_)
    cases get i _ hR with
    | mat hr2 hR2 _ =>
      rw [hr] at hr2; injection hr2 with hr2; subst hr2
      rw [bnd_some hr]
      exact h3 n sz _ hR2
  | @msl k i hr hi =>
    obtain ⟨h1, h2, h3⟩ := hv.msl_inv
    refine .msl i v (by simpa [Nat.blt_eq] using hi) h2 (fun n sz row hR => ?_)
    cases get i _ hR with
    | mat hr2 hR2 _ =>
      rw [hr] at hr2; injection hr2 with hr2; subst hr2
      rw [bnd_some hr]
      exact h3 n sz _ hR2
  | @ownR k i n n' sz row row' hr hi hn h =>
    subst hn
    obtain ⟨h1, h2, h3⟩ := hv.own_inv
    have h4 : Rep w V β R (.sl n sz row') v := h _ _ _ _ _ (.st h2)
    refine .own i n sz row' v (by simpa [Nat.blt_eq] using hi) (h4.rf rfl) (fun e sz' n' hR => ?_)
    cases get i _ hR with
    | arr hr2 hR2 hn =>
      subst hn
      rw [hr] at hr2; injection hr2 with hr2; subst hr2
      rw [bnd_some hr]
      exact h3 e sz' _ hR2
    | nil hr2 => rw [hr] at hr2; cases hr2
  | @agg r s hl h ih =>
    obtain ⟨vs, rfl, h1, h2, h3⟩ := hv.agg_inv
    refine .agg s vs (by rw [h1, hl]) h2 (fun i y u hy hu => ?_)
    have hlt : i < r.length := by rw [hl]; exact (List.getElem?_eq_some_iff.1 hy).1
    exact ih i _ y (List.getElem?_eq_getElem hlt) hy (h3 i _ u (List.getElem?_eq_getElem hlt) hu)
theorem RefXL.len : ∀ {r s : List AV}, RefXL l R' r s → r.length = s.length
  | _, _, .nil => rfl
  | _, _, .cons _ t => by rw [List.length_cons, List.length_cons, t.len]
theorem RefXL.get : ∀ {r s : List AV}, RefXL l R' r s → ∀ (k : Nat) (y : AV), s[k]? = some y → ∃ x, r[k]? = some x ∧ RefX l R' x y
  | _, _, .cons h t, 0, y, e => by simp at e; subst e; exact ⟨_, rfl, h⟩
  | _, _, .cons h t, k + 1, y, e => by
    obtain ⟨x, h1, h2⟩ := t.get k y (by simpa using e)
    exact ⟨x, by simpa using h1, h2⟩
  | _, _, .nil, k, y, e => by simp at e
theorem RefX.agg' {r s : List AV} (h : RefXL l R' r s) : RefX l R' (.agg r) (.agg s) := .agg h.len (fun i x y hx hy => by
  obtain ⟨z, hz, h2⟩ := h.get i y hy
  rw [hx] at hz
  rw [Option.some.inj hz]
  exact h2)
/-- Do the first regions stay where they are, those that are left? -/
def pinB : Nat → List (Option Nat) → List Reg → Bool
  | 0, _, _ => true
  | m + 1, l, R => Nat.blt m R.length && ((match R[m]? with | some .dead => true | _ => match l[m]? with | some (some k) => Nat.beq k m | _ => false) && pinB m l R)
theorem pinB_at : ∀ {m : Nat} {l : List (Option Nat)} {R : List Reg}, pinB m l R = true → m ≤ R.length ∧ ∀ i, i < m → Reg.live R i → rho l i = some i
  | 0, _, _, _ => ⟨Nat.zero_le _, fun i h => by omega⟩
  | m + 1, l, R, hp => by
    unfold pinB at hp
    rw [Bool.and_eq_true, Bool.and_eq_true] at hp
    obtain ⟨h1, h2, h3⟩ := hp
    refine ⟨Nat.succ_le_of_lt (by simpa [Nat.blt_eq] using h1), fun i h hl => ?_⟩
    rcases Nat.lt_succ_iff_lt_or_eq.1 h with h4 | rfl
    · exact (pinB_at h3).2 i h4 hl
    · unfold rho
      split at h2
      · rename_i e
        rcases hl with ⟨x, y, z, hl⟩ | ⟨x, y, z, hl⟩ <;> (rw [e] at hl; cases hl)
      · split at h2
        · rename_i k e
          rw [e]
          exact congrArg some (Nat.eq_of_beq_eq_true h2)
        · cases h2
/-- Less is known. -/
structure LeR (m : Nat) (l : List (Option Nat)) (fr : Fr) (R : List Reg) (fr' : Fr) (R' : List Reg) : Prop where
  frm : ∀ t, fr' t = .any ∨ RefX l R' (fr t) (fr' t)
  reg : RegsX l R R' 0 R'
  inj : once l = true
  pin : pinB m l R' = true
theorem Fits.le (h : Fits G E N w V β R fr a) (x : LeR E.m l fr R fr' R') : Fits G E N w V (bnd l β) R' fr' a := by
  have get : ∀ i r, R'[i]? = some r → RegX l R R' i r := fun i r hr => by have := x.reg.get i r hr; rwa [Nat.zero_add] at this
  have src : ∀ i b, Reg.live R' i → bnd l β i = some b → ∃ k, rho l i = some k ∧ Reg.live R k ∧ β k = some b := fun i b hl hb => by
    rcases hl with ⟨e, sz, n, hl⟩ | ⟨n, sz, row, hl⟩
    · cases get i _ hl with
      | arr hr hR hn => subst hn; rw [bnd_some hr] at hb; exact ⟨_, hr, .inl ⟨e, sz, _, hR⟩, hb⟩
      | nil hr => rw [bnd_none hr] at hb; cases hb
    · cases get i _ hl with
      | mat hr hR _ => rw [bnd_some hr] at hb; exact ⟨_, hr, .inr ⟨n, sz, _, hR⟩, hb⟩
  refine ⟨h.wld, h.glo, ⟨fun i j b hi hj hbi hbj => ?_, fun i e sz n hr b hb => ?_, fun i n sz row hr => ?_⟩, ⟨h.frm.size, h.frm.defers, fun t => ?_⟩, ⟨(pinB_at x.pin).1, fun i b hp => ⟨(h.pin.2 i b hp).1, fun hl => by
    have e := (pinB_at x.pin).2 i (h.pin.2 i b hp).1 hl
    rw [bnd_some e]
    refine (h.pin.2 i b hp).2 ?_
    rcases hl with ⟨x1, y1, z1, hl⟩ | ⟨x1, y1, z1, hl⟩
    · cases get i _ hl with
      | arr hr hR hn => rw [e] at hr; injection hr with hr; subst hr; exact .inl ⟨_, _, _, hR⟩
      | nil hr => rw [e] at hr; cases hr
    · cases get i _ hl with
      | mat hr hR _ => rw [e] at hr; injection hr with hr; subst hr; exact .inr ⟨_, _, _, hR⟩⟩⟩⟩
  · obtain ⟨k, p1, p2, p3⟩ := src i b hi hbi
    obtain ⟨k', q1, q2, q3⟩ := src j b hj hbj
    have := h.reg.dis k k' b p2 q2 p3 q3
    subst this
    exact once_inj x.inj i j k p1 q1
  · cases get i _ hr with
    | arr hr2 hR hn => subst hn; rw [bnd_some hr2] at hb; exact h.reg.arr _ e sz _ hR b hb
    | nil hr2 => rw [bnd_none hr2] at hb; cases hb
  · cases get i _ hr with
    | mat hr2 hR hx =>
      rename_i k row0
      obtain ⟨b, vs, e, h1, h2, h3, h4, h5, h6⟩ := h.reg.mat k n sz row0 hR
      refine ⟨b, vs, e, (bnd_some hr2).trans h1, h2, h3, h4, h5, fun j hj => ⟨by rw [← (hx j hj).len]; exact (h6 j hj).1, fun q y hy => ?_⟩⟩
      obtain ⟨x0, hx0, hxx⟩ := (hx j hj).get q y hy
      obtain ⟨v, p1, p2, p3⟩ := (h6 j hj).2 q x0 hx0
      exact ⟨v, p1, p2, hxx.rep x.reg p3⟩
  · rcases x.frm t with e | e
    · rw [e]; exact .st (.any _)
    · exact e.rep x.reg (h.frm.rep t)
end
section
variable {c : Cx} {Fn : Fin} {K : List Item} {fr fr' : Fr} {R R' : List Reg}
theorem Runs.le {todo : List Item} (l : List (Option Nat)) (h : Runs c Fn todo fr' R') (hl : LeR c.m l fr R fr' R') : Runs c Fn todo fr R := fun E w V β a hm hf => h E w V _ a hm (hf.le (hm ▸ hl))
/-- A return: the regions that are handed back are named anew. -/
theorem Runs.retM {x : AV} {lr : List AV} {Ro : List Reg} (l : List (Option Nat)) (hT : TyOK c.P c.tys) (hrs : c.fn.results = c.rs.toArray) (h : resL c.tys fr R c.rs = some lr) (hx : RefX l Ro (resT lr) x) (hR : LeR c.m l fr R none_ Ro) : Runs c (MutF x Ro) (.code .ret :: K) fr R := by
  intro E w V β a hm hf b cs
  obtain ⟨v, h1, h2⟩ := res_run hT hrs hf h
  have hf2 := hf.le (hm ▸ hR)
  exact ⟨a, w, V, β, R, v, _, .one step_ret, hf.frm.defers, h1, bnd l β, hf2.wld, hf2.reg, hf2.pin, hx.rep hR.reg h2⟩
theorem Runs.fallM {x : AV} {lr : List AV} {Ro : List Reg} (l : List (Option Nat)) (hT : TyOK c.P c.tys) (hrs : c.fn.results = c.rs.toArray) (h : resL c.tys fr R c.rs = some lr) (hx : RefX l Ro (resT lr) x) (hR : LeR c.m l fr R none_ Ro) : Runs c (MutF x Ro) [] fr R := by
  intro E w V β a hm hf b cs
  obtain ⟨v, h1, h2⟩ := res_run hT hrs hf h
  have hf2 := hf.le (hm ▸ hR)
  exact ⟨a, w, V, β, R, v, _, .one step_end, hf.frm.defers, h1, bnd l β, hf2.wld, hf2.reg, hf2.pin, hx.rep hR.reg h2⟩
theorem leR_none (l : List (Option Nat)) (R' : List Reg) (fr : Fr) : ∀ t, none_ t = .any ∨ RefX l R' (fr t) (none_ t) := fun _ => .inl rfl
theorem leR_upd {l : List (Option Nat)} {R' : List Reg} {d : Nat} {x : AV} (h : ∀ t, fr' t = .any ∨ RefX l R' (fr t) (fr' t)) (hx : RefX l R' (fr d) x) : ∀ t, upd fr' d x t = .any ∨ RefX l R' (fr t) (upd fr' d x t) := fun t => by
  rw [upd_eq]
  by_cases e : t = d
  · subst e; rw [if_pos rfl]; exact .inr hx
  · rw [if_neg e]; exact h t
theorem RefXL.refl {l : List (Option Nat)} {R' : List Reg} : ∀ {r : List AV}, rf.rfL r = true → RefXL l R' r r
  | [], _ => .nil
  | a :: r, h => by
    unfold rf.rfL at h
    rw [Bool.and_eq_true] at h
    exact .cons (.st h.1 (Ref.rfl' a) h.1) (RefXL.refl h.2)
/-- Rows that lead into no region, of one row. -/
theorem RegX.same1 {l : List (Option Nat)} {R R' : List Reg} {i k sz : Nat} {row : Nat → List AV} (hr : rho l i = some k) (hR : R[k]? = some (.mat 1 sz row)) (h : rf.rfL (row 0) = true) : RegX l R R' i (.mat 1 sz row) :=
  .mat hr hR (fun j hj => by
    obtain rfl : j = 0 := by omega
    exact RefXL.refl h)
theorem RegX.mat1 {l : List (Option Nat)} {R R' : List Reg} {i k sz : Nat} {row row' : Nat → List AV} (hr : rho l i = some k) (hR : R[k]? = some (.mat 1 sz row)) (h : RefXL l R' (row 0) (row' 0)) : RegX l R R' i (.mat 1 sz row') :=
  .mat hr hR (fun j hj => by
    obtain rfl : j = 0 := by omega
    exact h)
/-- The frame of the temporaries that are kept. -/
def keepF (fr : Fr) : List Nat → Fr
  | [] => none_
  | t :: l => upd (keepF fr l) t (fr t)
def overF (fr : Fr) : List (Nat × AV) → Fr
  | [] => fr
  | x :: l => upd (overF fr l) x.1 x.2
/-- Regions of which none may be appended to; those that these temporaries lead to are left out. -/
def deadR (fr : Fr) (ps : List Nat) (R : List Reg) : List Reg := ps.foldr (fun p R => match fr p with | .loc k _ _ => R.set k .dead | .msl k => R.set k .dead | _ => R) (R.map (fun r => match r with | .arr _ _ _ => .dead | r => r))
def idR : Nat → List Reg → List (Option Nat) → List (Option Nat)
  | _, [], l => l
  | i, .dead :: R, l => none :: idR (i + 1) R l
  | i, .arr _ _ _ :: R, l => some i :: idR (i + 1) R l
  | i, .mat _ _ _ :: R, l => some i :: idR (i + 1) R l
/-- A loop that is told by a function of the rounds that are left. -/
theorem Runs.loopK {α ρ : Type} {B : Code} (F : Nat → α → Option ρ) {r : ρ} (keep ps : List Nat) (vf : Nat → α → List (Nat × AV)) (vr : α → List Reg) (K0 : Nat) (y : α) (l : List (Option Nat)) (hF : F K0 y = some r) (h0 : ∀ y, F 0 y = none)
    (hle : LeR c.m (idR 0 (deadR fr ps R) l) fr R (overF (keepF fr keep) (vf R.length y)) (deadR fr ps R ++ vr y))
    (hstep : ∀ kk, kk < K0 → (∀ k' y l fr' R', k' ≤ kk → F k' y = some r → LeR c.m (idR 0 (deadR fr ps R) l) fr' R' (overF (keepF fr keep) (vf R.length y)) (deadR fr ps R ++ vr y) → Runs c Fn (.inLoop B :: K) fr' R') → ∀ y, F (kk + 1) y = some r → Runs c Fn (.code B :: .inLoop B :: K) (overF (keepF fr keep) (vf R.length y)) (deadR fr ps R ++ vr y)) : Runs c Fn (.code (.loop B) :: K) fr R := by
  have H : ∀ n k, k ≤ n → k ≤ K0 → ∀ y, F k y = some r → Runs c Fn (.code B :: .inLoop B :: K) (overF (keepF fr keep) (vf R.length y)) (deadR fr ps R ++ vr y) := by
    intro n
    induction n with
    | zero =>
      intro k hk _ y hF
      obtain rfl : k = 0 := by omega
      rw [h0] at hF
      cases hF
    | succ n ih =>
      intro k hk hk0 y hF
      cases k with
      | zero => rw [h0] at hF; cases hF
      | succ kk => exact hstep kk (by omega) (fun k' y' l' fr' R' hk' hF' hl => ((ih k' (by omega) (by omega) y' hF').inLoop).le _ hl) y hF
  exact ((H K0 K0 (Nat.le_refl _) (Nat.le_refl _) y hF).loop).le _ hle
theorem Runs.loopK1 {α0 ρ : Type} {B : Code} (F : Nat → α0 → Option ρ) {r : ρ} (keep ps : List Nat) (vf : Nat → α0 → List (Nat × AV)) (vr : α0 → List Reg) (K0 : Nat) (y0 : α0) (l : List (Option Nat)) (hF : F K0 y0 = some r) (h0 : ∀ y0, F 0 y0 = none)
    (hle : LeR c.m (idR 0 (deadR fr ps R) l) fr R (overF (keepF fr keep) (vf R.length y0)) (deadR fr ps R ++ vr y0))
    (hstep : ∀ kk, kk < K0 → (∀ k' y0 l fr' R', k' ≤ kk → F k' y0 = some r → LeR c.m (idR 0 (deadR fr ps R) l) fr' R' (overF (keepF fr keep) (vf R.length y0)) (deadR fr ps R ++ vr y0) → Runs c Fn (.inLoop B :: K) fr' R') → ∀ y0, F (kk + 1) y0 = some r → Runs c Fn (.code B :: .inLoop B :: K) (overF (keepF fr keep) (vf R.length y0)) (deadR fr ps R ++ vr y0)) : Runs c Fn (.code (.loop B) :: K) fr R :=
  Runs.loopK (α := α0) (fun k y => F k (y)) keep ps (fun b y => vf b (y)) (fun y => vr (y)) K0 y0 l hF (fun y => h0 (y)) hle (fun kk hk ih y H => hstep kk hk (fun k' y0 l' fr' R' hk' hF' hl => ih k' y0 l' fr' R' hk' hF' hl) (y) H)
theorem Runs.loopK2 {α0 α1 ρ : Type} {B : Code} (F : Nat → α0 → α1 → Option ρ) {r : ρ} (keep ps : List Nat) (vf : Nat → α0 → α1 → List (Nat × AV)) (vr : α0 → α1 → List Reg) (K0 : Nat) (y0 : α0) (y1 : α1) (l : List (Option Nat)) (hF : F K0 y0 y1 = some r) (h0 : ∀ y0 y1, F 0 y0 y1 = none)
    (hle : LeR c.m (idR 0 (deadR fr ps R) l) fr R (overF (keepF fr keep) (vf R.length y0 y1)) (deadR fr ps R ++ vr y0 y1))
    (hstep : ∀ kk, kk < K0 → (∀ k' y0 y1 l fr' R', k' ≤ kk → F k' y0 y1 = some r → LeR c.m (idR 0 (deadR fr ps R) l) fr' R' (overF (keepF fr keep) (vf R.length y0 y1)) (deadR fr ps R ++ vr y0 y1) → Runs c Fn (.inLoop B :: K) fr' R') → ∀ y0 y1, F (kk + 1) y0 y1 = some r → Runs c Fn (.code B :: .inLoop B :: K) (overF (keepF fr keep) (vf R.length y0 y1)) (deadR fr ps R ++ vr y0 y1)) : Runs c Fn (.code (.loop B) :: K) fr R :=
  Runs.loopK (α := α0 × α1) (fun k y => F k (y.1) (y.2)) keep ps (fun b y => vf b (y.1) (y.2)) (fun y => vr (y.1) (y.2)) K0 (y0, y1) l hF (fun y => h0 (y.1) (y.2)) hle (fun kk hk ih y H => hstep kk hk (fun k' y0 y1 l' fr' R' hk' hF' hl => ih k' (y0, y1) l' fr' R' hk' hF' hl) (y.1) (y.2) H)
theorem leR_over {l : List (Option Nat)} {f : Fr} {x : Nat × AV} {xs : List (Nat × AV)} (hx : RefX l R' (fr x.1) x.2) (h : ∀ t, overF f xs t = .any ∨ RefX l R' (fr t) (overF f xs t)) : ∀ t, overF f (x :: xs) t = .any ∨ RefX l R' (fr t) (overF f (x :: xs) t) := leR_upd h hx
theorem leR_over0 {l : List (Option Nat)} {f : Fr} (h : ∀ t, f t = .any ∨ RefX l R' (fr t) (f t)) : ∀ t, overF f [] t = .any ∨ RefX l R' (fr t) (overF f [] t) := h
theorem leR_keep {l : List (Option Nat)} {f : Fr} {d : Nat} {xs : List Nat} (hx : RefX l R' (fr d) (f d)) (h : ∀ t, keepF f xs t = .any ∨ RefX l R' (fr t) (keepF f xs t)) : ∀ t, keepF f (d :: xs) t = .any ∨ RefX l R' (fr t) (keepF f (d :: xs) t) := leR_upd h hx
theorem leR_keep0 {l : List (Option Nat)} {f : Fr} : ∀ t, keepF f [] t = .any ∨ RefX l R' (fr t) (keepF f [] t) := fun _ => .inl rfl
end
theorem some_ite {α : Type} {p : Prop} [Decidable p] {a : Option α} {r : α} (h : (if p then a else none) = some r) : p ∧ a = some r := by
  by_cases hp : p
  · rw [if_pos hp] at h; exact ⟨hp, h⟩
  · rw [if_neg hp] at h; cases h
theorem ite_pos_ {α : Type} {p : Prop} [Decidable p] {a b r : α} (hp : p) (h : (if p then a else b) = r) : a = r := by rw [if_pos hp] at h; exact h
theorem ite_neg_ {α : Type} {p : Prop} [Decidable p] {a b r : α} (hp : ¬ p) (h : (if p then a else b) = r) : b = r := by rw [if_neg hp] at h; exact h
theorem bind_some' {α β : Type} {o : Option α} {f : α → Option β} {r : β} (h : o.bind f = some r) : ∃ t, o = some t ∧ f t = some r := Option.bind_eq_some_iff.1 h
end Go.Proofs.Ytdcabfonjmeajaa.Abs
set_option linter.unusedVariables false
set_option linter.unusedSimpArgs false
namespace Go.Proofs.Ytdcabfonjmeajaa.Abs
open Go.RowKit
/-- The rows of a list. -/
def rowsE {α : Type} (e : α → List AV) (z : α) (l : List α) : Nat → List AV := fun j => e (l.getD j z)
def eInt (k : IntKind) (x : Int) : List AV := [.imm (.int k x)]
def eStr (x : ByteArray) : List AV := [.imm (.string x)]
def eBool (x : Bool) : List AV := [.imm (.bool x)]
abbrev vI (k : IntKind) (l : List Int) : AV := .sl l.length 1 (rowsE (eInt k) 0 l)
abbrev vStr (l : List ByteArray) : AV := .sl l.length 1 (rowsE eStr ByteArray.empty l)
abbrev vB (l : List Bool) : AV := .sl l.length 1 (rowsE eBool false l)
def eL1 (x : List Int) : List AV := [vI .u8 x]
abbrev vL1 (l : List (List Int)) : AV := .sl l.length 1 (rowsE eL1 [] l)
section
variable {α : Type} {e : α → List AV} {z : α} {l l2 : List α}
theorem getD_left {l r : List α} {z : α} {j : Nat} (h : j < l.length) : (l ++ r).getD j z = l.getD j z := by
  rw [List.getD_eq_getElem?_getD, List.getD_eq_getElem?_getD, List.getElem?_append_left h]
theorem getD_right {l r : List α} {z : α} {j : Nat} (h : l.length ≤ j) : (l ++ r).getD j z = r.getD (j - l.length) z := by
  rw [List.getD_eq_getElem?_getD, List.getD_eq_getElem?_getD, List.getElem?_append_right h]
theorem rows_app {row2 : Nat → List AV} {n : Nat} (h : ∀ j, j < n → row2 j = rowsE e z l2 j) (hn : n = l2.length) : ∀ j, j < (l ++ l2).length → appR l.length (rowsE e z l) row2 j = rowsE e z (l ++ l2) j := by
  intro j hj
  rw [List.length_append] at hj
  unfold appR rowsE
  by_cases c : j < l.length
  · rw [if_pos c, getD_left c]
  · rw [if_neg c, getD_right (by omega)]
    exact h (j - l.length) (by omega)
theorem rows_app2 {row row2 : Nat → List AV} {n m : Nat} (h1 : ∀ j, j < l.length → row j = rowsE e z l j) (hn : n = l.length) (h : ∀ j, j < l2.length → row2 j = rowsE e z l2 j) (hm : m = n) : ∀ j, j < (l ++ l2).length → appR m row row2 j = rowsE e z (l ++ l2) j := by
  subst hm; subst hn
  intro j hj
  have := rows_app (l := l) (e := e) (z := z) h rfl j hj
  unfold appR at this ⊢
  by_cases c : j < l.length
  · rw [if_pos c] at this ⊢; rw [h1 j c]; exact this
  · rw [if_neg c] at this ⊢; exact this
theorem rows_snoc {row2 : Nat → List AV} {v : α} (h : row2 0 = e v) : ∀ j, j < (l ++ [v]).length → appR l.length (rowsE e z l) row2 j = rowsE e z (l ++ [v]) j :=
  rows_app (n := 1) (l2 := [v]) (fun j hj => by
    obtain rfl : j = 0 := by omega
    exact h) rfl
theorem rows_cons {row2 : Nat → List AV} {v : α} (h : row2 0 = e v) (ht : ∀ j, j < l.length → (fun j => row2 (j + 1)) j = rowsE e z l j) : ∀ j, j < (v :: l).length → row2 j = rowsE e z (v :: l) j := fun j hj => by
  cases j with
  | zero => exact h
  | succ j => exact ht j (by simpa using hj)
theorem rows_one {row2 : Nat → List AV} {v : α} (h : row2 0 = e v) : ∀ j, j < [v].length → row2 j = rowsE e z [v] j := fun j hj => by
  obtain rfl : j = 0 := by simpa using hj
  exact h
theorem rows_nil {row2 : Nat → List AV} : ∀ j, j < ([] : List α).length → row2 j = rowsE e z [] j := fun j hj => by simp at hj
theorem rows_two {row2 : Nat → List AV} {u v : α} (h : row2 0 = e u) (h2 : row2 1 = e v) : ∀ j, j < [u, v].length → row2 j = rowsE e z [u, v] j := fun j hj => by
  have : j = 0 ∨ j = 1 := by simp at hj; omega
  rcases this with rfl | rfl
  · exact h
  · exact h2
end
theorem Ref.own' {i n n' sz : Nat} {row row' : Nat → List AV} (hn : n = n') (h : ∀ j, j < n' → row j = row' j) : Ref (.own i n sz row) (.sl n' sz row') := by
  subst hn
  exact (Ref.own i n sz row).trans (Ref.rows h)
theorem Ref.sl' {n n' sz : Nat} {row row' : Nat → List AV} (hn : n = n') (h : ∀ j, j < n' → row j = row' j) : Ref (.sl n sz row) (.sl n' sz row') := by
  subst hn
  exact Ref.rows h
theorem Ref.nil' {n sz : Nat} {row : Nat → List AV} (hn : n = 0) : Ref (.imm (.slice none 0 0)) (.sl n sz row) := by
  subst hn
  exact Ref.nil sz row
theorem some_bind_ {α β : Type} {x : α} {f : α → Option β} {r : β} (h : (some x).bind f = some r) : f x = some r := h
theorem bool_ite {α : Type} {t : Bool} {a b : Option α} {r : α} (h : (if t = true then a else b) = some r) : (t = true ∧ a = some r) ∨ (t = false ∧ b = some r) := by
  cases t
  · exact .inr ⟨rfl, h⟩
  · exact .inl ⟨rfl, h⟩
theorem bool_iteN {α : Type} {t : Bool} {a b : Option α} {r : α} (h : (if (!t) = true then a else b) = some r) : (t = false ∧ a = some r) ∨ (t = true ∧ b = some r) := by
  cases t
  · exact .inl ⟨rfl, h⟩
  · exact .inr ⟨rfl, h⟩
theorem true_ite {α : Type} {a b r : α} (h : (if true = true then a else b) = r) : a = r := h
theorem false_ite {α : Type} {a b r : α} (h : (if false = true then a else b) = r) : b = r := h
theorem beq_t {α : Type} [BEq α] [LawfulBEq α] {a b : α} (h : a = b) : (a == b) = true := beq_iff_eq.2 h
theorem beq_f {α : Type} [BEq α] [LawfulBEq α] {a b : α} (h : ¬ a = b) : (a == b) = false := beq_eq_false_iff_ne.2 h
theorem bne_t {α : Type} [BEq α] [LawfulBEq α] {a b : α} (h : ¬ a = b) : (a != b) = true := bne_iff_ne.2 h
theorem bne_f {α : Type} [BEq α] [LawfulBEq α] {a b : α} (h : a = b) : (a != b) = false := by simp [h]
theorem dec_pos {α : Type} {p : Prop} [Decidable p] {a b r : α} (hp : p) (h : (if decide p = true then a else b) = r) : a = r := by rw [if_pos (decide_eq_true hp)] at h; exact h
theorem dec_neg {α : Type} {p : Prop} [Decidable p] {a b r : α} (hp : ¬ p) (h : (if decide p = true then a else b) = r) : b = r := by rw [if_neg (by rw [decide_eq_false hp]; exact Bool.false_ne_true)] at h; exact h
theorem dec_t {p : Prop} [Decidable p] {r : Bool} (hp : p) (h : some (decide p) = some r) : some true = some r := by rw [decide_eq_true hp] at h; exact h
theorem dec_f {p : Prop} [Decidable p] {r : Bool} (hp : ¬ p) (h : some (decide p) = some r) : some false = some r := by rw [decide_eq_false hp] at h; exact h
theorem beq_pos {α β : Type} [BEq β] [LawfulBEq β] {x y : β} {a b r : α} (hp : x = y) (h : (if (x == y) = true then a else b) = r) : a = r := by rw [if_pos (beq_t hp)] at h; exact h
theorem beq_neg {α β : Type} [BEq β] [LawfulBEq β] {x y : β} {a b r : α} (hp : ¬ x = y) (h : (if (x == y) = true then a else b) = r) : b = r := by rw [if_neg (by rw [beq_f hp]; exact Bool.false_ne_true)] at h; exact h
theorem beq_tt {β : Type} [BEq β] [LawfulBEq β] {x y : β} {r : Bool} (hp : x = y) (h : some (x == y) = some r) : some true = some r := by rw [beq_t hp] at h; exact h
theorem beq_ff {β : Type} [BEq β] [LawfulBEq β] {x y : β} {r : Bool} (hp : ¬ x = y) (h : some (x == y) = some r) : some false = some r := by rw [beq_f hp] at h; exact h
/-- Rows of one row. -/
theorem Ref.one {sz : Nat} {row row' : Nat → List AV} (h : RefL (row 0) (row' 0)) (hr : rf.rfL (row' 0) = true) : Ref (.sl 1 sz row) (.sl 1 sz row') := fun w V β R v hv => by
  obtain ⟨A, c, ad, vs, rfl, h1, h2, h3, h4, h5, h6⟩ := hv.sl_inv.sl_inv
  refine .st (.sl 1 sz row' A c ad vs h1 h2 (fun j hj => ⟨?_, (h3 j hj).2⟩) h4 h5 (fun j i a v hj ha hu => ?_))
  · obtain rfl : j = 0 := by omega
    rw [← h.len]; exact (h3 0 hj).1
  · obtain rfl : j = 0 := by omega
    have : Rep w V β R a v := h.rep (w := w) (β := β) (R := R) (fun i a v p q => .st (h6 0 i a v hj p q)) i a v ha hu
    exact this.rf (rfL_get hr i a ha)
theorem Ref.slW {n n' sz : Nat} {row row' : Nat → List AV} (hn : n = n') (h : ∀ j, j < n' → RefL (row j) (row' j)) (hr : ∀ j, j < n' → rf.rfL (row' j) = true) : Ref (.sl n sz row) (.sl n' sz row') := fun w V β R v hv => by
  subst hn
  obtain ⟨A, c, ad, vs, rfl, h1, h2, h3, h4, h5, h6⟩ := hv.sl_inv.sl_inv
  refine .st (.sl n sz row' A c ad vs h1 h2 (fun j hj => ⟨?_, (h3 j hj).2⟩) h4 h5 (fun j i a v hj ha hu => ?_))
  · rw [← (h j hj).len]; exact (h3 j hj).1
  · have : Rep w V β R a v := (h j hj).rep (w := w) (β := β) (R := R) (fun i a v p q => .st (h6 j i a v hj p q)) i a v ha hu
    exact this.rf (rfL_get (hr j hj) i a ha)
theorem RefL.rflQ : ∀ l : List AV, RefL l l
  | [] => .nil
  | a :: l => .cons (Ref.rfl' a) (RefL.rflQ l)
/-- A row, and one element behind it. -/
theorem Ref.snocW {α : Type} {e : α → List AV} {z : α} {l : List α} {row2 : Nat → List AV} {x : α} {sz : Nat} (h1 : RefL (row2 0) (e x)) (hr : ∀ y, rf.rfL (e y) = true) : Ref (.sl (l.length + 1) sz (appR l.length (rowsE e z l) row2)) (.sl (l ++ [x]).length sz (rowsE e z (l ++ [x]))) :=
  .slW (by simp) (fun j hj => by
    rw [List.length_append, List.length_singleton] at hj
    unfold appR rowsE
    by_cases c : j < l.length
    · rw [if_pos c, List.getD_eq_getElem?_getD, List.getD_eq_getElem?_getD, List.getElem?_append_left c]; exact RefL.rflQ _
    · obtain rfl : j = l.length := by omega
      rw [if_neg c, Nat.sub_self, List.getD_eq_getElem?_getD, List.getElem?_append_right (Nat.le_refl _), Nat.sub_self]; exact h1) (fun j _ => hr _)
end Go.Proofs.Ytdcabfonjmeajaa.Abs
set_option linter.unusedVariables false
set_option linter.unusedSimpArgs false
namespace Go.Proofs.Ytdcabfonjmeajaa.Abs
open Go.RowKit
section
variable {P : Program} {tys : Tys} {G : Glo} {E : Ent} {N : Nat} {w : World} {V : View} {β : Bnd} {R : List Reg} {fr fr' : Fr} {a : Act} {ops : Array Oper}
theorem opA_congr {op : Op} (hl : ∀ x ∈ op.operands.toList, look G fr x = look G fr' x) : opA tys G fr R op = opA tys G fr' R op := by
  unfold opA
  split
  case h_1 x => rw [hl x (by simp [Op.operands])]
  case h_2 x => rw [hl x (by simp [Op.operands])]
  case h_3 c p q => rw [hl c (by simp [Op.operands]), hl p (by simp [Op.operands]), hl q (by simp [Op.operands])]
  case h_4 t p => rw [hl p (by simp [Op.operands])]
  case h_5 s p f => rw [hl p (by simp [Op.operands])]
  case h_6 y n => rw [hl y (by simp [Op.operands])]
  case h_7 t y => rw [hl y (by simp [Op.operands])]
  case h_8 t y z _ => rw [hl y (by simp [Op.operands]), hl z (by simp [Op.operands])]
  case h_9 t y z _ => rw [hl y (by simp [Op.operands]), hl z (by simp [Op.operands])]
  case h_10 y => rw [hl y (by simp [Op.operands])]
  case h_11 f cs =>
    have : cs.map (look G fr) = cs.map (look G fr') := List.map_congr_left (fun x hx => hl x (by simpa [Op.operands] using hx))
    rw [this]
  case h_12 t parts =>
    have : parts.map (fun p => (p.1, look G fr p.2)) = parts.map (fun p => (p.1, look G fr' p.2)) := List.map_congr_left (fun p hp => by
      rw [hl p.2 (by simp only [Op.operands, List.mem_map]; exact ⟨p, hp, rfl⟩)])
    rw [this]
  case h_13 y t => rw [hl y (by simp [Op.operands, Call.operands])]
  case h_14 => rfl
/-- What an operation yields that may be carried out ahead of others, or behind them. -/
inductive QOp (P : Program) (tys : Tys) (G : Glo) (R : List Reg) (ops : Array Oper) (fr : Fr) (o : Oper) : AV → Prop
  | off (hw : wantA ops fr o = some false) : QOp P tys G R ops fr o (.imm (.tuple ⟨[]⟩))
  | pure {x : AV} (hw : wantA ops fr o = some true) (hop : opA tys G fr R o.op = some x) : QOp P tys G R ops fr o x
  | cmpT {p : Prop} (hw : wantA ops fr o = some true) (hop : CmpA G fr o.op p) (hp : p) : QOp P tys G R ops fr o (.imm (.bool true))
  | cmpF {p : Prop} (hw : wantA ops fr o = some true) (hop : CmpA G fr o.op p) (hp : ¬ p) : QOp P tys G R ops fr o (.imm (.bool false))
  | val {x : AV} (hw : wantA ops fr o = some true) (hop : ValA tys G fr o.op x) : QOp P tys G R ops fr o x
  | idx {t : TypeId} {x i : Operand} {n sz : Nat} {row : Nat → List AV} {k : IntKind} {j : Int} (hw : wantA ops fr o = some true) (hop : o.op = .indexAddr t x i) (hx : slV (look G fr x) = some (n, sz + 1, row)) (hi : look G fr i = .imm (.int k j)) (he : elemA tys t = sz + 1) (h0 : 0 ≤ j) (h1 : j < (n : Int)) : QOp P tys G R ops fr o (.ptr (row j.toNat))
  | call {f : FuncId} {as : List Operand} {ts : Array TypeId} {args : List AV} {x : AV} (hw : wantA ops fr o = some true) (hop : o.op = .call ⟨.value (.func f), ⟨as⟩, ts⟩) (hc : CallOK P G f args x) (ha : ArgsOK (as.map (look G fr)) args) : QOp P tys G R ops fr o x
  | callv {f : FuncId} {q : Operand} {cs : List AV} {as : List Operand} {ts : Array TypeId} {args : List AV} {x : AV} (hw : wantA ops fr o = some true) (hop : o.op = .call ⟨.value q, ⟨as⟩, ts⟩) (hq : look G fr q = .fn f cs) (hc : CallOK P G f args x) (ha : ArgsOK (as.map (look G fr) ++ cs) args) : QOp P tys G R ops fr o x
  | lit {t : TypeId} {ti : TI} {len sz : Nat} {parts : List (Nat × Operand)} {l : List AV} (hw : wantA ops fr o = some true) (hop : o.op = .buildSlice t len ⟨parts⟩) (hti : ty tys t = some ti) (hsz : ti.elem = sz + 1) (hl : litA (sz + 1) len (parts.map (fun p => (p.1, look G fr p.2))) = some l) (hrf : rf.rfL l = true) (hb : Nat.ble (len * (sz + 1)) 16777216 = true) : QOp P tys G R ops fr o (.sl len (sz + 1) (litR (sz + 1) l))
  | idxM {t : TypeId} {x i : Operand} {r n sz : Nat} {row : Nat → List AV} {k : IntKind} {j : Int} (hw : wantA ops fr o = some true) (hop : o.op = .indexAddr t x i) (hx : look G fr x = .msl r) (hR : R[r]? = some (.mat n (sz + 1) row)) (hi : look G fr i = .imm (.int k j)) (he : elemA tys t = sz + 1) (h0 : 0 ≤ j) (h1 : j < (n : Int)) : QOp P tys G R ops fr o (.loc r j.toNat 0)
  | box {t : TypeId} {x : Operand} {l : List AV} (hw : wantA ops fr o = some true) (hop : o.op = .box t x) (hx : cellsA (look G fr x) = some l) (hrf : rf.rfL l = true) : QOp P tys G R ops fr o (.ptr l)
theorem looks_tmp {o : Oper} {t : Tmp} (h : .tmp t ∈ o.op.operands.toList) : t ∈ o.looksAt ops := by
  unfold Oper.looksAt
  exact List.mem_append_left _ (List.mem_filterMap.2 ⟨.tmp t, h, rfl⟩)
theorem look_same {o : Oper} (h : ∀ t ∈ o.looksAt ops, fr t = fr' t) : ∀ x ∈ o.op.operands.toList, look G fr x = look G fr' x := fun x hx => by
  cases x with
  | tmp t => exact h t (looks_tmp hx)
  | const v => rfl
  | global g => rfl
  | func f => rfl
theorem want_same {o : Oper} (h : ∀ t ∈ o.looksAt ops, fr t = fr' t) : wantA ops fr o = wantA ops fr' o := by
  unfold wantA
  cases hg : o.guard with
  | none => rfl
  | some jb =>
    obtain ⟨j, b⟩ := jb
    simp only
    cases hj : (ops[j]?).bind (·.dst) with
    | none => rfl
    | some d =>
      simp only
      rw [h d (by
        unfold Oper.looksAt
        rw [hg]
        simp only [hj]
        exact List.mem_append_right _ (by simp))]
theorem QOp.local_ {o : Oper} {x : AV} (h : QOp P tys G R ops fr o x) (hs : ∀ t ∈ o.looksAt ops, fr t = fr' t) : QOp P tys G R ops fr' o x := by
  have hl := look_same (G := G) hs
  have hwe := want_same hs
  have cmpL : ∀ {p : Prop}, CmpA G fr o.op p → CmpA G fr' o.op p := fun {p} hc => by
    generalize o.op = op at hc hl
    cases hc with
    | lss hx hy => exact .lss ((hl _ (by simp [Op.operands])).symm.trans hx) ((hl _ (by simp [Op.operands])).symm.trans hy)
    | leq hx hy => exact .leq ((hl _ (by simp [Op.operands])).symm.trans hx) ((hl _ (by simp [Op.operands])).symm.trans hy)
    | gtr hx hy => exact .gtr ((hl _ (by simp [Op.operands])).symm.trans hx) ((hl _ (by simp [Op.operands])).symm.trans hy)
    | geq hx hy => exact .geq ((hl _ (by simp [Op.operands])).symm.trans hx) ((hl _ (by simp [Op.operands])).symm.trans hy)
    | eql hx hy => exact .eql ((hl _ (by simp [Op.operands])).symm.trans hx) ((hl _ (by simp [Op.operands])).symm.trans hy)
    | neq hx hy => exact .neq ((hl _ (by simp [Op.operands])).symm.trans hx) ((hl _ (by simp [Op.operands])).symm.trans hy)
    | seq hx hy => exact .seq ((hl _ (by simp [Op.operands])).symm.trans hx) ((hl _ (by simp [Op.operands])).symm.trans hy)
    | sne hx hy => exact .sne ((hl _ (by simp [Op.operands])).symm.trans hx) ((hl _ (by simp [Op.operands])).symm.trans hy)
  have binL : ∀ {v : Value}, BinA G fr o.op v → BinA G fr' o.op v := fun {p} hc => by
    generalize o.op = op at hc hl
    cases hc with
    | mul hx hy => exact .mul ((hl _ (by simp [Op.operands])).symm.trans hx) ((hl _ (by simp [Op.operands])).symm.trans hy)
    | add8 hx hy => exact .add8 ((hl _ (by simp [Op.operands])).symm.trans hx) ((hl _ (by simp [Op.operands])).symm.trans hy)
    | sub8 hx hy => exact .sub8 ((hl _ (by simp [Op.operands])).symm.trans hx) ((hl _ (by simp [Op.operands])).symm.trans hy)
    | mul8 hx hy => exact .mul8 ((hl _ (by simp [Op.operands])).symm.trans hx) ((hl _ (by simp [Op.operands])).symm.trans hy)
    | addK hx hy => exact .addK ((hl _ (by simp [Op.operands])).symm.trans hx) ((hl _ (by simp [Op.operands])).symm.trans hy)
    | subK hx hy => exact .subK ((hl _ (by simp [Op.operands])).symm.trans hx) ((hl _ (by simp [Op.operands])).symm.trans hy)
    | mulK hx hy => exact .mulK ((hl _ (by simp [Op.operands])).symm.trans hx) ((hl _ (by simp [Op.operands])).symm.trans hy)
    | bits hb hx hy => exact .bits hb ((hl _ (by simp [Op.operands])).symm.trans hx) ((hl _ (by simp [Op.operands])).symm.trans hy)
    | shl hx hy h => exact .shl ((hl _ (by simp [Op.operands])).symm.trans hx) ((hl _ (by simp [Op.operands])).symm.trans hy) h
    | shr hx hy h => exact .shr ((hl _ (by simp [Op.operands])).symm.trans hx) ((hl _ (by simp [Op.operands])).symm.trans hy) h
    | quo hx hy h => exact .quo ((hl _ (by simp [Op.operands])).symm.trans hx) ((hl _ (by simp [Op.operands])).symm.trans hy) h
    | quo64 hx hy h => exact .quo64 ((hl _ (by simp [Op.operands])).symm.trans hx) ((hl _ (by simp [Op.operands])).symm.trans hy) h
    | rem hx hy h => exact .rem ((hl _ (by simp [Op.operands])).symm.trans hx) ((hl _ (by simp [Op.operands])).symm.trans hy) h
    | cat hx hy h => exact .cat ((hl _ (by simp [Op.operands])).symm.trans hx) ((hl _ (by simp [Op.operands])).symm.trans hy) h
    | neg hx => exact .neg ((hl _ (by simp [Op.operands])).symm.trans hx)
  have valL : ∀ {x : AV}, ValA tys G fr o.op x → ValA tys G fr' o.op x := fun {x} hc => by
    generalize hq : o.op = op at hc hl binL
    cases hc with
    | bin h => exact .bin (binL h)
    | idxS ht hx hi h0 h1 => exact .idxS ht ((hl _ (by simp [Op.operands])).symm.trans hx) ((hl _ (by simp [Op.operands])).symm.trans hi) h0 h1
    | beqB ht hx hy => exact .beqB ht ((hl _ (by simp [Op.operands])).symm.trans hx) ((hl _ (by simp [Op.operands])).symm.trans hy)
    | bneB ht hx hy => exact .bneB ht ((hl _ (by simp [Op.operands])).symm.trans hx) ((hl _ (by simp [Op.operands])).symm.trans hy)
    | eqS ht hx hy h1 h2 h3 => exact .eqS ht ((hl _ (by simp [Op.operands])).symm.trans hx) ((hl _ (by simp [Op.operands])).symm.trans hy) h1 h2 h3
    | neS ht hx hy h1 h2 h3 => exact .neS ht ((hl _ (by simp [Op.operands])).symm.trans hx) ((hl _ (by simp [Op.operands])).symm.trans hy) h1 h2 h3
  have mapL : ∀ {as : List Operand} {c : Callee} {ts : Array TypeId}, o.op = .call ⟨c, ⟨as⟩, ts⟩ → as.map (look G fr) = as.map (look G fr') := fun {as c ts} e => List.map_congr_left (fun x hx => hl x (by
    rw [e]
    simp only [Op.operands, Call.operands]
    cases c <;> simp [hx]))
  cases h with
  | off hw => exact .off (hwe ▸ hw)
  | pure hw hop => exact .pure (hwe ▸ hw) ((opA_congr hl).symm.trans hop)
  | cmpT hw hop hp => exact .cmpT (hwe ▸ hw) (cmpL hop) hp
  | cmpF hw hop hp => exact .cmpF (hwe ▸ hw) (cmpL hop) hp
  | val hw hop => exact .val (hwe ▸ hw) (valL hop)
  | idx hw hop hx hi he h0 h1 => exact .idx (hwe ▸ hw) hop (by rw [← hl _ (by rw [hop]; simp [Op.operands])]; exact hx) ((hl _ (by rw [hop]; simp [Op.operands])).symm.trans hi) he h0 h1
  | idxM hw hop hx hR hi he h0 h1 => exact .idxM (hwe ▸ hw) hop ((hl _ (by rw [hop]; simp [Op.operands])).symm.trans hx) hR ((hl _ (by rw [hop]; simp [Op.operands])).symm.trans hi) he h0 h1
  | box hw hop hx hrf => exact .box (hwe ▸ hw) hop (by rw [← hl _ (by rw [hop]; simp [Op.operands])]; exact hx) hrf
  | @lit t ti len sz parts l hw hop hti hsz hll hrf hb =>
    refine .lit (hwe.symm.trans hw) hop hti hsz ?_ hrf hb
    rw [← hll]
    congr 1
    refine List.map_congr_left fun p hp => ?_
    rw [hl p.2 (by rw [hop]; simp only [Op.operands, List.mem_map]; exact ⟨p, hp, rfl⟩)]
  | call hw hop hc ha => exact .call (hwe ▸ hw) hop hc (by rw [← mapL hop]; exact ha)
  | callv hw hop hq hc ha => exact .callv (hwe ▸ hw) hop ((hl _ (by rw [hop]; simp [Op.operands, Call.operands])).symm.trans hq) hc (by rw [← mapL hop]; exact ha)
end
end Go.Proofs.Ytdcabfonjmeajaa.Abs
set_option linter.unusedVariables false
set_option linter.unusedSimpArgs false
namespace Go.Proofs.Ytdcabfonjmeajaa.Abs
open Go.RowKit
section
variable {P : Program} {tys : Tys} {G : Glo} {E : Ent} {N : Nat} {w : World} {V : View} {β : Bnd} {R : List Reg} {fr fr' : Fr} {a : Act} {ops : Array Oper} {md : Region.Mode}
/-- An operation that turns the list of regions: a literal that may be appended to, an append. -/
inductive EOp (tys : Tys) (G : Glo) (ops : Array Oper) (fr : Fr) (R : List Reg) (o : Oper) : AV → List Reg → Prop
  | litO {t : TypeId} {ti : TI} {len sz : Nat} {parts : List (Nat × Operand)} {l : List AV} (hop : o.op = .buildSlice t len ⟨parts⟩) (hti : ty tys t = some ti) (hsz : ti.elem = sz + 1) (hl : litA (sz + 1) len (parts.map (fun p => (p.1, look G fr p.2))) = some l) (hrf : rf.rfL l = true) (hb : Nat.ble (len * (sz + 1)) 16777216 = true) (hw : wantA ops fr o = some true) : EOp tys G ops fr R o (.own R.length len (sz + 1) (litR (sz + 1) l)) (R ++ [.arr ti.el (sz + 1) len])
  | app {t : TypeId} {s x : Operand} {ti : TI} {i n m sz : Nat} {row row2 : Nat → List AV} (hop : o.op = .call ⟨.builtin .append, ⟨[s, x]⟩, ⟨[t, t]⟩⟩) (hti : ty tys t = some ti) (hsz : ti.elem = sz + 1) (hs : look G fr s = .own i n (sz + 1) row) (hR : R[i]? = some (.arr ti.el (sz + 1) n)) (hx : slV (look G fr x) = some (m, sz + 1, row2)) (hb : n + m ≤ maxLen ∧ (n + m) * ti.eby ≤ 140737488355328) (hw : wantA ops fr o = some true) : EOp tys G ops fr R o (.own R.length (n + m) (sz + 1) (appR n row row2)) ((R.set i .dead) ++ [.arr ti.el (sz + 1) (n + m)])
  | appN {t : TypeId} {s x : Operand} {ti : TI} {m sz : Nat} {row2 : Nat → List AV} (hop : o.op = .call ⟨.builtin .append, ⟨[s, x]⟩, ⟨[t, t]⟩⟩) (hti : ty tys t = some ti) (hsz : ti.elem = sz + 1) (hs : look G fr s = .imm (.slice none 0 0)) (hx : slV (look G fr x) = some (m, sz + 1, row2)) (hb : m ≤ maxLen ∧ m * ti.eby ≤ 140737488355328) (hw : wantA ops fr o = some true) : EOp tys G ops fr R o (.own R.length m (sz + 1) row2) (R ++ [.arr ti.el (sz + 1) m])
  | store {t : TypeId} {p x : Operand} {i : TI} {r n sz : Nat} {row row' : Nat → List AV} {j k : Nat} {c : List AV} (hop : o.op = .store t p x) (hp : look G fr p = .loc r j k) (hR : R[r]? = some (.mat n sz row)) (hj : j < n) (hi : ty tys t = some i) (hc : cellsA (look G fr x) = some c) (hs : c.length = i.size) (hk : k + c.length ≤ (row j).length) (hrow : ∀ t, t < n → setR n row j ((row j).take k ++ (c ++ (row j).drop (k + c.length))) t = row' t) (hw : wantA ops fr o = some true) (hdst : o.dst = none) : EOp tys G ops fr R o (.imm undef) (R.set r (.mat n sz row'))
theorem EOp.local_ {o : Oper} {x : AV} {Rn : List Reg} (h : EOp tys G ops fr R o x Rn) (hs : ∀ t ∈ o.looksAt ops, fr t = fr' t) : EOp tys G ops fr' R o x Rn := by
  have hl := look_same (G := G) hs
  have hwe := want_same hs
  cases h with
  | @litO t ti len sz parts l hop hti hsz hll hrf hb hw =>
    refine .litO hop hti hsz ?_ hrf hb (hwe.symm.trans hw)
    rw [← hll]
    congr 1
    refine List.map_congr_left fun p hp => ?_
    rw [hl p.2 (by rw [hop]; simp only [Op.operands, List.mem_map]; exact ⟨p, hp, rfl⟩)]
  | app hop hti hsz h1 hR hx hb hw =>
    rename_i t s y ti i n m sz row row2
    have e1 := hl s (by rw [hop]; simp [Op.operands, Call.operands])
    have e2 := hl y (by rw [hop]; simp [Op.operands, Call.operands])
    exact .app hop hti hsz (e1.symm.trans h1) hR (by rw [← e2]; exact hx) hb (hwe.symm.trans hw)
  | appN hop hti hsz h1 hx hb hw =>
    rename_i t s y ti m sz row2
    have e1 := hl s (by rw [hop]; simp [Op.operands, Call.operands])
    have e2 := hl y (by rw [hop]; simp [Op.operands, Call.operands])
    exact .appN hop hti hsz (e1.symm.trans h1) (by rw [← e2]; exact hx) hb (hwe.symm.trans hw)
  | store hop hp hR hj hi hc hs hk hrow hw hdst =>
    rename_i t p y i r n sz row row' j k c
    have e1 := hl p (by rw [hop]; simp [Op.operands])
    have e2 := hl y (by rw [hop]; simp [Op.operands])
    exact .store hop (e1.symm.trans hp) hR hj hi (by rw [← e2]; exact hc) hs hk hrow (hwe.symm.trans hw) hdst
theorem set_over (R : List Reg) : R.set R.length .dead = R := by
  apply List.ext_getElem?
  intro k
  by_cases hkk : k = R.length
  · subst hkk; rw [List.getElem?_eq_none (by simp), List.getElem?_eq_none (by simp)]
  · rw [List.getElem?_set_ne (Ne.symm hkk)]
theorem EOp.run (hT : TyOK P tys) {o : Oper} {x : AV} {Rn : List Reg} (h : EOp tys G ops fr R o x Rn) (hf : Fits G E N w V β R fr a) : wantA ops fr o = some true ∧ ((∃ v w' V' β', (execOp a.eval o).run P w = .ok (.value v) w' ∧ Fits G E N w' V' β' Rn fr a ∧ Rep w' V' β' Rn x v) ∨ (o.dst = none ∧ ∃ w', (execOp a.eval o).run P w = .ok .skip w' ∧ Fits G E N w' V β Rn fr a)) := by
  cases h with
  | @litO t ti len sz parts l hop hti hsz hl hrf hb hw =>
    refine ⟨hw, .inl ?_⟩
    have hb := Nat.le_of_ble_eq_true hb
    rw [← hsz] at hl hb
    obtain ⟨cs, hc, hll, hrun⟩ := lit_run hT hf hti (by omega) hl hb
    have hro := rows_list (by omega) hc hrf hll
    have hsize : cs.size = len * ti.elem := by rw [← Array.length_toList, hc.len, hll]
    have hlen : len ≤ maxLen := by
      have : len * 1 ≤ len * ti.elem := Nat.mul_le_mul_left _ (by omega)
      simp only [maxLen]; omega
    obtain ⟨V', β', h1, h2⟩ := hf.newOwn R.length (w1 := w) (BelX.refl _ w) rfl (C := cs) (e := ti.el) hro hsize (Nat.le_refl _) hlen (by omega) (fun j q hj hq => by
      rw [List.getElem?_take, if_pos hq, List.getElem?_drop, Array.getElem?_toList])
    rw [set_over, hsz] at h1 h2
    refine ⟨.slice (some ⟨w.heap.size, 0, none⟩) len len, w.alloc (.cells cs ti.el), V', β', ?_, h1, h2⟩
    unfold execOp
    simp only [hop, Sem.run_bind, Sem.run_pure, Result.andThen_ok, List.map_toArray, hrun]
  | @app t s y ti i n m sz row row2 hop hti hsz hs hR hx hb hw =>
    refine ⟨hw, .inl ?_⟩
    obtain ⟨inf, z, hu, hinf, q1, q2, q3, q4, _⟩ := ty_el hT hti hsz
    have hrs := look_rep hf s
    rw [hs] at hrs
    obtain ⟨v', w', V', β', hrun, h1, h2⟩ := appendV_run (ty := o.type) hf hu hinf q3 (q1.trans hsz) q2 (q4.trans hsz) (Nat.succ_pos sz) (row2 := row2) (.inr ⟨hR, hrs⟩) (slV_rep (look_rep hf y) hx) hb.1 hb.2
    refine ⟨v', w', V', β', ?_, h1, h2⟩
    unfold execOp
    simp only [hop, resolve, invoke, builtin, Sem.run_bind, Sem.run_pure, Result.andThen_ok, List.map_toArray, List.map_cons, List.map_nil, hrun]
  | @appN t s y ti m sz row2 hop hti hsz hs hx hb hw =>
    refine ⟨hw, .inl ?_⟩
    obtain ⟨inf, z, hu, hinf, q1, q2, q3, q4, _⟩ := ty_el hT hti hsz
    have hrs := look_rep hf s
    rw [hs] at hrs
    obtain ⟨v', w', V', β', hrun, h1, h2⟩ := appendV_run (ty := o.type) (i := R.length) (row := row2) hf hu hinf q3 (q1.trans hsz) q2 (q4.trans hsz) (Nat.succ_pos sz) (row2 := row2) (.inl ⟨rfl, hrs.imm_inv⟩) (slV_rep (look_rep hf y) hx) (by omega) (by rw [Nat.zero_add]; exact hb.2)
    rw [set_over, Nat.zero_add] at h1 h2
    have h2 : Rep w' V' β' _ (.own R.length m (sz + 1) row2) v' := Ref.orows (fun j hj => by simp [appR]) _ _ _ _ _ h2
    refine ⟨v', w', V', β', ?_, h1, h2⟩
    unfold execOp
    simp only [hop, resolve, invoke, builtin, Sem.run_bind, Sem.run_pure, Result.andThen_ok, List.map_toArray, List.map_cons, List.map_nil, hrun]
  | @store t p y i r n sz row row' j k c hop hp hR hj hi hc hs hk hrow hw hdst =>
    exact ⟨hw, .inr ⟨hdst, store_runW hT hf hop hp hR hj hi hc hs hk hrow⟩⟩
/-- The same rows that may be written. -/
def SameM (R R' : List Reg) : Prop := ∀ (r n sz : Nat) (row : Nat → List AV), R[r]? = some (.mat n sz row) ↔ R'[r]? = some (.mat n sz row)
theorem SameM.symm {R R' : List Reg} (h : SameM R R') : SameM R' R := fun r n sz row => (h r n sz row).symm
theorem SameM.none {R R' : List Reg} (h : SameM R R') {r : Nat} (hn : ¬ ∃ n sz row, R[r]? = some (.mat n sz row)) : ¬ ∃ n sz row, R'[r]? = some (.mat n sz row) := fun ⟨n, sz, row, e⟩ => hn ⟨n, sz, row, (h r n sz row).2 e⟩
/-- As many cells that may be written. -/
def SameN (R R' : List Reg) : Prop := ∀ (r n sz : Nat), (∃ row, R[r]? = some (.mat n sz row)) ↔ ∃ row, R'[r]? = some (.mat n sz row)
theorem SameN.symm {R R' : List Reg} (h : SameN R R') : SameN R' R := fun r n sz => (h r n sz).symm
theorem SameM.n {R R' : List Reg} (h : SameM R R') : SameN R R' := fun r n sz => ⟨fun ⟨row, e⟩ => ⟨row, (h r n sz row).1 e⟩, fun ⟨row, e⟩ => ⟨row, (h r n sz row).2 e⟩⟩
/-- Such an operation leaves what is written and read by pointers, or it is a store. -/
theorem EOp.mats {o : Oper} {x : AV} {Rn : List Reg} (h : EOp tys G ops fr R o x Rn) : SameM R Rn ∨ (SameN R Rn ∧ o.dst = none ∧ wantA ops fr o = some true ∧ ∃ t p y r j k g, o.op = .store t p y ∧ look G fr p = .loc r j k ∧ Rn = R.set r g) := by
  have snoc : ∀ (R : List Reg) (e sz n : Nat), SameM R (R ++ [.arr e sz n]) := fun R e sz n r n' sz' row => by
    rcases Nat.lt_trichotomy r R.length with c | c | c
    · rw [List.getElem?_append_left c]
    · subst c; rw [List.getElem?_eq_none (Nat.le_refl _), List.getElem?_append_right (Nat.le_refl _), Nat.sub_self]; simp
    · rw [List.getElem?_eq_none (by omega), List.getElem?_eq_none (by simp; omega)]
  cases h with
  | litO => exact .inl (snoc _ _ _ _)
  | appN => exact .inl (snoc _ _ _ _)
  | @app t s y ti i n m sz row row2 hop hti hsz hs hR hx hb hw =>
    refine .inl ?_
    intro r n' sz' row'
    rw [← snoc _ _ _ _ r n' sz' row']
    by_cases c : i = r
    · subst c; rw [hR, List.getElem?_set_self (List.getElem?_eq_some_iff.1 hR).1]; simp
    · rw [List.getElem?_set_ne c]
  | @store t p y i r n sz row row2 j k c hop hp hR hj hi hc hs hk hrow hw hdst =>
    refine .inr ⟨fun r' n' sz' => ?_, hdst, hw, t, p, y, r, j, k, _, hop, hp, rfl⟩
    by_cases e : r = r'
    · subst e
      rw [hR, List.getElem?_set_self (List.getElem?_eq_some_iff.1 hR).1]
      constructor
      · rintro ⟨row', e⟩
        injection e with e
        injection e with a b d
        subst a; subst b
        exact ⟨_, rfl⟩
      · rintro ⟨row', e⟩
        injection e with e
        injection e with a b d
        subst a; subst b
        exact ⟨_, rfl⟩
    · rw [List.getElem?_set_ne e]
theorem matR_same {R' : List Reg} (h : SameM R R') (r j : Nat) : matR R r j = matR R' r j := by
  by_cases c : ∃ n sz row, R[r]? = some (.mat n sz row)
  · obtain ⟨n, sz, row, e⟩ := c
    unfold matR
    rw [e, (h r n sz row).1 e]
  · have c' := h.none c
    unfold matR
    split
    · rename_i e; exact absurd ⟨_, _, _, e⟩ c
    · split
      · rename_i e; exact absurd ⟨_, _, _, e⟩ c'
      · rfl
theorem opA_mat {R' : List Reg} (h : SameM R R') (op : Op) : opA tys G fr R op = opA tys G fr R' op := by
  have hm := matR_same h
  unfold opA
  split <;> try rfl
  all_goals (repeat' (first | rfl | rw [hm] | split))
  · rename_i e1 _ n2 sz2 row2 e2
    have e := (h _ _ _ _).1 e1
    rw [e2] at e
    injection e with e; injection e with a b d
    subst a; rfl
  · rename_i e _ f; exact (f _ _ _ ((h _ _ _ _).1 e)).elim
  · rename_i f _ n sz row e; exact (f _ _ _ ((h _ _ _ _).2 e)).elim
def loadB : Op → Bool
  | .load _ _ => true
  | _ => false
theorem matR_row {R' : List Reg} (h : SameN R R') (r j : Nat) : (matR R r j).isSome = (matR R' r j).isSome := by
  by_cases c : ∃ n sz row, R[r]? = some (.mat n sz row)
  · obtain ⟨n, sz, row, e⟩ := c
    obtain ⟨row', e'⟩ := (h r n sz).1 ⟨row, e⟩
    unfold matR
    rw [e, e']
    dsimp only
    cases Nat.blt j n <;> rfl
  · have c' : ¬ ∃ n sz row, R'[r]? = some (.mat n sz row) := fun ⟨n, sz, row, e⟩ => c (by
      obtain ⟨row', e'⟩ := (h r n sz).2 ⟨row, e⟩
      exact ⟨n, sz, row', e'⟩)
    unfold matR
    split
    · rename_i e; exact absurd ⟨_, _, _, e⟩ c
    · split
      · rename_i e; exact absurd ⟨_, _, _, e⟩ c'
      · rfl
theorem opA_row {R' : List Reg} (h : SameN R R') {op : Op} (hl : loadB op = false) : opA tys G fr R op = opA tys G fr R' op := by
  have hm := matR_row h
  have hk : ∀ (r j : Nat) (x : AV), (match matR R r j with | some _ => some x | none => none) = (match matR R' r j with | some _ => some x | none => none) := fun r j x => by
    have := hm r j
    cases e1 : matR R r j <;> cases e2 : matR R' r j <;> rw [e1, e2] at this <;> first | rfl | cases this
  have hn : ∀ (r : Nat), (match R[r]? with | some (.mat n _ _) => some (AV.imm (.int .i64 n)) | _ => none) = (match R'[r]? with | some (.mat n _ _) => some (AV.imm (.int .i64 n)) | _ => none) := fun r => by
    by_cases c : ∃ n sz row, R[r]? = some (.mat n sz row)
    · obtain ⟨n, sz, row, e⟩ := c
      obtain ⟨row', e'⟩ := (h r n sz).1 ⟨row, e⟩
      rw [e, e']
    · have c' : ¬ ∃ n sz row, R'[r]? = some (.mat n sz row) := fun ⟨n, sz, row, e⟩ => c (by
        obtain ⟨row', e'⟩ := (h r n sz).2 ⟨row, e⟩
        exact ⟨n, sz, row', e'⟩)
      split
      · rename_i e; exact absurd ⟨_, _, _, e⟩ c
      · split
        · rename_i e; exact absurd ⟨_, _, _, e⟩ c'
        · rfl
  unfold opA
  split <;> try rfl
  · cases hl
  all_goals (repeat' (first | rfl | exact hk _ _ _ | exact hn _ | split))
theorem opA_far {r : Nat} {g : Reg} {t : TypeId} {p : Operand} {r1 j k : Nat} (hp : look G fr p = .loc r1 j k) (hne : r1 ≠ r) : opA tys G fr R (.load t p) = opA tys G fr (R.set r g) (.load t p) := by
  have : matR R r1 j = matR (R.set r g) r1 j := by unfold matR; rw [List.getElem?_set_ne (Ne.symm hne)]
  simp only [opA, hp, this]
theorem QOp.reg {R' : List Reg} {o : Oper} {x : AV} (hn : SameN R R') (he : wantA ops fr o = some true → opA tys G fr R o.op = opA tys G fr R' o.op) (h : QOp P tys G R ops fr o x) : QOp P tys G R' ops fr o x := by
  cases h with
  | off hw => exact .off hw
  | pure hw hop => exact .pure hw ((he hw).symm.trans hop)
  | cmpT hw hop hp => exact .cmpT hw hop hp
  | cmpF hw hop hp => exact .cmpF hw hop hp
  | val hw hop => exact .val hw hop
  | idx hw hop hx hi he h0 h1 => exact .idx hw hop hx hi he h0 h1
  | idxM hw hop hx hR hi he h0 h1 =>
    obtain ⟨row', e⟩ := (hn _ _ _).1 ⟨_, hR⟩
    exact .idxM hw hop hx e hi he h0 h1
  | box hw hop hx hrf => exact .box hw hop hx hrf
  | call hw hop hc ha => exact .call hw hop hc ha
  | callv hw hop hq hc ha => exact .callv hw hop hq hc ha
  | lit hw hop hti hsz hl hrf hb => exact .lit hw hop hti hsz hl hrf hb
/-- Which region a load or a store is told to reach. -/
def rgOf (lo : List (Nat × Nat)) (o : Oper) : Option Nat := match o.op with
  | .load _ (.tmp p) => lo.lookup p
  | .store _ (.tmp p) _ => lo.lookup p
  | _ => none
def atB (r : Nat) : AV → Bool
  | .loc r' _ _ => Nat.beq r' r
  | _ => false
theorem atB_of {r : Nat} {x : AV} (h : atB r x = true) : ∃ j k, x = .loc r j k := by
  cases x <;> first | exact ⟨_, _, by rw [Nat.eq_of_beq_eq_true h]⟩ | cases h
/-- Does it reach the region that is told? -/
def rgB (lo : List (Nat × Nat)) (G : Glo) (fr : Fr) (o : Oper) : Bool := match o.op with
  | .load _ (.tmp p) => (match lo.lookup p with | some r => atB r (look G fr (.tmp p)) | none => true)
  | .store _ (.tmp p) _ => (match lo.lookup p with | some r => atB r (look G fr (.tmp p)) | none => true)
  | _ => true
def diffB (lo : List (Nat × Nat)) (oi oj : Oper) : Bool := match rgOf lo oi with
  | some a => (match rgOf lo oj with | some b => !Nat.beq a b | none => false)
  | none => false
theorem rgB_local {lo : List (Nat × Nat)} {o : Oper} (hs : ∀ t ∈ o.looksAt ops, fr t = fr' t) : rgB lo G fr o = rgB lo G fr' o := by
  have hl := look_same (G := G) hs
  unfold rgB
  split
  · rename_i hop; rw [hl _ (by rw [hop]; simp [Op.operands])]
  · rename_i hop; rw [hl _ (by rw [hop]; simp [Op.operands])]
  · rfl
/-- What a load or a store reaches that is told. -/
theorem rg_at {lo : List (Nat × Nat)} {o : Oper} {r : Nat} (h : rgOf lo o = some r) (hb : rgB lo G fr o = true) : ∃ p j k, look G fr p = .loc r j k ∧ ((∃ t, o.op = .load t p) ∨ ∃ t x, o.op = .store t p x) := by
  unfold rgOf at h
  unfold rgB at hb
  split at h
  · rename_i t p hop
    rw [hop] at hb
    simp only [h] at hb
    obtain ⟨j, k, e⟩ := atB_of hb
    exact ⟨_, j, k, e, .inl ⟨_, hop⟩⟩
  · rename_i t p x hop
    rw [hop] at hb
    simp only [h] at hb
    obtain ⟨j, k, e⟩ := atB_of hb
    exact ⟨_, j, k, e, .inr ⟨_, _, hop⟩⟩
  · cases h
def freeB : Op → Bool
  | .load _ _ => false
  | .store _ _ _ => false
  | _ => true
theorem rgB_free {lo : List (Nat × Nat)} {o : Oper} (h : freeB o.op = true) : rgB lo G fr o = true := by
  unfold rgB
  split
  · rename_i hop; rw [hop] at h; cases h
  · rename_i hop; rw [hop] at h; cases h
  · rfl
theorem cmp_free {op : Op} {p : Prop} (h : CmpA G fr op p) : freeB op = true := by cases h <;> rfl
theorem val_free {op : Op} {x : AV} (h : ValA tys G fr op x) : freeB op = true := by
  cases h with
  | bin h => cases h <;> rfl
  | _ => rfl
/-- Does the operation turn the regions? -/
def evB (es : List Nat) (o : Oper) : Bool := match o.dst with
  | some d => es.contains d
  | none => true
/-- One operation: it leaves the regions, or it is one of those whose order among each other is told. -/
def SOp (P : Program) (tys : Tys) (G : Glo) (es : List Nat) (lo : List (Nat × Nat)) (ops : Array Oper) (fr : Fr) (R : List Reg) (o : Oper) (x : AV) (Rn : List Reg) : Prop := ((QOp P tys G R ops fr o x ∧ Rn = R) ∨ (evB es o = true ∧ EOp tys G ops fr R o x Rn)) ∧ (wantA ops fr o = some true → rgB lo G fr o = true)
theorem SOp.local_ {es : List Nat} {lo : List (Nat × Nat)} {o : Oper} {x : AV} {Rn : List Reg} (h : SOp P tys G es lo ops fr R o x Rn) (hs : ∀ t ∈ o.looksAt ops, fr t = fr' t) : SOp P tys G es lo ops fr' R o x Rn :=
  ⟨h.1.imp (fun h => ⟨h.1.local_ hs, h.2⟩) (fun h => ⟨h.1, h.2.local_ hs⟩), fun hw => (rgB_local hs).symm.trans (h.2 ((want_same hs).trans hw))⟩
/-- One operation of the region. -/
def qF (P : Program) (tys : Tys) (G : Glo) (N : Nat) (es : List Nat) (lo : List (Nat × Nat)) (ops : Array Oper) (i : Nat) (K : Kont) (fr : Fr) (R : List Reg) : Prop :=
  ∀ o, ops[i]? = some o → ∃ x Rn, dstOK N o.dst = true ∧ SOp P tys G es lo ops fr R o x Rn ∧ K (updO fr o.dst x) Rn
def anyF (P : Program) (tys : Tys) (G : Glo) (N : Nat) (es : List Nat) (lo : List (Nat × Nat)) (md : Region.Mode) (ops : Array Oper) (K : Kont) : Nat → Array Bool → Kont
  | 0, listed, fr, R => Region.ready md ops listed = [] ∧ K fr R
  | fuel + 1, listed, fr, R => (Region.ready md ops listed = [] → K fr R) ∧ ∀ i ∈ Region.ready md ops listed, qF P tys G N es lo ops i (anyF P tys G N es lo md ops K fuel (listed.setIfInBounds i true)) fr R
variable {es : List Nat} {lo : List (Nat × Nat)}
theorem qF_mono {i : Nat} {K K' : Kont} (h : ∀ fr R, K fr R → K' fr R) (hq : qF P tys G N es lo ops i K fr R) : qF P tys G N es lo ops i K' fr R := fun o ho => by
  obtain ⟨x, Rn, h2, h3, h4⟩ := hq o ho
  exact ⟨x, Rn, h2, h3, h _ _ h4⟩
theorem upd_comm {d e : Nat} {x y : AV} (h : d ≠ e) : upd (upd fr d x) e y = upd (upd fr e y) d x := by
  funext t
  simp only [upd_eq]
  by_cases h1 : t = e
  · rw [if_pos h1, if_neg (fun h2 : t = d => h (h2.symm.trans h1)), if_pos h1]
  · by_cases h2 : t = d
    · rw [if_neg h1, if_pos h2, if_pos h2]
    · rw [if_neg h1, if_neg h2, if_neg h2, if_neg h1]
theorem updO_comm {d e : Option Nat} {x y : AV} (h : ∀ t, d = some t → e ≠ some t) : updO (updO fr d x) e y = updO (updO fr e y) d x := by
  cases d with
  | none => rfl
  | some d => cases e with
    | none => rfl
    | some e => exact upd_comm (fun c => h d rfl (by rw [c]))
theorem updO_ne {d : Option Nat} {x : AV} {t : Nat} (h : d ≠ some t) : updO fr d x t = fr t := by
  cases d with
  | none => rfl
  | some d => show upd fr d x t = fr t; rw [upd_eq, if_neg (fun c => h (by rw [c]))]
/-- May two operations come in either order? Not two that turn the regions, nor a store and a load. -/
def toldB (es : List Nat) (lo : List (Nat × Nat)) (oi oj : Oper) : Bool := !(evB es oi && evB es oj) && (diffB lo oi oj || (!(oi.dst.isNone && loadB oj.op) && !(loadB oi.op && oj.dst.isNone)))
theorem diff_symm {oi oj : Oper} (h : diffB lo oi oj = true) : diffB lo oj oi = true := by
  unfold diffB at *
  cases e1 : rgOf lo oi with
  | none => rw [e1] at h; cases h
  | some a =>
    cases e2 : rgOf lo oj with
    | none => rw [e1, e2] at h; cases h
    | some b =>
      rw [e1, e2] at h
      simp only [Bool.not_eq_true'] at h ⊢
      cases c : Nat.beq b a with
      | false => rfl
      | true => rw [Nat.eq_of_beq_eq_true c, Nat.beq_refl] at h; cases h
/-- A load reaches another region than a store. -/
theorem far {oi oj : Oper} {t : TypeId} {p y : Operand} {r j k : Nat} {g : Reg} (h1 : rgB lo G fr oi = true) (h2 : rgB lo G fr oj = true) (hl : loadB oi.op = true) (hop : oj.op = .store t p y) (hp : look G fr p = .loc r j k) (hd : diffB lo oi oj = true) : opA tys G fr R oi.op = opA tys G fr (R.set r g) oi.op := by
  unfold diffB at hd
  cases e1 : rgOf lo oi with
  | none => rw [e1] at hd; cases hd
  | some a =>
    cases e2 : rgOf lo oj with
    | none => rw [e1, e2] at hd; cases hd
    | some b =>
      rw [e1, e2] at hd
      simp only [Bool.not_eq_true'] at hd
      obtain ⟨p1, j1, k1, q1, q2⟩ := rg_at e1 h1
      obtain ⟨p2, j2, k2, q3, q4⟩ := rg_at e2 h2
      have hb : r = b := by
        rcases q4 with ⟨t', q4⟩ | ⟨t', x', q4⟩
        · rw [hop] at q4; cases q4
        · rw [hop] at q4; injection q4 with e3 e4 e5; subst e4; rw [hp] at q3; injection q3
      rcases q2 with ⟨t', q2⟩ | ⟨t', x', q2⟩
      · rw [q2]
        exact opA_far q1 (fun e => by rw [e, hb, Nat.beq_refl] at hd; cases hd)
      · rw [q2] at hl; cases hl
theorem qF_put {j : Nat} {oi oj : Oper} {x : AV} {Rn : List Reg} (hj : ops[j]? = some oj) (hap : oi.apart ops oj = true) (htl : toldB es lo oi oj = true) (hq : SOp P tys G es lo ops fr R oi x Rn) {K : Kont} (h : qF P tys G N es lo ops j K (updO fr oi.dst x) Rn) :
    qF P tys G N es lo ops j (fun fr' R' => ∃ Rm, SOp P tys G es lo ops fr' R' oi x Rm ∧ K (updO fr' oi.dst x) Rm) fr R := fun o ho => by
  obtain ⟨h1, h2, h3⟩ := Oper.apart_spec hap
  rw [hj] at ho
  obtain rfl := Option.some.inj ho
  obtain ⟨y, Rj, hb, hy, hk⟩ := h oj hj
  have l1 : ∀ t ∈ oj.looksAt ops, updO fr oi.dst x t = fr t := fun t ht => updO_ne (fun c => h1 t c ht)
  have l2 : ∀ t ∈ oi.looksAt ops, fr t = updO fr oj.dst y t := fun t ht => (updO_ne (fun c => h3 t c ht)).symm
  rw [updO_comm h2] at hk
  have hy2 := hy.local_ l1
  unfold toldB at htl
  simp only [Bool.and_eq_true, Bool.or_eq_true, Bool.not_eq_true'] at htl
  obtain ⟨t1, t2⟩ := htl
  obtain ⟨hq, hg⟩ := hq
  obtain ⟨hy2, hg2⟩ := hy2
  have hgl : wantA ops (updO fr oj.dst y) oi = some true → rgB lo G (updO fr oj.dst y) oi = true := fun hw => (rgB_local l2).symm.trans (hg ((want_same l2).trans hw))
  rcases hq with ⟨hq, rfl⟩ | ⟨hc, hq⟩
  · rcases hy2 with ⟨hy2, rfl⟩ | ⟨hc2, hy2⟩
    · exact ⟨y, _, hb, ⟨.inl ⟨hy2, rfl⟩, hg2⟩, _, ⟨.inl ⟨hq.local_ l2, rfl⟩, hgl⟩, hk⟩
    · refine ⟨y, _, hb, ⟨.inr ⟨hc2, hy2⟩, hg2⟩, _, ⟨.inl ⟨(hq.reg (hy2.mats.elim (·.n) (·.1)) (fun hw => ?_)).local_ l2, rfl⟩, hgl⟩, hk⟩
      rcases hy2.mats with hm | ⟨hn, hd, hw2, t, p, z, r, j', k', g, hop, hp, rfl⟩
      · exact opA_mat hm _
      · cases hl : loadB oi.op with
        | false => exact opA_row hn hl
        | true => exact far (hg hw) (hg2 hw2) hl hop hp (t2.resolve_right (fun h => by have := h.2; rw [hl, hd] at this; cases this))
  · rcases hy2 with ⟨hy2, rfl⟩ | ⟨hc2, hy2⟩
    · refine ⟨y, _, hb, ⟨.inl ⟨hy2.reg (hq.mats.elim (·.n.symm) (·.1.symm)) (fun hw => ?_), rfl⟩, hg2⟩, _, ⟨.inr ⟨hc, hq.local_ l2⟩, hgl⟩, hk⟩
      rcases hq.mats with hm | ⟨hn, hd, hw2, t, p, z, r, j', k', g, hop, hp, rfl⟩
      · exact (opA_mat hm _).symm
      · cases hl : loadB oj.op with
        | false => exact (opA_row hn hl).symm
        | true => exact (far (hg2 hw) (hg hw2) hl hop hp (diff_symm (t2.resolve_right (fun h => by have := h.1; rw [hl, hd] at this; cases this)))).symm
    · rw [hc, hc2] at t1
      cases t1
theorem listed_no {listed : Array Bool} {i : Nat} (h0 : listed.getD i true = false) (h1 : listed.getD i false = true) : False := by
  rcases Nat.lt_or_ge i listed.size with h' | h'
  · simp [h'] at h0 h1; rw [h0] at h1; cases h1
  · simp [Array.getElem?_eq_none h'] at h1
theorem anyF_first {K : Kont} {i : Nat} {oi : Oper} {x : AV} (hi : ops[i]? = some oi) (hdN : dstOK N oi.dst = true) (Bl : Nat → Bool)
    (hBl : ∀ j, Bl j = true → ∃ oj, ops[j]? = some oj ∧ ∃ e ∈ oj.after, Region.binds md e = true ∧ (e.on = i ∨ Bl e.on = true)) :
    ∀ (fuel : Nat) (listed : Array Bool) (fr : Fr) (R Rn : List Reg),
      (∀ j oj, ops[j]? = some oj → j ≠ i → listed.getD j true = false → (∀ e ∈ oj.after, Region.binds md e = true → e.on ≠ i) → oi.apart ops oj = true ∧ (Bl j = false → toldB es lo oi oj = true)) →
      (∀ j, Bl j = true → listed.getD j true = false) →
      i ∈ Region.ready md ops listed → SOp P tys G es lo ops fr R oi x Rn →
      anyF P tys G N es lo md ops K fuel (listed.setIfInBounds i true) (updO fr oi.dst x) Rn → anyF P tys G N es lo md ops K (fuel + 1) listed fr R := by
  have own : ∀ {K' : Kont} {fr : Fr} {R Rn : List Reg}, SOp P tys G es lo ops fr R oi x Rn → K' (updO fr oi.dst x) Rn → qF P tys G N es lo ops i K' fr R := fun hq hk o ho => by
    rw [hi] at ho
    obtain rfl := Option.some.inj ho
    exact ⟨x, _, hdN, hq, hk⟩
  intro fuel
  induction fuel with
  | zero =>
    intro listed fr R Rn _ _ hr hy H
    refine ⟨fun h => (by rw [h] at hr; cases hr), fun j hj => ?_⟩
    by_cases hji : j = i
    · subst hji; exact own hy H
    · have := ready_mono hj hji
      rw [H.1] at this
      cases this
  | succ fuel ih =>
    intro listed fr R Rn hfree hun hr hy H
    refine ⟨fun h => (by rw [h] at hr; cases hr), fun j hj => ?_⟩
    by_cases hji : j = i
    · subst hji; exact own hy H
    · have h1 := H.2 j (ready_mono hj hji)
      obtain ⟨hjun, oj, hoj, hall⟩ := mem_ready.1 hj
      have hno : ∀ e ∈ oj.after, Region.binds md e = true → listed.getD e.on true = false → False := fun e he hb h0 => listed_no h0 (hall e he hb)
      have hnot : ∀ e ∈ oj.after, Region.binds md e = true → e.on ≠ i := fun e he hb heq => hno e he hb (by rw [heq]; exact (mem_ready.1 hr).1)
      have hBj : Bl j = false := by
        cases hb : Bl j with
        | false => rfl
        | true =>
          obtain ⟨oj', e1, e, he, hbd, h⟩ := hBl j hb
          rw [hoj] at e1
          obtain rfl := Option.some.inj e1
          rcases h with h | h
          · exact absurd h (hnot e he hbd)
          · exact (hno e he hbd (hun _ h)).elim
      have hfj := hfree j oj hoj hji hjun hnot
      have h2 := qF_put hoj hfj.1 (hfj.2 hBj) hy h1
      have hfree' : ∀ k ok, ops[k]? = some ok → k ≠ i → (listed.setIfInBounds j true).getD k true = false →
          (∀ e ∈ ok.after, Region.binds md e = true → e.on ≠ i) → oi.apart ops ok = true ∧ (Bl k = false → toldB es lo oi ok = true) := fun k ok hk hki hun hno => by
        refine hfree k ok hk hki ?_ hno
        by_cases hjk : j = k
        · subst hjk; exact hjun
        · rw [getD_set_ne true hjk] at hun; exact hun
      have hun' : ∀ k, Bl k = true → (listed.setIfInBounds j true).getD k true = false := fun k hk => by
        have hjk : j ≠ k := fun c => by rw [← c, hBj] at hk; cases hk
        rw [getD_set_ne true hjk]
        exact hun k hk
      refine qF_mono (fun fr' R' h3 => ?_) h2
      obtain ⟨Rm, h3, h4⟩ := h3
      refine ih (listed.setIfInBounds j true) fr' R' Rm hfree' hun' (ready_mono hr (Ne.symm hji)) h3 ?_
      rw [Array.setIfInBounds_comm _ _ hji]
      exact h4
/-- Does an operation wait for another one, by way of others? -/
def blkB (md : Region.Mode) (ops : Array Oper) (i : Nat) : Nat → Nat → Bool
  | 0, _ => false
  | f + 1, j => match ops[j]? with
    | some oj => oj.after.any (fun e => Region.binds md e && (e.on == i || blkB md ops i f e.on))
    | none => false
theorem blk_step {i f j : Nat} (h : blkB md ops i (f + 1) j = true) : ∃ oj, ops[j]? = some oj ∧ ∃ e ∈ oj.after, Region.binds md e = true ∧ (e.on = i ∨ blkB md ops i f e.on = true) := by
  unfold blkB at h
  split at h
  · rename_i oj hj
    obtain ⟨e, he, hb⟩ := Array.any_eq_true'.1 h
    rw [Bool.and_eq_true, Bool.or_eq_true, beq_iff_eq] at hb
    exact ⟨oj, hj, e, he, hb⟩
  · cases h
theorem blk_mono {i : Nat} : ∀ {f j : Nat}, blkB md ops i f j = true → blkB md ops i (f + 1) j = true
  | 0, _, h => by cases h
  | f + 1, j, h => by
    obtain ⟨oj, hj, e, he, hb, hc⟩ := blk_step h
    unfold blkB
    rw [hj]
    refine Array.any_eq_true'.2 ⟨e, he, ?_⟩
    rw [Bool.and_eq_true, Bool.or_eq_true, beq_iff_eq]
    exact ⟨hb, hc.imp id blk_mono⟩
theorem blk_dep {i f j : Nat} (h : blkB md ops i f j = true) : ∃ oj, ops[j]? = some oj ∧ ∃ e ∈ oj.after, Region.binds md e = true ∧ (e.on = i ∨ blkB md ops i f e.on = true) := by
  cases f with
  | zero => cases h
  | succ f =>
    obtain ⟨oj, hj, e, he, hb, hc⟩ := blk_step h
    exact ⟨oj, hj, e, he, hb, hc.imp id blk_mono⟩
/-- The operations that turn the regions come one behind the other. -/
def esFree (md : Region.Mode) (es : List Nat) (lo : List (Nat × Nat)) (ops : Array Oper) (listed : Array Bool) (i : Nat) : Bool :=
  match ops[i]? with
  | none => false
  | some oi => ((List.range ops.size).all fun j => j == i || (listed.getD j true || match ops[j]? with
      | some oj => toldB es lo oi oj
      | none => true)) || (((List.range ops.size).all fun j => j == i || (listed.getD j true || match ops[j]? with
      | some oj => toldB es lo oi oj || blkB md ops i 5 j
      | none => true)) && ((List.range ops.size).all fun j => !listed.getD j true || !blkB md ops i 5 j))
theorem esFree_spec {i : Nat} {oi : Oper} {listed : Array Bool} (hi : ops[i]? = some oi) (h : esFree md es lo ops listed i = true) :
    ∃ Bl : Nat → Bool, (∀ j, Bl j = true → ∃ oj, ops[j]? = some oj ∧ ∃ e ∈ oj.after, Region.binds md e = true ∧ (e.on = i ∨ Bl e.on = true)) ∧ (∀ j, Bl j = true → listed.getD j true = false) ∧
      ∀ j oj, ops[j]? = some oj → j ≠ i → listed.getD j true = false → Bl j = false → toldB es lo oi oj = true := by
  unfold esFree at h
  rw [hi] at h
  dsimp only at h
  rw [Bool.or_eq_true] at h
  rcases h with h | h
  · refine ⟨fun _ => false, (fun j h => by cases h), (fun j h => by cases h), fun j oj hj hne hun _ => ?_⟩
    have hjs : j < ops.size := (Array.getElem?_eq_some_iff.1 hj).1
    have := List.all_eq_true.1 h j (List.mem_range.2 hjs)
    rw [hj, hun] at this
    simp only [Bool.or_eq_true, beq_iff_eq] at this
    rcases this with h1 | h1 | h1
    · exact absurd h1 hne
    · cases h1
    · exact h1
  · rw [Bool.and_eq_true] at h
    refine ⟨blkB md ops i 5, fun j h => blk_dep h, fun j hb => ?_, fun j oj hj hne hun hnb => ?_⟩
    · obtain ⟨oj, hj, _⟩ := blk_dep hb
      have hjs : j < ops.size := (Array.getElem?_eq_some_iff.1 hj).1
      have := List.all_eq_true.1 h.2 j (List.mem_range.2 hjs)
      rw [hb] at this
      simpa using this
    · have hjs : j < ops.size := (Array.getElem?_eq_some_iff.1 hj).1
      have := List.all_eq_true.1 h.1 j (List.mem_range.2 hjs)
      rw [hj, hun] at this
      simp only [Bool.or_eq_true, beq_iff_eq] at this
      rcases this with h1 | h1 | h1 | h1
      · exact absurd h1 hne
      · cases h1
      · exact h1
      · rw [hnb] at h1; cases h1
def esFrom (md : Region.Mode) (es : List Nat) (lo : List (Nat × Nat)) (ops : Array Oper) : Nat → Nat → Array Bool → Bool
  | 0, _, _ => true
  | fuel + 1, k, listed => esFree md es lo ops listed k && esFrom md es lo ops fuel (k + 1) (listed.setIfInBounds k true)
/-- The region's operations in the order of the text. -/
inductive DOps (P : Program) (tys : Tys) (G : Glo) (N : Nat) (es : List Nat) (lo : List (Nat × Nat)) (ops : Array Oper) (K : Kont) : List Oper → Fr → List Reg → Prop
  | nil {fr : Fr} {R : List Reg} (h : K fr R) : DOps P tys G N es lo ops K [] fr R
  | stp {o : Oper} {rest : List Oper} {fr : Fr} {R : List Reg} {x : AV} (hq : QOp P tys G R ops fr o x) (hg : wantA ops fr o = some true → rgB lo G fr o = true) (hd : dstOK N o.dst = true) (h : DOps P tys G N es lo ops K rest (updO fr o.dst x) R) : DOps P tys G N es lo ops K (o :: rest) fr R
  | eve {o : Oper} {rest : List Oper} {fr : Fr} {R Rn : List Reg} {x : AV} (hq : EOp tys G ops fr R o x Rn) (hg : wantA ops fr o = some true → rgB lo G fr o = true) (he : evB es o = true) (hd : dstOK N o.dst = true) (h : DOps P tys G N es lo ops K rest (updO fr o.dst x) Rn) : DOps P tys G N es lo ops K (o :: rest) fr R
theorem DOps.step {K : Kont} {o : Oper} {d : Tmp} {rest : List Oper} {fr : Fr} {R : List Reg} {x : AV} (hq : QOp P tys G R ops fr o x) (hg : wantA ops fr o = some true → rgB lo G fr o = true) (hdst : o.dst = some d) (hd : Nat.blt d N = true) (h : DOps P tys G N es lo ops K rest (upd fr d x) R) : DOps P tys G N es lo ops K (o :: rest) fr R :=
  .stp hq hg (by rw [hdst]; exact hd) (by rw [hdst]; exact h)
theorem DOps.eff {K : Kont} {o : Oper} {d : Tmp} {rest : List Oper} {fr : Fr} {R Rn : List Reg} {x : AV} (hq : EOp tys G ops fr R o x Rn) (hg : wantA ops fr o = some true → rgB lo G fr o = true) (hdst : o.dst = some d) (he : es.contains d = true) (hd : Nat.blt d N = true) (h : DOps P tys G N es lo ops K rest (upd fr d x) Rn) : DOps P tys G N es lo ops K (o :: rest) fr R :=
  .eve hq hg (by unfold evB; rw [hdst]; exact he) (by rw [hdst]; exact hd) (by rw [hdst]; exact h)
theorem anyF_lex {K : Kont} (hs : Region.noSelect ops = true) : ∀ (l : List Oper) (k : Nat) (listed : Array Bool) (fr : Fr) (R : List Reg), (∀ j, l[j]? = ops[k + j]?) →
    Region.lexFrom md ops l.length k listed = true → esFrom md es lo ops l.length k listed = true → DOps P tys G N es lo ops K l fr R → anyF P tys G N es lo md ops K l.length listed fr R
  | [], _, _, _, _, _, hB, _, .nil h => ⟨by simpa [Region.lexFrom] using hB, h⟩
  | o :: l, k, listed, fr, R, hl, hB, hE, h => by
    have h0 : ops[k]? = some o := by simpa using (hl 0).symm
    simp only [List.length_cons, Region.lexFrom, Bool.and_eq_true] at hB
    obtain ⟨⟨hr, hf⟩, hB'⟩ := hB
    simp only [List.length_cons, esFrom, Bool.and_eq_true] at hE
    obtain ⟨Bl, b1, b2, b3⟩ := esFree_spec h0 hE.1
    have hfr : ∀ j oj, ops[j]? = some oj → j ≠ k → listed.getD j true = false → (∀ e ∈ oj.after, Region.binds md e = true → e.on ≠ k) → o.apart ops oj = true ∧ (Bl j = false → toldB es lo o oj = true) := fun j oj hj hne hun hno => ⟨Region.free_spec h0 hf j oj hj hne hun hno, b3 j oj hj hne hun⟩
    have nx : ∀ j, l[j]? = ops[k + 1 + j]? := fun j => by have := hl (j + 1); simpa [Nat.add_assoc, Nat.add_comm 1 j] using this
    cases h with
    | stp hq hg hd h => exact anyF_first h0 hd Bl b1 l.length listed fr R R hfr b2 (by simpa using hr) ⟨.inl ⟨hq, rfl⟩, hg⟩ (anyF_lex hs l (k + 1) _ _ _ nx hB' hE.2 h)
    | eve hq hg he hd h => exact anyF_first h0 hd Bl b1 l.length listed fr R _ hfr b2 (by simpa using hr) ⟨.inr ⟨he, hq⟩, hg⟩ (anyF_lex hs l (k + 1) _ _ _ nx hB' hE.2 h)
theorem litQ_run (hT : TyOK P tys) (hf : Fits G E N w V β R fr a) {o : Oper} {t : TypeId} {ti : TI} {len sz : Nat} {parts : List (Nat × Operand)} {l : List AV} (hop : o.op = .buildSlice t len ⟨parts⟩) (hti : ty tys t = some ti) (hsz : ti.elem = sz + 1) (hl : litA (sz + 1) len (parts.map (fun p => (p.1, look G fr p.2))) = some l) (hrf : rf.rfL l = true) (hb : Nat.ble (len * (sz + 1)) 16777216 = true) : ∃ v w' V', (execOp a.eval o).run P w = .ok (.value v) w' ∧ Fits G E N w' V' β R fr a ∧ Rep w' V' β R (.sl len (sz + 1) (litR (sz + 1) l)) v := by
  have hb := Nat.le_of_ble_eq_true hb
  rw [← hsz] at hl hb
  obtain ⟨cs, hc, hll, hrun⟩ := lit_run hT hf hti (by omega) hl hb
  have hro := rows_list (by omega) hc hrf hll
  obtain ⟨V', h1, h2, hg⟩ := hf.box hc hrf ti.el
  have hcs : cs.toList.toArray = cs := by simp
  rw [hcs] at h1 h2 hg
  refine ⟨.slice (some ⟨w.heap.size, 0, none⟩) len len, w.alloc (.cells cs ti.el), V', ?_, h1, ?_⟩
  · unfold execOp
    simp only [hop, Sem.run_bind, Sem.run_pure, Result.andThen_ok, List.map_toArray, hrun]
  · obtain ⟨ad, vs, e1, p1, p2, p3, p4⟩ := h2.ptr_inv.ptr_inv
    injection e1 with e1; injection e1 with e1; subst e1
    rw [← hsz]
    refine .st (.sl len ti.elem _ _ len ⟨w.heap.size, 0, none⟩ (fun j => (vs.drop (j * ti.elem)).take ti.elem) (Nat.le_refl _) (fun _ => rfl) (fun j hj => ⟨(hro.len j hj).1, ?_⟩) (fun j hj v hv => p2 v (List.mem_of_mem_drop (List.mem_of_mem_take hv))) (fun j q v hj hv => ?_) (fun j q x v hj hx hv => ?_))
    · have := mul_lt_of (sz := ti.elem) hj
      rw [List.length_take, List.length_drop, p1, hll]; omega
    · rw [List.getElem?_take] at hv
      split at hv
      · rw [List.getElem?_drop] at hv; exact p3 _ v hv
      · cases hv
    · unfold litR at hx
      rw [List.getElem?_take] at hv hx
      split at hv
      · rename_i hlt
        rw [if_pos hlt, List.getElem?_drop] at hx
        rw [List.getElem?_drop] at hv
        exact p4 _ x v hx hv
      · cases hv
/-- Such an operation, carried out. -/
theorem QOp.wp_ (hT : TyOK P tys) {o : Oper} {x : AV} (hq : QOp P tys G R ops fr o x) (hd2 : dstOK N o.dst = true) (hf : Fits G E N w V β R fr a) {Q : Exit → Act → World → Prop} {K : Act → World → Prop} (hn : ∀ w' V' a', Fits G E N w' V' β R (updO fr o.dst x) a' → K a' w') {i : Nat} (hi : ops[i]? = some o) : wpOp P ops Q i K a w := by
  have val : ∀ {v : Value}, Region.wanted o (yielded ops a.tmps) = true → (execOp a.eval o).run P w = .ok (.value v) w → Rep w V β R x v → wpOp P ops Q i K a w := fun {v} hw hr hv => by
    unfold wpOp
    rw [hi]
    simp only
    rw [if_pos hw]
    refine .inl ?_
    unfold Oper.wp
    rw [hr]
    have := hf.put hd2 hv
    exact hn _ _ _ this
  have cal : ∀ {f : FuncId} {vs : List Value} {args : List AV}, Region.wanted o (yielded ops a.tmps) = true → (execOp a.eval o).run P w = .ok (.enter f vs.toArray) w → CallOK P G f args x → vs.length = args.length → (∀ (i : Nat) (a : AV) (v : Value), args[i]? = some a → vs[i]? = some v → Rep0 V a v) → wpOp P ops Q i K a w := fun {f vs args} hw hr hc hl hv => by
    unfold wpOp
    rw [hi]
    simp only
    rw [if_pos hw]
    refine .inl ?_
    unfold Oper.wp
    rw [hr, Oper.upon_enter]
    refine (hc.run w V vs hf.wld.sub hf.glo hl hv).mono ?_
    rintro e w' ⟨v, V', rfl, hg, hx⟩
    have := (hf.grow hg).put hd2 (.st hx)
    exact hn w' V' _ this
  cases hq with
  | off hw =>
    unfold wpOp
    rw [hi]
    simp only
    rw [want_of hf hw, if_neg Bool.false_ne_true]
    have := hf.put hd2 (.st (.imm undef))
    exact hn _ _ _ this
  | pure hw hop => obtain ⟨v, hv, hr⟩ := opA_run hT hf o hop; exact val (want_of hf hw) hr hv
  | cmpT hw hop hp =>
    obtain ⟨b, hb, hr⟩ := cmp_run (P := P) hf hop
    obtain rfl : b = true := hb.2 hp
    exact val (want_of hf hw) hr (.st (.imm _))
  | cmpF hw hop hp =>
    obtain ⟨b, hb, hr⟩ := cmp_run (P := P) hf hop
    obtain rfl : b = false := by
      cases b with
      | false => rfl
      | true => exact absurd (hb.1 rfl) hp
    exact val (want_of hf hw) hr (.st (.imm _))
  | val hw hop => obtain ⟨v, hv, hr⟩ := val_run hT hf hop; exact val (want_of hf hw) hr hv
  | idx hw hop hx hi' he h0 h1 => obtain ⟨v, hv, hr⟩ := idx_run hT hf hop hx hi' he h0 h1; exact val (want_of hf hw) hr hv
  | idxM hw hop hx hR hi' he h0 h1 => obtain ⟨v, hv, hr⟩ := idxM_run hT hf hop hx hR hi' he h0 h1; exact val (want_of hf hw) hr hv
  | @box t y l hw hop hx hrf =>
    have hc := one_of (look_rep hf y) hx
    obtain ⟨V', h1, h2, _⟩ := hf.box hc hrf t
    unfold wpOp
    rw [hi]
    simp only
    rw [if_pos (want_of hf hw)]
    refine .inl ?_
    unfold Oper.wp
    have hr : ∃ v w', (execOp a.eval o).run P w = .ok (.value v) w' ∧ Fits G E N w' V' β R fr a ∧ Rep w' V' β R (.ptr l) v := ⟨_, _, by
      simp [execOp, hop, Instr.box, newVar, newRow, newObj]
      rfl, h1, h2⟩
    obtain ⟨v, w', hr, hf', hv⟩ := hr
    rw [hr]
    exact hn w' V' _ (hf'.put hd2 hv)
  | lit hw hop hti hsz hl hrf hb =>
    obtain ⟨v, w', V', hr, hf', hv⟩ := litQ_run hT hf hop hti hsz hl hrf hb
    unfold wpOp
    rw [hi]
    simp only
    rw [if_pos (want_of hf hw)]
    refine .inl ?_
    unfold Oper.wp
    rw [hr]
    have := hf'.put hd2 hv
    exact hn w' V' _ this
  | @call f as ts args x hw hop hc ha => exact cal (want_of hf hw) (call_run hop hc.ent) hc (by rw [← ha.len, List.length_map, List.length_map]) (ha.rep (list_rep hf as))
  | @callv f q cs as ts args x hw hop hq hc ha =>
    have hrq := look_rep hf q
    rw [hq] at hrq
    obtain ⟨us, e, hl, hr⟩ := hrq.fn_inv
    refine cal (want_of hf hw) (callv_run hop e hc.ent) hc (by rw [← ha.len, List.length_append, List.length_append, List.length_map, List.length_map, hl]) (ha.rep (w := w) (β := β) (R := R) (fun i x v h1 h2 => ?_))
    by_cases c : i < as.length
    · rw [List.getElem?_append_left (by simpa using c)] at h1 h2
      exact list_rep hf as i x v h1 h2
    · rw [List.getElem?_append_right (by simp; omega)] at h1 h2
      simp only [List.length_map] at h1 h2
      exact hr _ x v h1 h2
theorem any_of_F (hT : TyOK P tys) {K : Kont} {Q : Exit → Act → World → Prop} (hQ : ∀ w V β a fr R, Fits G E N w V β R fr a → K fr R → Q .normal a w) : ∀ (fuel : Nat) (listed : Array Bool) (fr : Fr) (R : List Reg) (w : World) (V : View) (β : Bnd) (a : Act), Fits G E N w V β R fr a →
    anyF P tys G N es lo md ops K fuel listed fr R → wpAny P md ops Q fuel listed a w
  | 0, _, fr, R, w, V, β, a, hf, h => ⟨h.1, hQ w V β a fr R hf h.2⟩
  | fuel + 1, _, fr, R, w, V, β, a, hf, h => ⟨fun h0 => hQ w V β a fr R hf (h.1 h0), fun i hi => by
    obtain ⟨_, o, ho, _⟩ := mem_ready.1 hi
    obtain ⟨x, Rn, h2, h3, h4⟩ := h.2 i hi o ho
    rcases h3.1 with ⟨h3, rfl⟩ | ⟨_, h3⟩
    · exact h3.wp_ hT h2 hf (fun w' V' a' hf' => any_of_F hT hQ fuel _ _ _ w' V' β a' hf' h4) ho
    · obtain ⟨hw, ⟨v, w', V', β', hr, hf', hv⟩ | ⟨hdst, w', hr, hf'⟩⟩ := h3.run hT hf
      · unfold wpOp
        rw [ho]
        simp only
        rw [if_pos (want_of hf hw)]
        refine .inl ?_
        unfold Oper.wp
        rw [hr]
        exact any_of_F hT hQ fuel _ _ _ w' V' β' _ (hf'.put h2 hv) h4
      · unfold wpOp
        rw [ho]
        simp only
        rw [if_pos (want_of hf hw)]
        refine .inl ?_
        unfold Oper.wp
        rw [hr]
        rw [hdst] at h4
        show wpAny P md ops Q fuel _ (a.put o.dst undef) w'
        rw [hdst]
        exact any_of_F hT hQ fuel _ _ _ w' V β a hf' h4⟩
variable {K : Kont}
theorem DOps.off {o : Oper} {d : Tmp} {rest : List Oper} (hw : wantA ops fr o = some false) (hdst : o.dst = some d) (hd : Nat.blt d N = true) (h : DOps P tys G N es lo ops K rest (upd fr d (.imm (.tuple ⟨[]⟩))) R) : DOps P tys G N es lo ops K (o :: rest) fr R := .step (.off hw) (fun c => by rw [hw] at c; cases c) hdst hd h
theorem DOps.pure {o : Oper} {d : Tmp} {rest : List Oper} {x : AV} (hg : rgB lo G fr o = true) (hop : opA tys G fr R o.op = some x) (hw : wantA ops fr o = some true) (hdst : o.dst = some d) (hd : Nat.blt d N = true) (h : DOps P tys G N es lo ops K rest (upd fr d x) R) : DOps P tys G N es lo ops K (o :: rest) fr R := .step (.pure hw hop) (fun _ => hg) hdst hd h
theorem DOps.val {o : Oper} {d : Tmp} {rest : List Oper} {x : AV} (hop : ValA tys G fr o.op x) (hw : wantA ops fr o = some true) (hdst : o.dst = some d) (hd : Nat.blt d N = true) (h : DOps P tys G N es lo ops K rest (upd fr d x) R) : DOps P tys G N es lo ops K (o :: rest) fr R := .step (.val hw hop) (fun _ => rgB_free (val_free hop)) hdst hd h
theorem DOps.cmp {o : Oper} {d : Tmp} {rest : List Oper} (p : Prop) (hop : CmpA G fr o.op p) (hw : wantA ops fr o = some true) (hdst : o.dst = some d) (hd : Nat.blt d N = true) (ht : p → DOps P tys G N es lo ops K rest (upd fr d (.imm (.bool true))) R) (hf : ¬ p → DOps P tys G N es lo ops K rest (upd fr d (.imm (.bool false))) R) : DOps P tys G N es lo ops K (o :: rest) fr R :=
  (Classical.em p).elim (fun hp => .step (.cmpT hw hop hp) (fun _ => rgB_free (cmp_free hop)) hdst hd (ht hp)) (fun hp => .step (.cmpF hw hop hp) (fun _ => rgB_free (cmp_free hop)) hdst hd (hf hp))
theorem DOps.eqS {o : Oper} {d : Tmp} {rest : List Oper} {t : TypeId} {x y : Operand} {u : TypeId} {k : Nat} {ks : List Nat} {l r : List AV} (hop : o.op = .binOp .eql t x y u) (ht : eqT tys t = k :: ks) (hx : look G fr x = .agg l) (hy : look G fr y = .agg r) (hl : kdL (k :: ks) l = true) (hr : kdL (k :: ks) r = true) (hw : wantA ops fr o = some true) (hdst : o.dst = some d) (hd : Nat.blt d N = true) (h1 : eqP l r → DOps P tys G N es lo ops K rest (upd fr d (.imm (.bool true))) R) (h2 : ¬ eqP l r → DOps P tys G N es lo ops K rest (upd fr d (.imm (.bool false))) R) : DOps P tys G N es lo ops K (o :: rest) fr R :=
  (Classical.em (eqP l r)).elim (fun hp => .step (.val hw (hop ▸ .eqS ht hx hy hl hr (by simp [hp]))) (fun _ => rgB_free (by rw [hop]; rfl)) hdst hd (h1 hp)) (fun hp => .step (.val hw (hop ▸ .eqS (b := false) ht hx hy hl hr (by simp [hp]))) (fun _ => rgB_free (by rw [hop]; rfl)) hdst hd (h2 hp))
theorem ROps.eqS {o : Oper} {d : Tmp} {rest : List Oper} {t : TypeId} {x y : Operand} {u : TypeId} {k : Nat} {ks : List Nat} {l r : List AV} (hop : o.op = .binOp .eql t x y u) (ht : eqT tys t = k :: ks) (hx : look G fr x = .agg l) (hy : look G fr y = .agg r) (hl : kdL (k :: ks) l = true) (hr : kdL (k :: ks) r = true) (hw : wantA ops fr o = some true) (hdst : o.dst = some d) (hd : Nat.blt d N = true) (h1 : eqP l r → ROps P tys G N ops K rest (upd fr d (.imm (.bool true))) R) (h2 : ¬ eqP l r → ROps P tys G N ops K rest (upd fr d (.imm (.bool false))) R) : ROps P tys G N ops K (o :: rest) fr R :=
  (Classical.em (eqP l r)).elim (fun hp => .val (hop ▸ .eqS ht hx hy hl hr (by simp [hp])) hw hdst hd (h1 hp)) (fun hp => .val (hop ▸ .eqS (b := false) ht hx hy hl hr (by simp [hp])) hw hdst hd (h2 hp))
theorem DOps.neS {o : Oper} {d : Tmp} {rest : List Oper} {t : TypeId} {x y : Operand} {u : TypeId} {k : Nat} {ks : List Nat} {l r : List AV} (hop : o.op = .binOp .neq t x y u) (ht : eqT tys t = k :: ks) (hx : look G fr x = .agg l) (hy : look G fr y = .agg r) (hl : kdL (k :: ks) l = true) (hr : kdL (k :: ks) r = true) (hw : wantA ops fr o = some true) (hdst : o.dst = some d) (hd : Nat.blt d N = true) (h1 : eqP l r → DOps P tys G N es lo ops K rest (upd fr d (.imm (.bool false))) R) (h2 : ¬ eqP l r → DOps P tys G N es lo ops K rest (upd fr d (.imm (.bool true))) R) : DOps P tys G N es lo ops K (o :: rest) fr R :=
  (Classical.em (eqP l r)).elim (fun hp => .step (.val hw (hop ▸ .neS (b := true) ht hx hy hl hr (by simp [hp]))) (fun _ => rgB_free (by rw [hop]; rfl)) hdst hd (h1 hp)) (fun hp => .step (.val hw (hop ▸ .neS (b := false) ht hx hy hl hr (by simp [hp]))) (fun _ => rgB_free (by rw [hop]; rfl)) hdst hd (h2 hp))
theorem ROps.neS {o : Oper} {d : Tmp} {rest : List Oper} {t : TypeId} {x y : Operand} {u : TypeId} {k : Nat} {ks : List Nat} {l r : List AV} (hop : o.op = .binOp .neq t x y u) (ht : eqT tys t = k :: ks) (hx : look G fr x = .agg l) (hy : look G fr y = .agg r) (hl : kdL (k :: ks) l = true) (hr : kdL (k :: ks) r = true) (hw : wantA ops fr o = some true) (hdst : o.dst = some d) (hd : Nat.blt d N = true) (h1 : eqP l r → ROps P tys G N ops K rest (upd fr d (.imm (.bool false))) R) (h2 : ¬ eqP l r → ROps P tys G N ops K rest (upd fr d (.imm (.bool true))) R) : ROps P tys G N ops K (o :: rest) fr R :=
  (Classical.em (eqP l r)).elim (fun hp => .val (hop ▸ .neS (b := true) ht hx hy hl hr (by simp [hp])) hw hdst hd (h1 hp)) (fun hp => .val (hop ▸ .neS (b := false) ht hx hy hl hr (by simp [hp])) hw hdst hd (h2 hp))
theorem DOps.idx {o : Oper} {d : Tmp} {rest : List Oper} {t : TypeId} {x i : Operand} {n sz : Nat} {row : Nat → List AV} {k : IntKind} {j : Int} (hop : o.op = .indexAddr t x i) (hx : slV (look G fr x) = some (n, sz + 1, row)) (hi : look G fr i = .imm (.int k j)) (he : elemA tys t = sz + 1) (hw : wantA ops fr o = some true) (hdst : o.dst = some d) (hd : Nat.blt d N = true) (h0 : 0 ≤ j) (h1 : j < (n : Int))
    (h : DOps P tys G N es lo ops K rest (upd fr d (.ptr (row j.toNat))) R) : DOps P tys G N es lo ops K (o :: rest) fr R := .step (.idx hw hop hx hi he h0 h1) (fun _ => rgB_free (by rw [hop]; rfl)) hdst hd h
theorem DOps.idxM {o : Oper} {d : Tmp} {rest : List Oper} {t : TypeId} {x i : Operand} {r n sz : Nat} {row : Nat → List AV} {k : IntKind} {j : Int} (hop : o.op = .indexAddr t x i) (hx : look G fr x = .msl r) (hR : R[r]? = some (.mat n (sz + 1) row)) (hi : look G fr i = .imm (.int k j)) (he : elemA tys t = sz + 1) (hw : wantA ops fr o = some true) (hdst : o.dst = some d) (hd : Nat.blt d N = true) (h0 : 0 ≤ j) (h1 : j < (n : Int))
    (h : DOps P tys G N es lo ops K rest (upd fr d (.loc r j.toNat 0)) R) : DOps P tys G N es lo ops K (o :: rest) fr R := .step (.idxM hw hop hx hR hi he h0 h1) (fun _ => rgB_free (by rw [hop]; rfl)) hdst hd h
theorem DOps.box {o : Oper} {d : Tmp} {rest : List Oper} {t : TypeId} {x : Operand} {l : List AV} (hop : o.op = .box t x) (hx : cellsA (look G fr x) = some l) (hrf : rf.rfL l = true) (hw : wantA ops fr o = some true) (hdst : o.dst = some d) (hd : Nat.blt d N = true) (h : DOps P tys G N es lo ops K rest (upd fr d (.ptr l)) R) : DOps P tys G N es lo ops K (o :: rest) fr R := .step (.box hw hop hx hrf) (fun _ => rgB_free (by rw [hop]; rfl)) hdst hd h
theorem DOps.store {o : Oper} (hg : rgB lo G fr o = true) {rest : List Oper} {R' : List Reg} {t : TypeId} {p x : Operand} {i : TI} {r n sz : Nat} {row : Nat → List AV} {j k : Nat} {c l l' : List AV} (hop : o.op = .store t p x) (hp : look G fr p = .loc r j k) (hR : R[r]? = some (.mat n sz row)) (hj : Nat.blt j n = true) (hi : ty tys t = some i) (hc : cellsA (look G fr x) = some c) (hs : Nat.beq c.length i.size = true) (hl : row j = l) (hk : Nat.ble (k + c.length) l.length = true) (hl' : l.take k ++ (c ++ l.drop (k + c.length)) = l') (hR' : R.set r (.mat n sz (setR n row j l')) = R') (hw : wantA ops fr o = some true) (hdst : o.dst = none)
    (h : DOps P tys G N es lo ops K rest fr R') : DOps P tys G N es lo ops K (o :: rest) fr R := by
  subst hR'
  subst hl
  subst hl'
  exact .eve (.store hop hp hR (by simpa [Nat.blt_eq] using hj) hi hc (Nat.eq_of_beq_eq_true hs) (Nat.le_of_ble_eq_true hk) (fun _ _ => rfl) hw hdst) (fun _ => hg) (by unfold evB; rw [hdst]) (by rw [hdst]; rfl) (by rw [hdst]; exact h)
theorem DOps.storeW {o : Oper} (hg : rgB lo G fr o = true) {rest : List Oper} {R' : List Reg} {t : TypeId} {p x : Operand} {i : TI} {r n sz : Nat} {row row' : Nat → List AV} {j k : Nat} {c : List AV} (hop : o.op = .store t p x) (hp : look G fr p = .loc r j k) (hR : R[r]? = some (.mat n sz row)) (hj : j < n) (hi : ty tys t = some i) (hc : cellsA (look G fr x) = some c) (hs : c.length = i.size) (hk : k + c.length ≤ (row j).length) (hrow : ∀ t, t < n → setR n row j ((row j).take k ++ (c ++ (row j).drop (k + c.length))) t = row' t) (hR' : R.set r (.mat n sz row') = R') (hw : wantA ops fr o = some true) (hdst : o.dst = none)
    (h : DOps P tys G N es lo ops K rest fr R') : DOps P tys G N es lo ops K (o :: rest) fr R := by
  subst hR'
  exact .eve (.store hop hp hR hj hi hc hs hk hrow hw hdst) (fun _ => hg) (by unfold evB; rw [hdst]) (by rw [hdst]; rfl) (by rw [hdst]; exact h)
theorem loadM_eq {o : Oper} {x : AV} {t : TypeId} {p : Operand} {ti : TI} {r n sz j k : Nat} {row : Nat → List AV} (hop : o.op = .load t p) (hp : look G fr p = .loc r j k) (hR : R[r]? = some (.mat n sz row)) (hj : j < n) (hti : ty tys t = some ti) (hl : loadA ((row j).drop k) ti = some x) : opA tys G fr R o.op = some x := by
  rw [hop]
  have hb : Nat.blt j n = true := by rw [Nat.blt_eq]; exact hj
  simp only [opA, hp, matR, hR, hb, hti]
  exact hl
theorem ROps.loadM {o : Oper} {d : Tmp} {rest : List Oper} {x : AV} {t : TypeId} {p : Operand} {ti : TI} {r n sz j k : Nat} {row : Nat → List AV} (hop : o.op = .load t p) (hp : look G fr p = .loc r j k) (hR : R[r]? = some (.mat n sz row)) (hj : j < n) (hti : ty tys t = some ti) (hl : loadA ((row j).drop k) ti = some x) (hw : wantA ops fr o = some true) (hdst : o.dst = some d) (hd : Nat.blt d N = true) (h : ROps P tys G N ops K rest (upd fr d x) R) : ROps P tys G N ops K (o :: rest) fr R := .pure (loadM_eq hop hp hR hj hti hl) hw hdst hd h
theorem DOps.loadM {o : Oper} {d : Tmp} {rest : List Oper} {x : AV} {t : TypeId} {p : Operand} {ti : TI} {r n sz j k : Nat} {row : Nat → List AV} (hg : rgB lo G fr o = true) (hop : o.op = .load t p) (hp : look G fr p = .loc r j k) (hR : R[r]? = some (.mat n sz row)) (hj : j < n) (hti : ty tys t = some ti) (hl : loadA ((row j).drop k) ti = some x) (hw : wantA ops fr o = some true) (hdst : o.dst = some d) (hd : Nat.blt d N = true) (h : DOps P tys G N es lo ops K rest (upd fr d x) R) : DOps P tys G N es lo ops K (o :: rest) fr R := .pure hg (loadM_eq hop hp hR hj hti hl) hw hdst hd h
theorem DOps.call {o : Oper} {d : Tmp} {rest : List Oper} {f : FuncId} {as : List Operand} {ts : Array TypeId} {args : List AV} {x : AV} (hop : o.op = .call ⟨.value (.func f), ⟨as⟩, ts⟩) (hc : CallOK P G f args x) (ha : ArgsOK (as.map (look G fr)) args) (hw : wantA ops fr o = some true) (hdst : o.dst = some d) (hd : Nat.blt d N = true) (h : DOps P tys G N es lo ops K rest (upd fr d x) R) : DOps P tys G N es lo ops K (o :: rest) fr R := .step (.call hw hop hc ha) (fun _ => rgB_free (by rw [hop]; rfl)) hdst hd h
theorem DOps.callv {o : Oper} {d : Tmp} {rest : List Oper} {f : FuncId} {q : Operand} {cs : List AV} {as : List Operand} {ts : Array TypeId} {args : List AV} {x : AV} (hop : o.op = .call ⟨.value q, ⟨as⟩, ts⟩) (hq : look G fr q = .fn f cs) (hc : CallOK P G f args x) (ha : ArgsOK (as.map (look G fr) ++ cs) args) (hw : wantA ops fr o = some true) (hdst : o.dst = some d) (hd : Nat.blt d N = true) (h : DOps P tys G N es lo ops K rest (upd fr d x) R) : DOps P tys G N es lo ops K (o :: rest) fr R := .step (.callv hw hop hq hc ha) (fun _ => rgB_free (by rw [hop]; rfl)) hdst hd h
theorem DOps.lit {o : Oper} {d : Tmp} {rest : List Oper} {t : TypeId} {ti : TI} {len sz : Nat} {parts : List (Nat × Operand)} {l : List AV} (hop : o.op = .buildSlice t len ⟨parts⟩) (hti : ty tys t = some ti) (hsz : ti.elem = sz + 1) (hl : litA (sz + 1) len (parts.map (fun p => (p.1, look G fr p.2))) = some l) (hrf : rf.rfL l = true) (hb : Nat.ble (len * (sz + 1)) 16777216 = true) (hw : wantA ops fr o = some true) (hdst : o.dst = some d) (hd : Nat.blt d N = true) (h : DOps P tys G N es lo ops K rest (upd fr d (.sl len (sz + 1) (litR (sz + 1) l))) R) : DOps P tys G N es lo ops K (o :: rest) fr R := .step (.lit hw hop hti hsz hl hrf hb) (fun _ => rgB_free (by rw [hop]; rfl)) hdst hd h
theorem DOps.litO {o : Oper} {d : Tmp} {rest : List Oper} {t : TypeId} {ti : TI} {len sz : Nat} {parts : List (Nat × Operand)} {l : List AV} (hop : o.op = .buildSlice t len ⟨parts⟩) (hti : ty tys t = some ti) (hsz : ti.elem = sz + 1) (hl : litA (sz + 1) len (parts.map (fun p => (p.1, look G fr p.2))) = some l) (hrf : rf.rfL l = true) (hb : Nat.ble (len * (sz + 1)) 16777216 = true) (hw : wantA ops fr o = some true) (hdst : o.dst = some d) (he : es.contains d = true) (hd : Nat.blt d N = true) (h : DOps P tys G N es lo ops K rest (upd fr d (.own R.length len (sz + 1) (litR (sz + 1) l))) (R ++ [.arr ti.el (sz + 1) len])) : DOps P tys G N es lo ops K (o :: rest) fr R := .eff (.litO hop hti hsz hl hrf hb hw) (fun _ => rgB_free (by rw [hop]; rfl)) hdst he hd h
theorem DOps.app {o : Oper} {d : Tmp} {rest : List Oper} {Rn : List Reg} {t : TypeId} {s x : Operand} {ti : TI} {i n m sz : Nat} {row row2 : Nat → List AV} (hop : o.op = .call ⟨.builtin .append, ⟨[s, x]⟩, ⟨[t, t]⟩⟩) (hti : ty tys t = some ti) (hsz : ti.elem = sz + 1) (hs : look G fr s = .own i n (sz + 1) row) (hR : R[i]? = some (.arr ti.el (sz + 1) n)) (hx : slV (look G fr x) = some (m, sz + 1, row2)) (hb : n + m ≤ maxLen ∧ (n + m) * ti.eby ≤ 140737488355328) (hR' : (R.set i .dead) ++ [.arr ti.el (sz + 1) (n + m)] = Rn) (hw : wantA ops fr o = some true) (hdst : o.dst = some d) (he : es.contains d = true) (hd : Nat.blt d N = true) (h : DOps P tys G N es lo ops K rest (upd fr d (.own R.length (n + m) (sz + 1) (appR n row row2))) Rn) : DOps P tys G N es lo ops K (o :: rest) fr R := by
  subst hR'
  exact .eff (.app hop hti hsz hs hR hx hb hw) (fun _ => rgB_free (by rw [hop]; rfl)) hdst he hd h
theorem DOps.appN {o : Oper} {d : Tmp} {rest : List Oper} {t : TypeId} {s x : Operand} {ti : TI} {m sz : Nat} {row2 : Nat → List AV} (hop : o.op = .call ⟨.builtin .append, ⟨[s, x]⟩, ⟨[t, t]⟩⟩) (hti : ty tys t = some ti) (hsz : ti.elem = sz + 1) (hs : look G fr s = .imm (.slice none 0 0)) (hx : slV (look G fr x) = some (m, sz + 1, row2)) (hb : m ≤ maxLen ∧ m * ti.eby ≤ 140737488355328) (hw : wantA ops fr o = some true) (hdst : o.dst = some d) (he : es.contains d = true) (hd : Nat.blt d N = true) (h : DOps P tys G N es lo ops K rest (upd fr d (.own R.length m (sz + 1) row2)) (R ++ [.arr ti.el (sz + 1) m])) : DOps P tys G N es lo ops K (o :: rest) fr R := .eff (.appN hop hti hsz hs hx hb hw) (fun _ => rgB_free (by rw [hop]; rfl)) hdst he hd h
end
/-- A region that draws its order; the operations that turn the list of regions (es: where they leave what they yield) come one behind the other in each order. -/
theorem Runs.drawnL {c : Cx} {Fn : Fin} {k : List Item} {fr : Fr} {R : List Reg} (es : List Nat) (lo : List (Nat × Nat)) (hT : TyOK c.P c.tys) (hm : c.P.follows .mixedOrders = true) {id : Nat} {l : List Oper} (hB : (Region.lexB .any l.toArray && esFrom .any es lo l.toArray l.length 0 (Array.replicate l.toArray.size false)) = true) (h : DOps c.P c.tys c.G c.N es lo l.toArray (Runs c Fn k) l fr R) : Runs c Fn (.code (.region id l.toArray true) :: k) fr R := by
  refine .of_wp fun E w V β a hm2 hf => wp_region_any hm ?_
  rw [Bool.and_eq_true] at hB
  obtain ⟨hB, hE⟩ := hB
  simp only [Region.lexB, Bool.and_eq_true] at hB
  have h1 := anyF_lex (md := .any) hB.1 l 0 (Array.replicate l.toArray.size false) fr R (fun j => by simp) (by simpa using hB.2) hE h
  have h2 := any_of_F (E := E) hT (Q := fun e a' w' => e = .normal ∧ ∃ V' β' fr' R', Fits c.G E c.N w' V' β' R' fr' a' ∧ Runs c Fn k fr' R') (fun w' V' β' a' fr' R' hf' hk => ⟨rfl, V', β', fr', R', hf', hk⟩) _ _ fr R _ V β a (hf.drawn (w.drawn + 1)) h1
  simpa using h2
theorem Runs.drawnE {c : Cx} {Fn : Fin} {k : List Item} {fr : Fr} {R : List Reg} (es : List Nat) (hT : TyOK c.P c.tys) (hm : c.P.follows .mixedOrders = true) {id : Nat} {l : List Oper} (hB : (Region.lexB .any l.toArray && esFrom .any es [] l.toArray l.length 0 (Array.replicate l.toArray.size false)) = true) (h : DOps c.P c.tys c.G c.N es [] l.toArray (Runs c Fn k) l fr R) : Runs c Fn (.code (.region id l.toArray true) :: k) fr R := .drawnL es [] hT hm hB h
/-- Rows that may be written are left as they are, ahead of a region. -/
theorem Runs.frz {c : Cx} {Fn : Fin} {k : List Item} {fr : Fr} {R R' : List Reg} (id : Nat) {ops : Array Oper} {b : Bool} (i : Nat) {n sz : Nat} {row : Nat → List AV} (row' : Nat → List AV) (hR : R[i]? = some (.mat n sz row)) (hrow : ∀ j, j < n → RefL (row j) (row' j)) (hrf : ∀ j, j < n → rf.rfL (row' j) = true) (hR' : thR i n sz row' R = R') (h : Runs c Fn (.code (.region id ops b) :: k) (fun t => thA i n sz row' (fr t)) R') : Runs c Fn (.code (.region id ops b) :: k) fr R := by
  subst hR'
  intro E w V β a hm hf
  obtain ⟨V', hf'⟩ := hf.thawW hR hrow hrf
  exact h E w V' β a hm hf'
/-- A whole element is written. -/
theorem setR_rows {n : Nat} {α : Type} {e : α → List AV} {z y : α} {l : List α} {j : Nat} (hn : l.length = n) (hj : j < n) (hk : (e y).length = (e (l.getD j z)).length) : ∀ t, t < n → setR n (rowsE e z l) j ((rowsE e z l j).take 0 ++ (e y ++ (rowsE e z l j).drop (0 + (e y).length))) t = rowsE e z (l.set j y) t := fun t ht => by
  rw [setR_at hj ht]
  have : (rowsE e z l j).drop (0 + (e y).length) = [] := List.drop_eq_nil_of_le (by unfold rowsE; omega)
  rw [this, List.take_zero, List.nil_append, List.append_nil]
  unfold rowsE
  by_cases c : t = j
  · subst c
    rw [if_pos rfl, List.getD_eq_getElem?_getD, List.getElem?_set_self (by omega)]; rfl
  · rw [if_neg c, List.getD_eq_getElem?_getD, List.getD_eq_getElem?_getD, List.getElem?_set_ne (Ne.symm c)]
/-- A row that may be appended to, one element behind it. -/
theorem RefX.snocO {l : List (Option Nat)} {R' : List Reg} {k i : Nat} {α : Type} {e : α → List AV} {z : α} {m : List α} {row2 : Nat → List AV} {x : α} {sz : Nat} (hr : rho l i = some k) (hi : Nat.blt i R'.length = true) (h1 : RefL (row2 0) (e x)) (hf : ∀ y, rf.rfL (e y) = true) : RefX l R' (.own k (m.length + 1) sz (appR m.length (rowsE e z m) row2)) (.own i (m ++ [x]).length sz (rowsE e z (m ++ [x]))) :=
  .ownR hr hi (by simp) (Ref.snocW h1 hf)
theorem row1X {row row' : Nat → List AV} (h : RefL (row 0) (row' 0)) : ∀ j, j < 1 → RefL (row j) (row' j) := fun j hj => by
  obtain rfl : j = 0 := by omega
  exact h
theorem lit1X {sz : Nat} {l : List AV} (h : l.length = sz) : ∀ j, j < 1 → litR sz l j = (fun _ => l) j := fun j hj => by
  obtain rfl : j = 0 := by omega
  show (l.drop (0 * sz)).take sz = l
  rw [Nat.zero_mul, List.drop_zero, List.take_of_length_le (by omega)]
/-- The same, the rows told by a list. -/
theorem Runs.frzL {c : Cx} {Fn : Fin} {k : List Item} {fr : Fr} {R R' : List Reg} (id : Nat) {ops : Array Oper} {b : Bool} (i : Nat) {α : Type} (e : α → List AV) (z : α) (l : List α) {n sz : Nat} {row : Nat → List AV} (hR : R[i]? = some (.mat n sz row)) (hrow : ∀ j, j < n → RefL (row j) (rowsE e z l j)) (hn : n = l.length) (hrf : ∀ j, rf.rfL (rowsE e z l j) = true) (hR' : thR i l.length sz (rowsE e z l) R = R') (h : Runs c Fn (.code (.region id ops b) :: k) (fun t => thA i l.length sz (rowsE e z l) (fr t)) R') : Runs c Fn (.code (.region id ops b) :: k) fr R := by
  subst hn
  exact .frz id i _ hR hrow (fun j _ => hrf j) hR' h
theorem setR_one {row : Nat → List AV} {j t : Nat} {l : List AV} : setR 1 row j l t = l := rfl
theorem ite_posF {α : Type} {p : Prop} [Decidable p] {a b r : α} (h : (if p then a else b) = r) (hp : p) : a = r := by rw [if_pos hp] at h; exact h
theorem ite_negF {α : Type} {p : Prop} [Decidable p] {a b r : α} (h : (if p then a else b) = r) (hp : ¬p) : b = r := by rw [if_neg hp] at h; exact h
theorem ROps.build {P : Program} {tys : Tys} {G : Glo} {N : Nat} {ops : Array Oper} {K : Kont} {o : Oper} {d : Tmp} {rest : List Oper} {fr : Fr} {R : List Reg} {t : TypeId} {ps : Array (Nat × Operand)} {l0 l : List AV} (hb : o.op = .build t ps) (hop : opA tys G fr R o.op = some (.agg l0)) (hl : l0 = l) (hw : wantA ops fr o = some true) (hdst : o.dst = some d) (hd : Nat.blt d N = true) (h : ROps P tys G N ops K rest (upd fr d (.agg l)) R) : ROps P tys G N ops K (o :: rest) fr R := by
  subst hl; exact .pure hop hw hdst hd h
end Go.Proofs.Ytdcabfonjmeajaa.Abs
